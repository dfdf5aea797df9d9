/- Fun's small helpers: fault, num, truth, isFault, count. -/
import Derived.Test.YtmhfioimgllgeaaGreatDoorU33
import Derived.Test.YtmhfioimgllgeaaGreatDoorU38
import Derived.Test.YtmhfioimgllgeaaGreatDoorU41
namespace Go.Proofs.YtmhfioimgllgeaaGreatDoor
open Go Go.RowKit Go.Shelf
set_option maxHeartbeats 1000000 in
theorem fault_any (n:Int) (w:World):Calls Tryz.prog 44 #[.int .i64 n] w (Gives (.agg (pcs (errV n))) w):=by
 go_enter Tryz.func44,Tryz.ntmps44
 go_wp2_with (first|refine wpList_alloc34 rfl rfl ?_|refine wpList_build_err rfl rfl (by rfl) ?_|(refine wpList_store34 rfl rfl rfl rfl (World.vb_new' _ _ _ (by simp)) (by rfl) (pcs_one _) ?_;intro w1 hn1 hg1 hz1))
 refine bodyPost_ret (results_cell_row rfl _ _ _ 39 _ (0,0) _ rfl hn1 Tryz.underlying39 rfl info34) rfl ?_
 exact⟨rfl,(((Below.refl _ w).alloc (Nat.le_refl _) _)).grown hg1 (by simp) (fun k hk=>by cases hk;simp)⟩
set_option maxHeartbeats 1000000 in
theorem num_any (M E:Int) (w:World):Calls Tryz.prog 119 #[.agg #[.int .i64 M,.int .i64 E]] w (Gives (.agg (pcs (numV (M,E)))) w):=by
 go_enter Tryz.func119,Tryz.ntmps119
 go_wp2_with (first|refine wpList_alloc34 rfl rfl ?_|refine wpList_build_num rfl rfl (by rfl) ?_|(refine wpList_store34 rfl rfl rfl rfl (World.vb_new' _ _ _ (by simp)) (by rfl) (pcs_one _) ?_;intro w1 hn1 hg1 hz1))
 refine bodyPost_ret (results_cell_row rfl _ _ _ 39 _ (0,0) _ rfl hn1 Tryz.underlying39 rfl info34) rfl ?_
 exact⟨rfl,(((Below.refl _ w).alloc (Nat.le_refl _) _).alloc (by simp) _).grown hg1 (by simp;omega) (fun k hk=>by cases hk;simp)⟩
set_option maxHeartbeats 1000000 in
theorem truthF_any (b:Bool) (w:World):Calls Tryz.prog 137 #[.bool b] w (Gives (.agg (pcs (trV b))) w):=by
 go_enter Tryz.func137,Tryz.ntmps137
 go_wp2_with (first|refine wpList_alloc34 rfl rfl ?_|refine wpList_build_tr rfl rfl (by rfl) ?_|(refine wpList_store34 rfl rfl rfl rfl (World.vb_new' _ _ _ (by simp)) (by rfl) (pcs_one _) ?_;intro w1 hn1 hg1 hz1))
 refine bodyPost_ret (results_cell_row rfl _ _ _ 39 _ (0,0) _ rfl hn1 Tryz.underlying39 rfl info34) rfl ?_
 exact⟨rfl,(((Below.refl _ w).alloc (Nat.le_refl _) _)).grown hg1 (by simp) (fun k hk=>by cases hk;simp)⟩
set_option maxHeartbeats 1000000 in
theorem isfault_any (x:Vl) (C:Array Value) (w:World) (hC:C[0]? =some (.int .i64 x.k)) (hO:OneC C):Calls Tryz.prog 144 #[.agg C] w (Gives (.bool (x.k==4)) w):=by
 have hvx:World.vb (w.alloc (.cells C 39)) w.heap.size C:=World.vb_new w C
 have c0:=hvx.cell hC
 have hcl:C.all (·.oneCell')=true:=hO.2
 go_enter Tryz.func144,Tryz.ntmps144
 go_wp2_with fail
 go_ret
 exact⟨rfl,(Below.refl _ w).alloc (Nat.le_refl _) _⟩
end Go.Proofs.YtmhfioimgllgeaaGreatDoor
