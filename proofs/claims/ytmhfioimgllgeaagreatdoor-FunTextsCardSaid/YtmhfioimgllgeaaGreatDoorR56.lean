/- Merged: Flw, Lgw. -/
import Derived.Test.YtmhfioimgllgeaaGreatDoorR49
import Derived.Test.YtmhfioimgllgeaaGreatDoorR55
import Derived.Test.YtmhfioimgllgeaaGreatDoorR53
import Derived.Test.YtmhfioimgllgeaaGreatDoorR43
import Derived.Test.YtmhfioimgllgeaaGreatDoorR41
import Derived.Deep.CutBlock
namespace Go.Proofs.YtmhfioimgllgeaaGreatDoor
open Go Go.RowKit Go.Shelf
theorem bslice1g (x:Vl) (w:World):(Instr.buildSlice 31 1 #[(0,.agg (pcs x))]).run Tryz.prog w= .ok (.slice (some ⟨w.heap.size,0,none⟩) 1 1) (w.alloc (.cells (vsC [x]).toArray 39)):=by kernel_rfl
theorem els_new (l:List Vl) (w:World):Els l w.heap.size 0 (w.alloc (.cells (vsC l).toArray 39)):=by
 refine⟨by simp,fun i y hy j u hj=> ?_⟩
 rw[Nat.zero_add]
 have h:=World.vb_new w (vsC l).toArray
 refine h.cell ?_
 rw[List.getElem?_toArray]
 have e:vsC l=(l.map pcs).flatMap (·.toList):=by unfold vsC;rw[List.flatMap_map]
 rw[e]
 refine cat_at (l.map pcs) (fun C hC=> ?_) i j (by rw[List.getElem?_map,hy];rfl) hj
 obtain⟨z,_,rfl⟩:=List.mem_map.1 hC
 rfl
theorem op_bsl1 {o:Oper} {a:Act} {w:World} {K:Act→World→Prop} {Q:Exit→Act→World→Prop} {p:Operand} {x:Vl} (ho:o.op= .buildSlice 31 1 #[(0,p)]) (hx:a.eval p= .agg (pcs x)) (h:K (a.put o.dst (.slice (some ⟨w.heap.size,0,none⟩) 1 1)) (w.alloc (.cells (vsC [x]).toArray 39))):o.wp Tryz.prog a w K Q:=by
 have hz:=bslice1g x w
 unfold Oper.wp execOp
 simp[ho,hx,hz]
 exact h
set_option maxRecDepth 100000 in
set_option maxHeartbeats 4000000 in
theorem call20 (s:ByteArray) (L:Value) (w:World) (y:Vl) (p:Option Addr) (n c:Nat) (hL:L= .slice p n c) (h:∀W,Below w.heap.size w W→Calls Tryz.prog 18 #[.string s,L,.agg #[.int .i64 0,.int .i64 0]] W (Gives (.agg (pcs y)) W)):Calls Tryz.prog 20 #[.string s,L] w (Gives (.agg (pcs y)) w):=by
 subst hL
 have hB0:Below w.heap.size w (w.alloc (.cells vz 39)):=(Below.refl _ w).alloc (Nat.le_refl _) _
 have hv0:World.vb (w.alloc (.cells vz 39)) w.heap.size vz:=World.vb_new w vz
 have HC:=Lib.hid (h _ hB0)
 clear h
 go_enter Tryz.func20,Tryz.ntmps20
 go_wp2_with (first|refine wpList_alloc34 rfl rfl ?_|(go_at_call 18;refine HC.out.mono ?_;rintro e w1 ⟨rfl,hB1⟩;have hvy:=hv0.below hB1 hv0.lt;have hB:=hB0.trans (hB1.mono hB0.size))|(refine wpList_store34 rfl rfl rfl rfl hvy (by rfl) (pcs_one _) ?_;intro w9 hn9 hg9 hz9))
 refine bodyPost_ret (results_cell_row rfl _ _ _ 39 _ (0,0) _ rfl hn9 Tryz.underlying39 rfl info34) rfl ?_
 exact⟨rfl,hB.grown hg9 hB.size (fun k9 hk9=>by cases hk9;omega)⟩
end Go.Proofs.YtmhfioimgllgeaaGreatDoor
namespace Go.Proofs.YtmhfioimgllgeaaGreatDoor
open Go Go.RowKit Go.Shelf
theorem yields_trv {a:Act} {o:Oper} {w:World} {x:Operand} {b:Bool} (ho:o.op= .build 39 #[(0,.const (.int .i64 3)),(3,x)]) (hx:a.eval x= .bool b):(execOp a.eval o).run Tryz.prog w= .ok (.value (.agg (pcs (trV b)))) w:=by
 have hb:=build_tr b w
 have e1:a.eval (.const (.int .i64 3))= .int .i64 3:=rfl
 unfold execOp
 simp[ho,e1,hx,hb]
end Go.Proofs.YtmhfioimgllgeaaGreatDoor
