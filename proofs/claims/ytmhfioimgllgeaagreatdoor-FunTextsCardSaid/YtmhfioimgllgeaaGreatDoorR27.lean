/- val.names; val.written at plain values that are no texts. -/
import Derived.Test.YtmhfioimgllgeaaGreatDoorR26
import Derived.Test.YtmhfioimgllgeaaGreatDoorR24
namespace Go.Proofs.YtmhfioimgllgeaaGreatDoor
open Go Go.RowKit Go.Shelf
set_option maxRecDepth 100000 in
set_option maxHeartbeats 4000000 in
theorem writ_0 (w:World):Calls Tryz.prog 284 #[.agg (pcs {})] w (Gives (.string (mk [])) w):=by
 obtain⟨C,hC⟩:∃C,pcs {}=C:=⟨_,rfl⟩
 have x0:C[0]? =some (.int .i64 0):=by rw[←hC];rfl
 rw[hC]
 clear hC
 go_enter Tryz.func284,Tryz.ntmps284
 go_wp2_with fail
 go_ret
 exact⟨rfl,(Below.refl _ w).alloc (Nat.le_refl _) _⟩
set_option maxRecDepth 100000 in
set_option maxHeartbeats 4000000 in
theorem writ_1 (M E:Int) (w:World) (h0: -9223372036854775808≤M) (h1:M≤9223372036854775807):Calls Tryz.prog 284 #[.agg (pcs (numV (M,E)))] w (Gives (.string (mk (textD M E).1)) w):=by
 have HT:=Lib.hid (text_any M E · h0 h1)
 obtain⟨C,hC⟩:∃C,pcs (numV (M,E))=C:=⟨_,rfl⟩
 have x0:C[0]? =some (.int .i64 1):=by rw[←hC];rfl
 have x1:C[1]? =some (.int .i64 M):=by rw[←hC];rfl
 have x2:C[2]? =some (.int .i64 E):=by rw[←hC];rfl
 rw[hC]
 clear hC
 go_enter Tryz.func284,Tryz.ntmps284
 go_wp2_with fail
 refine(HT.out _).mono ?_
 rintro e2 w2 ⟨rfl,hB2⟩
 have hB:=((Below.refl _ w).alloc (Nat.le_refl _) (.cells C 39)).trans (hB2.mono (by simp))
 go_wp2_with fail
 go_ret
 exact⟨rfl,hB⟩
set_option maxRecDepth 100000 in
set_option maxHeartbeats 4000000 in
theorem writ_3 (b:Bool) (w:World):Calls Tryz.prog 284 #[.agg (pcs (trV b))] w (Gives (.string (mk (if b then TRUEL else FALSEL))) w):=by
 obtain⟨C,hC⟩:∃C,pcs (trV b)=C:=⟨_,rfl⟩
 have x0:C[0]? =some (.int .i64 3):=by rw[←hC];rfl
 have x4:C[4]? =some (.bool b):=by rw[←hC];rfl
 rw[hC]
 clear hC
 cases b
 all_goals
  go_enter Tryz.func284,Tryz.ntmps284
  go_wp2_with fail
  go_ret
  exact⟨rfl,(Below.refl _ w).alloc (Nat.le_refl _) _⟩
end Go.Proofs.YtmhfioimgllgeaaGreatDoor
