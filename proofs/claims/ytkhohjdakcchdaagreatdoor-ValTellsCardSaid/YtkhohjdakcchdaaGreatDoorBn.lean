/- Merged: Tel, Rdv. -/
import Derived.Test.YtkhohjdakcchdaaGreatDoorWrt
import Derived.Test.YtkhohjdakcchdaaGreatDoorFld
import Derived.Test.YtkhohjdakcchdaaGreatDoorBk
namespace Go.Proofs.YtkhohjdakcchdaaGreatDoor
open Go Go.RowKit Go.Shelf
set_option maxRecDepth 100000 in
set_option maxHeartbeats 4000000 in
theorem num_0  (w:World):Calls Tryz.prog 76 #[.agg (pcs {})] w (Gives (.agg (pcs (numV (0,0)))) w):=by
 have hO:=pcs_one {}
 obtain⟨C,hC⟩:∃C,pcs {}=C:=⟨_,rfl⟩
 have x0:C[0]? =some (.int .i64 0):=by rw[←hC];rfl
 rw[hC]at hO⊢
 have HO:=Lib.hid hO
 have HC:=Lib.hid hC
 clear hC hO
 go_enter Tryz.func76,Tryz.ntmps76
 go_wp2_with (refine wpList_alloc34 rfl rfl ?_)
 obtain⟨W,hW⟩:∃W,W=(w.alloc (.cells C 34)).alloc (.cells vz 34):=⟨_,rfl⟩
 rw[←hW]
 have hvx:World.vb W w.heap.size C:=by rw[hW];exact(World.vb_new w C).alloc _
 have hvy:World.vb W (w.heap.size+1) vz:=by rw[hW];exact World.vb_new' _ _ _ (by simp)
 have hB:Below w.heap.size w W:=by rw[hW];exact((Below.refl _ w).alloc (Nat.le_refl _) _).alloc (by simp) _
 have hz:w.heap.size+1<W.heap.size:=by rw[hW];simp
 clear hW
 refine(number_any 0 0 _).mono ?_
 rintro e2 w2 ⟨rfl,hB2⟩
 have hvx:=hvx.below hB2 hvx.lt
 have hvy:=hvy.below hB2 hvy.lt
 have hB:=hB.trans (hB2.mono hB.size)
 have hz:=Nat.lt_of_lt_of_le hz hB2.size
 clear hB2
 go_wp2_with (refine wpList_store34 rfl rfl rfl rfl hvy (by rfl) (pcs_one _) ?_;intro w9 hn9 hg9 hz9)
 refine bodyPost_ret (results_cell_row rfl _ _ _ 34 _ (0,0) _ rfl hn9 Tryz.underlying34 rfl info34) rfl ?_
 exact⟨rfl,hB.grown hg9 hB.size (fun k9 hk9=>by cases hk9;omega)⟩
set_option maxRecDepth 100000 in
set_option maxHeartbeats 4000000 in
theorem num_1 (p:Int×Int) (w:World):Calls Tryz.prog 76 #[.agg (pcs (numV p))] w (Gives (.agg (pcs (numV p))) w):=by
 have hO:=pcs_one (numV p)
 obtain⟨C,hC⟩:∃C,pcs (numV p)=C:=⟨_,rfl⟩
 have x0:C[0]? =some (.int .i64 1):=by rw[←hC];rfl
 rw[hC]at hO⊢
 have HO:=Lib.hid hO
 have HC:=Lib.hid hC.symm
 clear hC hO
 go_enter Tryz.func76,Tryz.ntmps76
 go_wp2_with (first|refine wpList_alloc34 rfl rfl ?_|refine wpList_load34 rfl rfl rfl ((World.vb_new w C).alloc _) HO.out.1 ?_|(refine wpList_store34 rfl rfl rfl rfl (World.vb_new' (w.alloc (.cells C 34)) vz _ (by simp)) (by rfl) HO.out ?_;intro w9 hn9 hg9 hz9))
 refine bodyPost_ret (results_cell_row rfl _ _ _ 34 _ (0,0) _ rfl hn9 Tryz.underlying34 rfl (by rw[HO.out.1];exact info34)) rfl ?_
 exact⟨by rw[HC.out],(((Below.refl _ w).alloc (Nat.le_refl _) _).alloc (by simp) _).grown hg9 (by simp;omega) (fun k9 hk9=>by cases hk9;simp)⟩
set_option maxRecDepth 100000 in
set_option maxHeartbeats 4000000 in
theorem num_2 (s:ByteArray) (w:World) (hs:s.size≤4294967280) (hS:Shp w):Calls Tryz.prog 76 #[.agg (pcs (txtV s))] w (Gives (.agg (pcs (numT (txtV s)))) w):=by
 obtain⟨x,y,er,hr⟩:=three (readD s.data.toList)
 have HR:=Lib.hid (show ∀W,Below w.heap.size w W→Calls Tryz.prog 43 #[.string s] W (DecPost ((x,y),er) W)from fun W hW=>by rw[←hr];exact read_any s W (by omega) (hS.below hW))
 have HV:Hid (numT (txtV s)=if er=0 then numV (x,y)else errV 3):=by
  show(if(readD s.data.toList).2=0 then numV (readD s.data.toList).1 else errV 3)=_
  rw[hr]
 obtain⟨V,hV⟩:∃V,numT (txtV s)=V:=⟨_,rfl⟩
 rw[hV]at HV⊢
 obtain⟨C,hC⟩:∃C,pcs (txtV s)=C:=⟨_,rfl⟩
 have x0:C[0]? =some (.int .i64 2):=by rw[←hC];rfl
 have x3:C[3]? =some (.string s):=by rw[←hC];rfl
 rw[hC]
 clear hC hr hV hs hS
 go_enter Tryz.func76,Tryz.ntmps76
 go_wp2_with (refine wpList_alloc34 rfl rfl ?_)
 obtain⟨W,hW⟩:∃W,W=(w.alloc (.cells C 34)).alloc (.cells vz 34):=⟨_,rfl⟩
 rw[←hW]
 have hvy:World.vb W (w.heap.size+1) vz:=by rw[hW];exact World.vb_new' _ _ _ (by simp)
 have hB:Below w.heap.size w W:=by rw[hW];exact((Below.refl _ w).alloc (Nat.le_refl _) _).alloc (by simp) _
 clear hW
 refine(HR.out _ hB).mono ?_
 rintro e2 w2 ⟨rfl,hB2⟩
 have hvy:=hvy.below hB2 hvy.lt
 have hB:=hB.trans (hB2.mono hB.size)
 clear hB2
 have hz2:=hvy.lt
 by_cases he:er=0
 ·subst he
  have HX:Hid (V=numV (x,y)):=by show _=_;rw[HV.out,if_pos rfl]
  go_wp2_with fail
  obtain⟨W3,hW3⟩:∃W3,W3=w2.alloc (.cells #[.int .i64 x,.int .i64 y] 23):=⟨_,rfl⟩
  rw[←hW3]
  have hvy:World.vb W3 (w.heap.size+1) vz:=by rw[hW3];exact hvy.alloc _
  have hB:Below w.heap.size w W3:=by rw[hW3];exact hB.alloc hB.size _
  clear hW3 hz2
  refine(number_any x y _).mono ?_
  rintro e4 w4 ⟨rfl,hB4⟩
  have hvy:=hvy.below hB4 hvy.lt
  have hB:=hB.trans (hB4.mono hB.size)
  clear hB4
  go_wp2_with (refine wpList_store34 rfl rfl rfl rfl hvy (by rfl) (pcs_one _) ?_;intro w9 hn9 hg9 hz9)
  refine bodyPost_ret (results_cell_row rfl _ _ _ 34 _ (0,0) _ rfl hn9 Tryz.underlying34 rfl info34) rfl ?_
  exact⟨by rw[HX.out],hB.grown hg9 hB.size (fun k9 hk9=>by cases hk9;omega)⟩
 ·have HX:Hid (V=errV 3):=by show _=_;rw[HV.out,if_neg he]
  have he2:(er != 0)=true:=by simpa using he
  clear he
  go_wp2_with fail
  obtain⟨W3,hW3⟩:∃W3,W3=w2.alloc (.cells #[.int .i64 x,.int .i64 y] 23):=⟨_,rfl⟩
  rw[←hW3]
  have hvy:World.vb W3 (w.heap.size+1) vz:=by rw[hW3];exact hvy.alloc _
  have hB:Below w.heap.size w W3:=by rw[hW3];exact hB.alloc hB.size _
  clear hW3 hz2
  refine(err_any 3 _).mono ?_
  rintro e4 w4 ⟨rfl,hB4⟩
  have hvy:=hvy.below hB4 hvy.lt
  have hB:=hB.trans (hB4.mono hB.size)
  clear hB4
  go_wp2_with (refine wpList_store34 rfl rfl rfl rfl hvy (by rfl) (pcs_one _) ?_;intro w9 hn9 hg9 hz9)
  refine bodyPost_ret (results_cell_row rfl _ _ _ 34 _ (0,0) _ rfl hn9 Tryz.underlying34 rfl info34) rfl ?_
  exact⟨by rw[HX.out],hB.grown hg9 hB.size (fun k9 hk9=>by cases hk9;omega)⟩
set_option maxRecDepth 100000 in
set_option maxHeartbeats 4000000 in
theorem num_3t  (w:World):Calls Tryz.prog 76 #[.agg (pcs (trV true))] w (Gives (.agg (pcs (numV (1,0)))) w):=by
 have hO:=pcs_one (trV true)
 obtain⟨C,hC⟩:∃C,pcs (trV true)=C:=⟨_,rfl⟩
 have x0:C[0]? =some (.int .i64 3):=by rw[←hC];rfl
 have x4:C[4]? =some (.bool true):=by rw[←hC];rfl
 rw[hC]at hO⊢
 have HO:=Lib.hid hO
 have HC:=Lib.hid hC
 clear hC hO
 go_enter Tryz.func76,Tryz.ntmps76
 go_wp2_with (refine wpList_alloc34 rfl rfl ?_)
 obtain⟨W,hW⟩:∃W,W=(w.alloc (.cells C 34)).alloc (.cells vz 34):=⟨_,rfl⟩
 rw[←hW]
 have hvx:World.vb W w.heap.size C:=by rw[hW];exact(World.vb_new w C).alloc _
 have hvy:World.vb W (w.heap.size+1) vz:=by rw[hW];exact World.vb_new' _ _ _ (by simp)
 have hB:Below w.heap.size w W:=by rw[hW];exact((Below.refl _ w).alloc (Nat.le_refl _) _).alloc (by simp) _
 have hz:w.heap.size+1<W.heap.size:=by rw[hW];simp
 clear hW
 refine(number_any 1 0 _).mono ?_
 rintro e2 w2 ⟨rfl,hB2⟩
 have hvx:=hvx.below hB2 hvx.lt
 have hvy:=hvy.below hB2 hvy.lt
 have hB:=hB.trans (hB2.mono hB.size)
 have hz:=Nat.lt_of_lt_of_le hz hB2.size
 clear hB2
 go_wp2_with (refine wpList_store34 rfl rfl rfl rfl hvy (by rfl) (pcs_one _) ?_;intro w9 hn9 hg9 hz9)
 refine bodyPost_ret (results_cell_row rfl _ _ _ 34 _ (0,0) _ rfl hn9 Tryz.underlying34 rfl info34) rfl ?_
 exact⟨rfl,hB.grown hg9 hB.size (fun k9 hk9=>by cases hk9;omega)⟩
set_option maxRecDepth 100000 in
set_option maxHeartbeats 4000000 in
theorem num_3f  (w:World):Calls Tryz.prog 76 #[.agg (pcs (trV false))] w (Gives (.agg (pcs (numV (0,0)))) w):=by
 have hO:=pcs_one (trV false)
 obtain⟨C,hC⟩:∃C,pcs (trV false)=C:=⟨_,rfl⟩
 have x0:C[0]? =some (.int .i64 3):=by rw[←hC];rfl
 have x4:C[4]? =some (.bool false):=by rw[←hC];rfl
 rw[hC]at hO⊢
 have HO:=Lib.hid hO
 have HC:=Lib.hid hC
 clear hC hO
 go_enter Tryz.func76,Tryz.ntmps76
 go_wp2_with (refine wpList_alloc34 rfl rfl ?_)
 obtain⟨W,hW⟩:∃W,W=(w.alloc (.cells C 34)).alloc (.cells vz 34):=⟨_,rfl⟩
 rw[←hW]
 have hvx:World.vb W w.heap.size C:=by rw[hW];exact(World.vb_new w C).alloc _
 have hvy:World.vb W (w.heap.size+1) vz:=by rw[hW];exact World.vb_new' _ _ _ (by simp)
 have hB:Below w.heap.size w W:=by rw[hW];exact((Below.refl _ w).alloc (Nat.le_refl _) _).alloc (by simp) _
 have hz:w.heap.size+1<W.heap.size:=by rw[hW];simp
 clear hW
 refine(number_any 0 0 _).mono ?_
 rintro e2 w2 ⟨rfl,hB2⟩
 have hvx:=hvx.below hB2 hvx.lt
 have hvy:=hvy.below hB2 hvy.lt
 have hB:=hB.trans (hB2.mono hB.size)
 have hz:=Nat.lt_of_lt_of_le hz hB2.size
 clear hB2
 go_wp2_with (refine wpList_store34 rfl rfl rfl rfl hvy (by rfl) (pcs_one _) ?_;intro w9 hn9 hg9 hz9)
 refine bodyPost_ret (results_cell_row rfl _ _ _ 34 _ (0,0) _ rfl hn9 Tryz.underlying34 rfl info34) rfl ?_
 exact⟨rfl,hB.grown hg9 hB.size (fun k9 hk9=>by cases hk9;omega)⟩
set_option maxRecDepth 100000 in
set_option maxHeartbeats 4000000 in
theorem num_4 (n:Int) (w:World):Calls Tryz.prog 76 #[.agg (pcs (errV n))] w (Gives (.agg (pcs (errV n))) w):=by
 have hO:=pcs_one (errV n)
 obtain⟨C,hC⟩:∃C,pcs (errV n)=C:=⟨_,rfl⟩
 have x0:C[0]? =some (.int .i64 4):=by rw[←hC];rfl
 rw[hC]at hO⊢
 have HO:=Lib.hid hO
 have HC:=Lib.hid hC.symm
 clear hC hO
 go_enter Tryz.func76,Tryz.ntmps76
 go_wp2_with (first|refine wpList_alloc34 rfl rfl ?_|refine wpList_load34 rfl rfl rfl ((World.vb_new w C).alloc _) HO.out.1 ?_|(refine wpList_store34 rfl rfl rfl rfl (World.vb_new' (w.alloc (.cells C 34)) vz _ (by simp)) (by rfl) HO.out ?_;intro w9 hn9 hg9 hz9))
 refine bodyPost_ret (results_cell_row rfl _ _ _ 34 _ (0,0) _ rfl hn9 Tryz.underlying34 rfl (by rw[HO.out.1];exact info34)) rfl ?_
 exact⟨by rw[HC.out],(((Below.refl _ w).alloc (Nat.le_refl _) _).alloc (by simp) _).grown hg9 (by simp;omega) (fun k9 hk9=>by cases hk9;simp)⟩
theorem num76_any (x:Vl) (w:World) (hp:plainV x=true) (hS:Shp w):Calls Tryz.prog 76 #[.agg (pcs x)] w (Gives (.agg (pcs (numT x))) w):=by
 rcases plain_cases hp with e|⟨p,e,hr⟩|⟨s,e,hs⟩|⟨b,e⟩|⟨n,e,h1,h2⟩<;>subst e
 ·exact num_0 w
 ·exact num_1 p w
 ·have:s.size≤200:=by unfold txtOk at hs;simp at hs;exact hs.1
  exact num_2 s w (by omega) hS
 ·cases b
  ·exact num_3f w
  ·exact num_3t w
 ·exact num_4 n w
set_option maxRecDepth 100000 in
set_option maxHeartbeats 4000000 in
theorem tx_0  (w:World):Calls Tryz.prog 77 #[.agg (pcs {})] w (Gives (.agg (pcs (txtV (mk [])))) w):=by
 have hO:=pcs_one {}
 obtain⟨C,hC⟩:∃C,pcs {}=C:=⟨_,rfl⟩
 have x0:C[0]? =some (.int .i64 0):=by rw[←hC];rfl
 rw[hC]at hO⊢
 have HO:=Lib.hid hO
 have HC:=Lib.hid hC
 clear hC hO
 go_enter Tryz.func77,Tryz.ntmps77
 go_wp2_with (first|refine wpList_alloc34 rfl rfl ?_|refine wpList_load34 rfl rfl rfl ((World.vb_new w C).alloc _) HO.out.1 ?_)
 obtain⟨W,hW⟩:∃W,W=(w.alloc (.cells C 34)).alloc (.cells vz 34):=⟨_,rfl⟩
 rw[←hW]
 have hvx:World.vb W w.heap.size C:=by rw[hW];exact(World.vb_new w C).alloc _
 have hvy:World.vb W (w.heap.size+1) vz:=by rw[hW];exact World.vb_new' _ _ _ (by simp)
 have hB:Below w.heap.size w W:=by rw[hW];exact((Below.refl _ w).alloc (Nat.le_refl _) _).alloc (by simp) _
 have hz:w.heap.size+1<W.heap.size:=by rw[hW];simp
 clear hW
 rw[←HC.out]
 refine(writ_0 _).mono ?_
 rintro e2 w2 ⟨rfl,hB2⟩
 have hvy:=hvy.below hB2 hvy.lt
 have hB:=hB.trans (hB2.mono hB.size)
 clear hB2 hz hvx
 go_wp2_with fail
 refine(said_any _ _).mono ?_
 rintro e3 w3 ⟨rfl,hB3⟩
 have hvy:=hvy.below hB3 hvy.lt
 have hB:=hB.trans (hB3.mono hB.size)
 clear hB3
 go_wp2_with (refine wpList_store34 rfl rfl rfl rfl hvy (by rfl) (pcs_one _) ?_;intro w9 hn9 hg9 hz9)
 refine bodyPost_ret (results_cell_row rfl _ _ _ 34 _ (0,0) _ rfl hn9 Tryz.underlying34 rfl info34) rfl ?_
 exact⟨rfl,hB.grown hg9 hB.size (fun k9 hk9=>by cases hk9;omega)⟩
set_option maxRecDepth 100000 in
set_option maxHeartbeats 4000000 in
theorem tx_1 (M E:Int) (w:World) (h0: -9223372036854775808≤M) (h1:M≤9223372036854775807):Calls Tryz.prog 77 #[.agg (pcs (numV (M,E)))] w (Gives (.agg (pcs (txtV (mk (textD M E).1)))) w):=by
 have hO:=pcs_one (numV (M,E))
 obtain⟨C,hC⟩:∃C,pcs (numV (M,E))=C:=⟨_,rfl⟩
 have x0:C[0]? =some (.int .i64 1):=by rw[←hC];rfl
 rw[hC]at hO⊢
 have HO:=Lib.hid hO
 have HC:=Lib.hid hC
 clear hC hO
 go_enter Tryz.func77,Tryz.ntmps77
 go_wp2_with (first|refine wpList_alloc34 rfl rfl ?_|refine wpList_load34 rfl rfl rfl ((World.vb_new w C).alloc _) HO.out.1 ?_)
 obtain⟨W,hW⟩:∃W,W=(w.alloc (.cells C 34)).alloc (.cells vz 34):=⟨_,rfl⟩
 rw[←hW]
 have hvx:World.vb W w.heap.size C:=by rw[hW];exact(World.vb_new w C).alloc _
 have hvy:World.vb W (w.heap.size+1) vz:=by rw[hW];exact World.vb_new' _ _ _ (by simp)
 have hB:Below w.heap.size w W:=by rw[hW];exact((Below.refl _ w).alloc (Nat.le_refl _) _).alloc (by simp) _
 have hz:w.heap.size+1<W.heap.size:=by rw[hW];simp
 clear hW
 rw[←HC.out]
 refine(writ_1 M E _ h0 h1).mono ?_
 rintro e2 w2 ⟨rfl,hB2⟩
 have hvy:=hvy.below hB2 hvy.lt
 have hB:=hB.trans (hB2.mono hB.size)
 clear hB2 hz hvx
 go_wp2_with fail
 refine(said_any _ _).mono ?_
 rintro e3 w3 ⟨rfl,hB3⟩
 have hvy:=hvy.below hB3 hvy.lt
 have hB:=hB.trans (hB3.mono hB.size)
 clear hB3
 go_wp2_with (refine wpList_store34 rfl rfl rfl rfl hvy (by rfl) (pcs_one _) ?_;intro w9 hn9 hg9 hz9)
 refine bodyPost_ret (results_cell_row rfl _ _ _ 34 _ (0,0) _ rfl hn9 Tryz.underlying34 rfl info34) rfl ?_
 exact⟨rfl,hB.grown hg9 hB.size (fun k9 hk9=>by cases hk9;omega)⟩
set_option maxRecDepth 100000 in
set_option maxHeartbeats 4000000 in
theorem tx_3t  (w:World):Calls Tryz.prog 77 #[.agg (pcs (trV true))] w (Gives (.agg (pcs (txtV (mk TRUEL)))) w):=by
 have hO:=pcs_one (trV true)
 obtain⟨C,hC⟩:∃C,pcs (trV true)=C:=⟨_,rfl⟩
 have x0:C[0]? =some (.int .i64 3):=by rw[←hC];rfl
 rw[hC]at hO⊢
 have HO:=Lib.hid hO
 have HC:=Lib.hid hC
 clear hC hO
 go_enter Tryz.func77,Tryz.ntmps77
 go_wp2_with (first|refine wpList_alloc34 rfl rfl ?_|refine wpList_load34 rfl rfl rfl ((World.vb_new w C).alloc _) HO.out.1 ?_)
 obtain⟨W,hW⟩:∃W,W=(w.alloc (.cells C 34)).alloc (.cells vz 34):=⟨_,rfl⟩
 rw[←hW]
 have hvx:World.vb W w.heap.size C:=by rw[hW];exact(World.vb_new w C).alloc _
 have hvy:World.vb W (w.heap.size+1) vz:=by rw[hW];exact World.vb_new' _ _ _ (by simp)
 have hB:Below w.heap.size w W:=by rw[hW];exact((Below.refl _ w).alloc (Nat.le_refl _) _).alloc (by simp) _
 have hz:w.heap.size+1<W.heap.size:=by rw[hW];simp
 clear hW
 rw[←HC.out]
 refine(show Calls Tryz.prog 62 #[.agg (pcs (trV true))] _ (Gives (.string (mk TRUEL)) _)from writ_3 true _).mono ?_
 rintro e2 w2 ⟨rfl,hB2⟩
 have hvy:=hvy.below hB2 hvy.lt
 have hB:=hB.trans (hB2.mono hB.size)
 clear hB2 hz hvx
 go_wp2_with fail
 refine(said_any _ _).mono ?_
 rintro e3 w3 ⟨rfl,hB3⟩
 have hvy:=hvy.below hB3 hvy.lt
 have hB:=hB.trans (hB3.mono hB.size)
 clear hB3
 go_wp2_with (refine wpList_store34 rfl rfl rfl rfl hvy (by rfl) (pcs_one _) ?_;intro w9 hn9 hg9 hz9)
 refine bodyPost_ret (results_cell_row rfl _ _ _ 34 _ (0,0) _ rfl hn9 Tryz.underlying34 rfl info34) rfl ?_
 exact⟨rfl,hB.grown hg9 hB.size (fun k9 hk9=>by cases hk9;omega)⟩
set_option maxRecDepth 100000 in
set_option maxHeartbeats 4000000 in
theorem tx_3f  (w:World):Calls Tryz.prog 77 #[.agg (pcs (trV false))] w (Gives (.agg (pcs (txtV (mk FALSEL)))) w):=by
 have hO:=pcs_one (trV false)
 obtain⟨C,hC⟩:∃C,pcs (trV false)=C:=⟨_,rfl⟩
 have x0:C[0]? =some (.int .i64 3):=by rw[←hC];rfl
 rw[hC]at hO⊢
 have HO:=Lib.hid hO
 have HC:=Lib.hid hC
 clear hC hO
 go_enter Tryz.func77,Tryz.ntmps77
 go_wp2_with (first|refine wpList_alloc34 rfl rfl ?_|refine wpList_load34 rfl rfl rfl ((World.vb_new w C).alloc _) HO.out.1 ?_)
 obtain⟨W,hW⟩:∃W,W=(w.alloc (.cells C 34)).alloc (.cells vz 34):=⟨_,rfl⟩
 rw[←hW]
 have hvx:World.vb W w.heap.size C:=by rw[hW];exact(World.vb_new w C).alloc _
 have hvy:World.vb W (w.heap.size+1) vz:=by rw[hW];exact World.vb_new' _ _ _ (by simp)
 have hB:Below w.heap.size w W:=by rw[hW];exact((Below.refl _ w).alloc (Nat.le_refl _) _).alloc (by simp) _
 have hz:w.heap.size+1<W.heap.size:=by rw[hW];simp
 clear hW
 rw[←HC.out]
 refine(show Calls Tryz.prog 62 #[.agg (pcs (trV false))] _ (Gives (.string (mk FALSEL)) _)from writ_3 false _).mono ?_
 rintro e2 w2 ⟨rfl,hB2⟩
 have hvy:=hvy.below hB2 hvy.lt
 have hB:=hB.trans (hB2.mono hB.size)
 clear hB2 hz hvx
 go_wp2_with fail
 refine(said_any _ _).mono ?_
 rintro e3 w3 ⟨rfl,hB3⟩
 have hvy:=hvy.below hB3 hvy.lt
 have hB:=hB.trans (hB3.mono hB.size)
 clear hB3
 go_wp2_with (refine wpList_store34 rfl rfl rfl rfl hvy (by rfl) (pcs_one _) ?_;intro w9 hn9 hg9 hz9)
 refine bodyPost_ret (results_cell_row rfl _ _ _ 34 _ (0,0) _ rfl hn9 Tryz.underlying34 rfl info34) rfl ?_
 exact⟨rfl,hB.grown hg9 hB.size (fun k9 hk9=>by cases hk9;omega)⟩
set_option maxRecDepth 100000 in
set_option maxHeartbeats 4000000 in
theorem tx_2 (s:ByteArray) (w:World):Calls Tryz.prog 77 #[.agg (pcs (txtV s))] w (Gives (.agg (pcs (txtV s))) w):=by
 have hO:=pcs_one (txtV s)
 obtain⟨C,hC⟩:∃C,pcs (txtV s)=C:=⟨_,rfl⟩
 have x0:C[0]? =some (.int .i64 2):=by rw[←hC];rfl
 rw[hC]at hO⊢
 have HO:=Lib.hid hO
 have HC:=Lib.hid hC.symm
 clear hC hO
 go_enter Tryz.func77,Tryz.ntmps77
 go_wp2_with (first|refine wpList_alloc34 rfl rfl ?_|refine wpList_load34 rfl rfl rfl ((World.vb_new w C).alloc _) HO.out.1 ?_|(refine wpList_store34 rfl rfl rfl rfl (World.vb_new' (w.alloc (.cells C 34)) vz _ (by simp)) (by rfl) HO.out ?_;intro w9 hn9 hg9 hz9))
 refine bodyPost_ret (results_cell_row rfl _ _ _ 34 _ (0,0) _ rfl hn9 Tryz.underlying34 rfl (by rw[HO.out.1];exact info34)) rfl ?_
 exact⟨by rw[HC.out],(((Below.refl _ w).alloc (Nat.le_refl _) _).alloc (by simp) _).grown hg9 (by simp;omega) (fun k9 hk9=>by cases hk9;simp)⟩
set_option maxRecDepth 100000 in
set_option maxHeartbeats 4000000 in
theorem tx_4 (n:Int) (w:World):Calls Tryz.prog 77 #[.agg (pcs (errV n))] w (Gives (.agg (pcs (errV n))) w):=by
 have hO:=pcs_one (errV n)
 obtain⟨C,hC⟩:∃C,pcs (errV n)=C:=⟨_,rfl⟩
 have x0:C[0]? =some (.int .i64 4):=by rw[←hC];rfl
 rw[hC]at hO⊢
 have HO:=Lib.hid hO
 have HC:=Lib.hid hC.symm
 clear hC hO
 go_enter Tryz.func77,Tryz.ntmps77
 go_wp2_with (first|refine wpList_alloc34 rfl rfl ?_|refine wpList_load34 rfl rfl rfl ((World.vb_new w C).alloc _) HO.out.1 ?_|(refine wpList_store34 rfl rfl rfl rfl (World.vb_new' (w.alloc (.cells C 34)) vz _ (by simp)) (by rfl) HO.out ?_;intro w9 hn9 hg9 hz9))
 refine bodyPost_ret (results_cell_row rfl _ _ _ 34 _ (0,0) _ rfl hn9 Tryz.underlying34 rfl (by rw[HO.out.1];exact info34)) rfl ?_
 exact⟨by rw[HC.out],(((Below.refl _ w).alloc (Nat.le_refl _) _).alloc (by simp) _).grown hg9 (by simp;omega) (fun k9 hk9=>by cases hk9;simp)⟩
theorem txt77_any (x:Vl) (w:World) (hp:plainV x=true):Calls Tryz.prog 77 #[.agg (pcs x)] w (Gives (.agg (pcs (txtT x))) w):=by
 rcases plain_cases hp with e|⟨p,e,hr⟩|⟨s,e,hs⟩|⟨b,e⟩|⟨n,e,h1,h2⟩<;>subst e
 ·exact tx_0 w
 ·unfold RightP at hr
  exact tx_1 p.1 p.2 w (by omega) (by omega)
 ·exact tx_2 s w
 ·cases b
  ·exact tx_3f w
  ·exact tx_3t w
 ·exact tx_4 n w
set_option maxRecDepth 100000 in
set_option maxHeartbeats 4000000 in
theorem tb_0  (w:World):Calls Tryz.prog 78 #[.agg (pcs {})] w (Gives (.agg (pcs (trV false))) w):=by
 have hO:=pcs_one {}
 obtain⟨C,hC⟩:∃C,pcs {}=C:=⟨_,rfl⟩
 have x0:C[0]? =some (.int .i64 0):=by rw[←hC];rfl
 rw[hC]at hO⊢
 have HO:=Lib.hid hO
 have HC:=Lib.hid hC
 clear hC hO
 go_enter Tryz.func78,Tryz.ntmps78
 go_wp2_with (refine wpList_alloc34 rfl rfl ?_)
 obtain⟨W,hW⟩:∃W,W=(w.alloc (.cells C 34)).alloc (.cells vz 34):=⟨_,rfl⟩
 rw[←hW]
 have hvx:World.vb W w.heap.size C:=by rw[hW];exact(World.vb_new w C).alloc _
 have hvy:World.vb W (w.heap.size+1) vz:=by rw[hW];exact World.vb_new' _ _ _ (by simp)
 have hB:Below w.heap.size w W:=by rw[hW];exact((Below.refl _ w).alloc (Nat.le_refl _) _).alloc (by simp) _
 have hz:w.heap.size+1<W.heap.size:=by rw[hW];simp
 clear hW
 refine(truth_any false _).mono ?_
 rintro e2 w2 ⟨rfl,hB2⟩
 have hvx:=hvx.below hB2 hvx.lt
 have hvy:=hvy.below hB2 hvy.lt
 have hB:=hB.trans (hB2.mono hB.size)
 have hz:=Nat.lt_of_lt_of_le hz hB2.size
 clear hB2
 go_wp2_with (refine wpList_store34 rfl rfl rfl rfl hvy (by rfl) (pcs_one _) ?_;intro w9 hn9 hg9 hz9)
 refine bodyPost_ret (results_cell_row rfl _ _ _ 34 _ (0,0) _ rfl hn9 Tryz.underlying34 rfl info34) rfl ?_
 exact⟨rfl,hB.grown hg9 hB.size (fun k9 hk9=>by cases hk9;omega)⟩
set_option maxRecDepth 100000 in
set_option maxHeartbeats 4000000 in
theorem tb_1 (M E:Int) (w:World):Calls Tryz.prog 78 #[.agg (pcs (numV (M,E)))] w (Gives (.agg (pcs (trV (M != 0)))) w):=by
 have hO:=pcs_one (numV (M,E))
 obtain⟨C,hC⟩:∃C,pcs (numV (M,E))=C:=⟨_,rfl⟩
 have x0:C[0]? =some (.int .i64 1):=by rw[←hC];rfl
 have x1:C[1]? =some (.int .i64 M):=by rw[←hC];rfl
 rw[hC]at hO⊢
 have HO:=Lib.hid hO
 have HC:=Lib.hid hC
 clear hC hO
 go_enter Tryz.func78,Tryz.ntmps78
 go_wp2_with (refine wpList_alloc34 rfl rfl ?_)
 obtain⟨W,hW⟩:∃W,W=(w.alloc (.cells C 34)).alloc (.cells vz 34):=⟨_,rfl⟩
 rw[←hW]
 have hvx:World.vb W w.heap.size C:=by rw[hW];exact(World.vb_new w C).alloc _
 have hvy:World.vb W (w.heap.size+1) vz:=by rw[hW];exact World.vb_new' _ _ _ (by simp)
 have hB:Below w.heap.size w W:=by rw[hW];exact((Below.refl _ w).alloc (Nat.le_refl _) _).alloc (by simp) _
 have hz:w.heap.size+1<W.heap.size:=by rw[hW];simp
 clear hW
 refine(truth_any _ _).mono ?_
 rintro e2 w2 ⟨rfl,hB2⟩
 have hvy:=hvy.below hB2 hvy.lt
 have hB:=hB.trans (hB2.mono hB.size)
 clear hB2 hz hvx
 go_wp2_with (refine wpList_store34 rfl rfl rfl rfl hvy (by rfl) (pcs_one _) ?_;intro w9 hn9 hg9 hz9)
 refine bodyPost_ret (results_cell_row rfl _ _ _ 34 _ (0,0) _ rfl hn9 Tryz.underlying34 rfl info34) rfl ?_
 exact⟨rfl,hB.grown hg9 hB.size (fun k9 hk9=>by cases hk9;omega)⟩
set_option maxRecDepth 100000 in
set_option maxHeartbeats 4000000 in
theorem tb_2 (s:ByteArray) (w:World) (hs:s.size≤4294967280):Calls Tryz.prog 78 #[.agg (pcs (txtV s))] w (Gives (.agg (pcs (truT (txtV s)))) w):=by
 have HR:=Lib.hid (truths_any s · hs)
 have HV:Hid (truT (txtV s)=match truthL s.data.toList with|some b=>trV b|none=>errV 3):=Lib.hid rfl
 obtain⟨V,hV⟩:∃V,truT (txtV s)=V:=⟨_,rfl⟩
 rw[hV]at HV⊢
 obtain⟨C,hC⟩:∃C,pcs (txtV s)=C:=⟨_,rfl⟩
 have x0:C[0]? =some (.int .i64 2):=by rw[←hC];rfl
 have x3:C[3]? =some (.string s):=by rw[←hC];rfl
 rw[hC]
 clear hC hV hs
 generalize truthL s.data.toList=tr at HR HV
 go_enter Tryz.func78,Tryz.ntmps78
 go_wp2_with (refine wpList_alloc34 rfl rfl ?_)
 obtain⟨W,hW⟩:∃W,W=(w.alloc (.cells C 34)).alloc (.cells vz 34):=⟨_,rfl⟩
 rw[←hW]
 have hvy:World.vb W (w.heap.size+1) vz:=by rw[hW];exact World.vb_new' _ _ _ (by simp)
 have hB:Below w.heap.size w W:=by rw[hW];exact((Below.refl _ w).alloc (Nat.le_refl _) _).alloc (by simp) _
 clear hW
 refine(HR.out _).mono ?_
 rintro e2 w2 ⟨rfl,hB2⟩
 have hvy:=hvy.below hB2 hvy.lt
 have hB:=hB.trans (hB2.mono hB.size)
 clear hB2
 cases tr with
 |some b=>
  have HX:Hid (V=trV b):=HV.out
  simp only[Option.getD_some,Option.isSome_some]
  go_wp2_with fail
  refine(truth_any b _).mono ?_
  rintro e4 w4 ⟨rfl,hB4⟩
  have hvy:=hvy.below hB4 hvy.lt
  have hB:=hB.trans (hB4.mono hB.size)
  clear hB4
  go_wp2_with (refine wpList_store34 rfl rfl rfl rfl hvy (by rfl) (pcs_one _) ?_;intro w9 hn9 hg9 hz9)
  refine bodyPost_ret (results_cell_row rfl _ _ _ 34 _ (0,0) _ rfl hn9 Tryz.underlying34 rfl info34) rfl ?_
  exact⟨by rw[HX.out],hB.grown hg9 hB.size (fun k9 hk9=>by cases hk9;omega)⟩
 |none=>
  have HX:Hid (V=errV 3):=HV.out
  simp only[Option.getD_none,Option.isSome_none]
  go_wp2_with fail
  refine(err_any 3 _).mono ?_
  rintro e4 w4 ⟨rfl,hB4⟩
  have hvy:=hvy.below hB4 hvy.lt
  have hB:=hB.trans (hB4.mono hB.size)
  clear hB4
  go_wp2_with (refine wpList_store34 rfl rfl rfl rfl hvy (by rfl) (pcs_one _) ?_;intro w9 hn9 hg9 hz9)
  refine bodyPost_ret (results_cell_row rfl _ _ _ 34 _ (0,0) _ rfl hn9 Tryz.underlying34 rfl info34) rfl ?_
  exact⟨by rw[HX.out],hB.grown hg9 hB.size (fun k9 hk9=>by cases hk9;omega)⟩
set_option maxRecDepth 100000 in
set_option maxHeartbeats 4000000 in
theorem tb_3 (b:Bool) (w:World):Calls Tryz.prog 78 #[.agg (pcs (trV b))] w (Gives (.agg (pcs (trV b))) w):=by
 have hO:=pcs_one (trV b)
 obtain⟨C,hC⟩:∃C,pcs (trV b)=C:=⟨_,rfl⟩
 have x0:C[0]? =some (.int .i64 3):=by rw[←hC];rfl
 rw[hC]at hO⊢
 have HO:=Lib.hid hO
 have HC:=Lib.hid hC.symm
 clear hC hO
 go_enter Tryz.func78,Tryz.ntmps78
 go_wp2_with (first|refine wpList_alloc34 rfl rfl ?_|refine wpList_load34 rfl rfl rfl ((World.vb_new w C).alloc _) HO.out.1 ?_|(refine wpList_store34 rfl rfl rfl rfl (World.vb_new' (w.alloc (.cells C 34)) vz _ (by simp)) (by rfl) HO.out ?_;intro w9 hn9 hg9 hz9))
 refine bodyPost_ret (results_cell_row rfl _ _ _ 34 _ (0,0) _ rfl hn9 Tryz.underlying34 rfl (by rw[HO.out.1];exact info34)) rfl ?_
 exact⟨by rw[HC.out],(((Below.refl _ w).alloc (Nat.le_refl _) _).alloc (by simp) _).grown hg9 (by simp;omega) (fun k9 hk9=>by cases hk9;simp)⟩
set_option maxRecDepth 100000 in
set_option maxHeartbeats 4000000 in
theorem tb_4 (n:Int) (w:World):Calls Tryz.prog 78 #[.agg (pcs (errV n))] w (Gives (.agg (pcs (errV n))) w):=by
 have hO:=pcs_one (errV n)
 obtain⟨C,hC⟩:∃C,pcs (errV n)=C:=⟨_,rfl⟩
 have x0:C[0]? =some (.int .i64 4):=by rw[←hC];rfl
 rw[hC]at hO⊢
 have HO:=Lib.hid hO
 have HC:=Lib.hid hC.symm
 clear hC hO
 go_enter Tryz.func78,Tryz.ntmps78
 go_wp2_with (first|refine wpList_alloc34 rfl rfl ?_|refine wpList_load34 rfl rfl rfl ((World.vb_new w C).alloc _) HO.out.1 ?_|(refine wpList_store34 rfl rfl rfl rfl (World.vb_new' (w.alloc (.cells C 34)) vz _ (by simp)) (by rfl) HO.out ?_;intro w9 hn9 hg9 hz9))
 refine bodyPost_ret (results_cell_row rfl _ _ _ 34 _ (0,0) _ rfl hn9 Tryz.underlying34 rfl (by rw[HO.out.1];exact info34)) rfl ?_
 exact⟨by rw[HC.out],(((Below.refl _ w).alloc (Nat.le_refl _) _).alloc (by simp) _).grown hg9 (by simp;omega) (fun k9 hk9=>by cases hk9;simp)⟩
theorem tru78_any (x:Vl) (w:World) (hp:plainV x=true):Calls Tryz.prog 78 #[.agg (pcs x)] w (Gives (.agg (pcs (truT x))) w):=by
 rcases plain_cases hp with e|⟨p,e,hr⟩|⟨s,e,hs⟩|⟨b,e⟩|⟨n,e,h1,h2⟩<;>subst e
 ·exact tb_0 w
 ·exact tb_1 p.1 p.2 w
 ·have:s.size≤200:=by unfold txtOk at hs;simp at hs;exact hs.1
  exact tb_2 s w (by omega)
 ·exact tb_3 b w
 ·exact tb_4 n w
end Go.Proofs.YtkhohjdakcchdaaGreatDoor
namespace Go.Proofs.YtkhohjdakcchdaaGreatDoor
open Go Go.RowKit Go.Shelf
theorem results_vl_tmp {fn:Func} {p u:Tmp} (h:fn.results= #[.cell p 34,.tmp u]) (tmps:Array Value) (w:World) (g:Nat) (cs:Array Value) (hp:tmps.getD p undef= .pointer (some ⟨g,0,none⟩)) (hd:World.vb w g cs) (hs:cs.size=12):
 (results fn tmps).run Tryz.prog w= .ok (.tuple #[.agg cs,tmps.getD u undef]) w:=by
 rw[results_cell_tmp h,hp]
 have:=run_loadVar_row (P:=Tryz.prog) w g 34 34 _ (0,0) _ hd Tryz.underlying34 rfl (by rw[hs];exact info34)
 simp only[asAddr,Sem.run_pure,Result.andThen_ok,this]
theorem list_full {s:ByteArray} (h0:0<s.size):s.toList.isEmpty=false:=by
 rw[ByteArray.toList_eq]
 cases h:s.data.toList with
 |nil=>
  have:s.size=0:=by rw[Lib.size_eq,h];rfl
  omega
 |cons c r=>rfl
theorem errF_hit {l:List UInt8} {K:Nat} (hK:K<9) (h:∀i,i<K→¬lowL (errL (i+1))=lowL l) (e:lowL (errL (K+1))=lowL l):errF l=some (K+1):=by
 unfold errF
 rw[List.find?_eq_some_iff_append]
 have h1: [1,2,3,4,5,6,7,8,9]= [1,2,3,4,5,6,7,8,9].take K++(K+1) :: [1,2,3,4,5,6,7,8,9].drop (K+1):=by
  rcases(show K=0∨K=1∨K=2∨K=3∨K=4∨K=5∨K=6∨K=7∨K=8 by omega)with e|e|e|e|e|e|e|e|e<;>subst e<;>rfl
 have h2:∀a∈ [1,2,3,4,5,6,7,8,9].take K,1≤a∧a≤K:=by
  rcases(show K=0∨K=1∨K=2∨K=3∨K=4∨K=5∨K=6∨K=7∨K=8 by omega)with e|e|e|e|e|e|e|e|e<;>subst e<;>decide
 refine⟨by simpa using e,_,_,h1,fun a ha=> ?_⟩
 obtain⟨h3,h4⟩:=h2 a ha
 have:=h (a-1) (by omega)
 rw[show a-1+1=a by omega]at this
 simpa using this
theorem errF_miss {l:List UInt8} (h:∀i,i<9→¬lowL (errL (i+1))=lowL l):errF l=none:=by
 unfold errF
 rw[List.find?_eq_none]
 intro i hi
 simp only[List.mem_cons,List.not_mem_nil,or_false]at hi
 have:=h (i-1) (by omega)
 rw[show i-1+1=i by omega]at this
 simpa using this
theorem fold_eq {s t:ByteArray} (h:lowL s.data.toList=lowL t.data.toList):(foldS s).toList=(foldS t).toList:=by rw[foldS_list,foldS_list,h]
theorem fold_ne {s t:ByteArray} (h:¬lowL s.data.toList=lowL t.data.toList):((foldS s).toList==(foldS t).toList)=false:=by rw[beq_eq_false_iff_ne,foldS_list,foldS_list];exact h
def readT3 (tb:Bool) (T:ByteArray):Vl×Int:=if tb=true then(txtV T,0)else({},30)
def readT2 (ef:Option Nat) (tb:Bool) (T:ByteArray):Vl×Int:=match ef with
 |some i=>(errV i,0)
 |none=>readT3 tb T
def readT1 (tr:Option Bool) (ef:Option Nat) (tb:Bool) (T:ByteArray):Vl×Int:=match tr with
 |some b=>(trV b,0)
 |none=>readT2 ef tb T
def ReadPost (r:Vl×Int) (w:World) (e:Ending) (w':World):Prop:=e= .returned (.tuple #[.agg (pcs r.1),.int .i64 r.2])∧Below w.heap.size w w'
set_option maxRecDepth 100000 in
set_option maxHeartbeats 4000000 in
theorem read_nil (w:World):Calls Tryz.prog 17 #[.string ⟨#[]⟩] w (ReadPost ({},0) w):=by
 go_enter Tryz.func17,Tryz.ntmps17
 go_wp2_with (first|refine wpList_alloc34 rfl rfl ?_|refine wpList_build_zero rfl rfl ?_|(refine wpList_store34 rfl rfl rfl rfl (World.vb_new w vz) (by rfl) (pcs_one _) ?_;intro w9 hn9 hg9 hz9))
 refine bodyPost_ret (results_vl_tmp rfl _ _ _ _ rfl hn9 (by rfl)) rfl ?_
 exact⟨rfl,((Below.refl _ w).alloc (Nat.le_refl _) _).grown hg9 (by simp) (fun k9 hk9=>by cases hk9;simp)⟩
set_option maxRecDepth 100000 in
set_option maxHeartbeats 4000000 in
theorem read_form (s:ByteArray) (w:World) (h0:0<s.size) (hc:(s[0]'h0).toNat=61):Calls Tryz.prog 17 #[.string s] w (ReadPost ({},30) w):=by
 have hne:=list_full h0
 have hcI:(((s[0]'h0).toNat:Int)==61)=true:=by rw[beq_iff_eq];omega
 clear hc
 go_enter Tryz.func17,Tryz.ntmps17
 go_wp2_with (first|refine wpList_alloc34 rfl rfl ?_|refine wpList_build_zero rfl rfl ?_|(refine wpList_store34 rfl rfl rfl rfl (World.vb_new w vz) (by rfl) (pcs_one _) ?_;intro w9 hn9 hg9 hz9))
 refine bodyPost_ret (results_vl_tmp rfl _ _ _ _ rfl hn9 (by rfl)) rfl ?_
 exact⟨rfl,((Below.refl _ w).alloc (Nat.le_refl _) _).grown hg9 (by simp) (fun k9 hk9=>by cases hk9;simp)⟩
set_option maxRecDepth 100000 in
set_option maxHeartbeats 4000000 in
theorem read_more (s:ByteArray) (w:World) (hs:s.size≤4294967000) (hS:Shp w) (hT:Lib.Utf8Tabs 0 1 w) (h0:0<s.size) (hc:¬(s[0]'h0).toNat=61):
 Calls Tryz.prog 17 #[.string s] w (ReadPost (readV s.data.toList) w):=by
 have hne:=list_full h0
 have hcI:(((s[0]'h0).toNat:Int)==61)=false:=by rw[beq_eq_false_iff_ne];omega
 have hRV:readV s.data.toList=if(readD s.data.toList).2=0 then(numV (readD s.data.toList).1,(0:Int))else readT1 (truthL s.data.toList) (errF s.data.toList) (txtOk (mk (Lib.trimPrefix s.data.toList [39]))) (mk (Lib.trimPrefix s.data.toList [39])):=by
  unfold readV
  rw[if_neg (by intro e;rw[ByteArray.toList_eq,e]at hne;cases hne),if_neg (by
   intro e
   apply hc
   cases hl:s.data.toList with
   |nil=>rw[hl]at e;cases e
   |cons c r=>
    rw[hl]at e
    injection e with e
    have:s[0]'h0=c:=by
     show s.data[0]=c
     rw[←Array.getElem_toList]
     simp only[hl,List.getElem_cons_zero]
    rw[this,e];rfl)]
  rfl
 obtain⟨x,y,er,hr⟩:=three (readD s.data.toList)
 have HR:=Lib.hid (show ∀W,Below w.heap.size w W→Calls Tryz.prog 43 #[.string s] W (DecPost ((x,y),er) W)from fun W hW=>by rw[←hr];exact read_any s W (by omega) (hS.below hW))
 have HTr:=Lib.hid (truths_any s · (by omega:s.size≤4294967280))
 have HF:=Lib.hid (show ∀W,Calls Tryz.prog 48 #[.string s] W (Gives (.string (foldS s)) W)from fun W=>fold_any s W (by omega))
 have HX:=Lib.hid (show ∀W,Below w.heap.size w W→Calls Tryz.prog 51 #[.string (mk (Lib.trimPrefix s.data.toList [39]))] W (Gives (.bool (txtOk (mk (Lib.trimPrefix s.data.toList [39])))) W)from fun W hW=>vtext_any _ W (by
  have:(Lib.trimPrefix s.data.toList [39]).length≤s.data.toList.length:=by
   unfold Lib.trimPrefix
   split
   ·rw[List.length_drop];omega
   ·exact Nat.le_refl _
  rw[mk_size]
  rw[←Lib.size_eq]at this
  omega) (tabs_below hT hW))
 have HTP:=Lib.hid (show ∀W,Calls Tryz.prog 50 #[.string s,.string ⟨#[39]⟩] W (Gives (.string (mk (Lib.trimPrefix s.data.toList [39]))) W)from fun W=>by
  refine(Tryz.strings_TrimPrefix s ⟨#[39]⟩ W).mono ?_
  rintro e w' ⟨rfl,rfl⟩
  exact⟨rfl,Below.refl _ _⟩)
 have HE:=Lib.hid (show(∀K,K<9→(∀i,i<K→¬lowL (errL (i+1))=lowL s.data.toList)→lowL (errL (K+1))=lowL s.data.toList→errF s.data.toList=some (K+1))∧((∀i,i<9→¬lowL (errL (i+1))=lowL s.data.toList)→errF s.data.toList=none)from⟨fun K h1 h2 h3=>errF_hit h1 h2 h3,errF_miss⟩)
 rw[hr]at hRV
 have HRV:=Lib.hid hRV
 obtain⟨V,hV⟩:∃V,readV s.data.toList=V:=⟨_,rfl⟩
 rw[hV]at HRV⊢
 generalize truthL s.data.toList=tr at HTr HRV
 obtain⟨ef,hef⟩:∃ef,errF s.data.toList=ef:=⟨_,rfl⟩
 rw[hef]at HE HRV
 obtain⟨T,hTe⟩:∃T,mk (Lib.trimPrefix s.data.toList [39])=T:=⟨_,rfl⟩
 rw[hTe]at HX HTP HRV
 obtain⟨tb,htb⟩:∃tb,txtOk T=tb:=⟨_,rfl⟩
 rw[htb]at HX HRV
 clear hRV hr hS hT hc hV hef hTe htb hs
 go_enter Tryz.func17,Tryz.ntmps17
 go_wp2_with (refine wpList_alloc34 rfl rfl ?_)
 obtain⟨W,hW⟩:∃W,W=w.alloc (.cells vz 34):=⟨_,rfl⟩
 rw[←hW]
 have hvy:World.vb W w.heap.size vz:=by rw[hW];exact World.vb_new _ _
 have hB:Below w.heap.size w W:=by rw[hW];exact(Below.refl _ w).alloc (Nat.le_refl _) _
 clear hW
 refine(HR.out _ hB).mono ?_
 rintro e2 w2 ⟨rfl,hB2⟩
 have hvy:=hvy.below hB2 hvy.lt
 have hB:=hB.trans (hB2.mono hB.size)
 clear hB2
 have hz2:=hvy.lt
 by_cases he:er=0
 ·subst he
  have HX:Hid (V=(numV (x,y),0)):=by show _=_;rw[HRV.out,if_pos rfl]
  go_wp2_with fail
  obtain⟨W3,hW3⟩:∃W3,W3=w2.alloc (.cells #[.int .i64 x,.int .i64 y] 23):=⟨_,rfl⟩
  rw[←hW3]
  have hvy:World.vb W3 w.heap.size vz:=by rw[hW3];exact hvy.alloc _
  have hB:Below w.heap.size w W3:=by rw[hW3];exact hB.alloc hB.size _
  clear hW3 hz2
  refine(number_any x y _).mono ?_
  rintro e4 w4 ⟨rfl,hB4⟩
  have hvy:=hvy.below hB4 hvy.lt
  have hB:=hB.trans (hB4.mono hB.size)
  clear hB4
  go_wp2_with (refine wpList_store34 rfl rfl rfl rfl hvy (by rfl) (pcs_one _) ?_;intro w9 hn9 hg9 hz9)
  refine bodyPost_ret (results_vl_tmp rfl _ _ _ _ rfl hn9 (by rfl)) rfl ?_
  exact⟨by rw[HX.out];rfl,hB.grown hg9 hB.size (fun k9 hk9=>by cases hk9;omega)⟩
 have HRV:Hid (V=readT1 tr ef tb T):=by show _=_;rw[HRV.out,if_neg he]
 have he2:(er==0)=false:=by simpa using he
 clear he
 go_wp2_with fail
 obtain⟨W3,hW3⟩:∃W3,W3=w2.alloc (.cells #[.int .i64 x,.int .i64 y] 23):=⟨_,rfl⟩
 rw[←hW3]
 have hvy:World.vb W3 w.heap.size vz:=by rw[hW3];exact hvy.alloc _
 have hB:Below w.heap.size w W3:=by rw[hW3];exact hB.alloc hB.size _
 clear hW3 hz2 he2
 refine(HTr.out _).mono ?_
 rintro e4 w4 ⟨rfl,hB4⟩
 have hvy:=hvy.below hB4 hvy.lt
 have hB:=hB.trans (hB4.mono hB.size)
 clear hB4
 cases tr with
 |some b=>
  have HX:Hid (V=(trV b,0)):=HRV.out
  simp only[Option.getD_some,Option.isSome_some]
  go_wp2_with fail
  refine(truth_any b _).mono ?_
  rintro e5 w5 ⟨rfl,hB5⟩
  have hvy:=hvy.below hB5 hvy.lt
  have hB:=hB.trans (hB5.mono hB.size)
  clear hB5
  go_wp2_with (refine wpList_store34 rfl rfl rfl rfl hvy (by rfl) (pcs_one _) ?_;intro w9 hn9 hg9 hz9)
  refine bodyPost_ret (results_vl_tmp rfl _ _ _ _ rfl hn9 (by rfl)) rfl ?_
  exact⟨by rw[HX.out];rfl,hB.grown hg9 hB.size (fun k9 hk9=>by cases hk9;omega)⟩
 |none=>
  have HRV:Hid (V=readT2 ef tb T):=HRV.out
  simp only[Option.getD_none,Option.isSome_none]
  go_wp2_with fail
  refine(names_any _).mono ?_
  rintro e5 w5 ⟨rfl,hB5⟩
  have hvy:=hvy.below hB5 hvy.lt
  have hB:=hB.trans (hB5.mono hB.size)
  clear hB5
  have HNA:=Lib.hid (show ∀K:Nat,K<9→∀W:World,(Instr.index 78 (.agg namesC) (.int .i64 (K:Int))).run Tryz.prog W= .ok (.string (mk (errL (K+1)))) W from fun K h W=>names_idxK h W)
  obtain⟨NC,hNC⟩:∃NC,namesC=NC:=⟨_,rfl⟩
  rw[hNC]at HNA⊢
  clear hNC
  go_wp2_with fail
  go_loopw [38] (fun i wr=>∃K:Nat,K≤9∧i= .int .i64 (K:Int)∧World.vb wr w.heap.size vz∧Below w.heap.size w wr∧Hid (∀i,i<K→¬lowL (errL (i+1))=lowL s.data.toList)) (fun i _=>9-(intOf i).toNat)
  case atStart=>exact⟨0,Nat.zero_le _,rfl,hvy,hB,Lib.hid fun i h=>by omega⟩
  case round=>
   clear hvy hB
   obtain⟨K,hK,rfl,hvy,hB,HK⟩:=hrel
   by_cases hlt:K<9
   ·have hKI:(K:Int)<9:=by omega
    have hna:=HNA.out K hlt
    have HF2:=Lib.hid (show ∀W,Calls Tryz.prog 48 #[.string (mk (errL (K+1)))] W (Gives (.string (foldS (mk (errL (K+1))))) W)from fun W=>fold_any _ W (by
     have:∀n,(errL n).length≤10:=by
      intro n
      unfold errL
      split<;>decide
     have:=this (K+1)
     rw[mk_size];omega))
    have HFE:=Lib.hid (show lowL (errL (K+1))=lowL s.data.toList→(foldS (mk (errL (K+1)))).toList=(foldS s).toList from fun h=>fold_eq h)
    have HFN:=Lib.hid (show ¬lowL (errL (K+1))=lowL s.data.toList→((foldS (mk (errL (K+1)))).toList==(foldS s).toList)=false from fun h=>fold_ne h)
    obtain⟨S,hS⟩:∃S,mk (errL (K+1))=S:=⟨_,rfl⟩
    rw[hS]at hna HF2 HFE HFN
    clear hS
    have hKs:K+1≤9:=hlt
    by_cases hq:lowL (errL (K+1))=lowL s.data.toList
    ·have hfe:=HFE.out hq
     have hef:=HE.out.1 K hlt HK.out hq
     subst hef
     have HX:Hid (V=(errV ((K:Int)+1),0)):=HRV.out
     clear hq HFE HFN
     go_wp2_with fail
     refine(HF2.out _).mono ?_
     rintro e6 w6 ⟨rfl,hB6⟩
     have hvy:=hvy.below hB6 hvy.lt
     have hB:=hB.trans (hB6.mono hB.size)
     clear hB6
     go_wp2_with fail
     refine(HF.out _).mono ?_
     rintro e7 w7 ⟨rfl,hB7⟩
     have hvy:=hvy.below hB7 hvy.lt
     have hB:=hB.trans (hB7.mono hB.size)
     clear hB7
     go_wp2_with fail
     refine(err_any _ _).mono ?_
     rintro e8 w8 ⟨rfl,hB8⟩
     have hvy:=hvy.below hB8 hvy.lt
     have hB:=hB.trans (hB8.mono hB.size)
     clear hB8
     go_wp2_with (refine wpList_store34 rfl rfl rfl rfl hvy (by rfl) (pcs_one _) ?_;intro w9 hn9 hg9 hz9)
     refine bodyPost_ret (results_vl_tmp rfl _ _ _ _ rfl hn9 (by rfl)) rfl ?_
     exact⟨by rw[HX.out];rfl,hB.grown hg9 hB.size (fun k9 hk9=>by cases hk9;omega)⟩
    ·have hfn:=HFN.out hq
     have HK':Hid (∀i,i<K+1→¬lowL (errL (i+1))=lowL s.data.toList):=Lib.hid fun i hi=>by
      by_cases e:i=K
      ·subst e;exact hq
      ·exact HK.out i (by omega)
     clear hq HFE HFN
     go_wp2_with fail
     refine(HF2.out _).mono ?_
     rintro e6 w6 ⟨rfl,hB6⟩
     have hvy:=hvy.below hB6 hvy.lt
     have hB:=hB.trans (hB6.mono hB.size)
     clear hB6
     go_wp2_with fail
     refine(HF.out _).mono ?_
     rintro e7 w7 ⟨rfl,hB7⟩
     have hvy:=hvy.below hB7 hvy.lt
     have hB:=hB.trans (hB7.mono hB.size)
     clear hB7
     go_wp2_with fail
     go_roundw
     case rel=>exact⟨K+1,by omega,by go_num,hvy,hB,HK'⟩
     case measure=>simp[intOf];omega
   ·obtain rfl:K=9:=by omega
    have hef:=HE.out.2 HK.out
    subst hef
    have HRV:Hid (V=readT3 tb T):=HRV.out
    go_wp2_with fail
    refine(HTP.out _).mono ?_
    rintro e6 w6 ⟨rfl,hB6⟩
    have hvy:=hvy.below hB6 hvy.lt
    have hB:=hB.trans (hB6.mono hB.size)
    clear hB6
    go_wp2_with fail
    refine(HX.out _ hB).mono ?_
    rintro e7 w7 ⟨rfl,hB7⟩
    have hvy:=hvy.below hB7 hvy.lt
    have hB:=hB.trans (hB7.mono hB.size)
    clear hB7
    cases tb with
    |true=>
     have HV2:Hid (V=(txtV T,0)):=HRV.out
     go_wp2_with fail
     refine(said_any _ _).mono ?_
     rintro e8 w8 ⟨rfl,hB8⟩
     have hvy:=hvy.below hB8 hvy.lt
     have hB:=hB.trans (hB8.mono hB.size)
     clear hB8
     go_wp2_with (refine wpList_store34 rfl rfl rfl rfl hvy (by rfl) (pcs_one _) ?_;intro w9 hn9 hg9 hz9)
     refine bodyPost_ret (results_vl_tmp rfl _ _ _ _ rfl hn9 (by rfl)) rfl ?_
     exact⟨by rw[HV2.out];rfl,hB.grown hg9 hB.size (fun k9 hk9=>by cases hk9;omega)⟩
    |false=>
     have HV2:Hid (V=({},30)):=HRV.out
     go_wp2_with (first|refine wpList_build_zero rfl rfl ?_|(refine wpList_store34 rfl rfl rfl rfl hvy (by rfl) (pcs_one _) ?_;intro w9 hn9 hg9 hz9))
     refine bodyPost_ret (results_vl_tmp rfl _ _ _ _ rfl hn9 (by rfl)) rfl ?_
     exact⟨by rw[HV2.out];rfl,hB.grown hg9 hB.size (fun k9 hk9=>by cases hk9;omega)⟩
/-- What any text says. -/
theorem vread_any (s:ByteArray) (w:World) (hs:s.size≤4294967000) (hS:Shp w) (hT:Lib.Utf8Tabs 0 1 w):Calls Tryz.prog 17 #[.string s] w (ReadPost (readV s.data.toList) w):=by
 by_cases h0:0<s.size
 ·by_cases hc:(s[0]'h0).toNat=61
  ·have:readV s.data.toList=({},30):=by
    obtain⟨⟨l⟩⟩:=s
    cases l with
    |nil=>exact absurd h0 (by decide)
    |cons c r=>
     have e:c=61:=UInt8.toNat_inj.1 hc
     subst e;rfl
   rw[this]
   exact read_form s w h0 hc
  ·exact read_more s w hs hS hT h0 hc
 ·have:s=⟨#[]⟩:=by
   obtain⟨⟨l⟩⟩:=s
   cases l with
   |nil=>rfl
   |cons a l=>exact absurd h0 (by simp[ByteArray.size])
  subst this
  exact read_nil w
end Go.Proofs.YtkhohjdakcchdaaGreatDoor
