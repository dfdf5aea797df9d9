/- What is told of a plain value: the closures of ToNum, ToText, ToBool (76, 77, 78). (By genTel.py.) -/
import Derived.Test.YtmhfioimgllgeaaGreatDoorR27
import Derived.Test.YtmhfioimgllgeaaGreatDoorR15
namespace Go.Proofs.YtmhfioimgllgeaaGreatDoor
open Go Go.RowKit Go.Shelf
set_option maxRecDepth 100000 in
set_option maxHeartbeats 4000000 in
theorem num_0  (w:World):Calls Tryz.prog 281 #[.agg (pcs {})] w (Gives (.agg (pcs (numV (0,0)))) w):=by
 have hO:=pcs_one {}
 obtain⟨C,hC⟩:∃C,pcs {}=C:=⟨_,rfl⟩
 have x0:C[0]? =some (.int .i64 0):=by rw[←hC];rfl
 rw[hC]at hO⊢
 have HO:=Lib.hid hO
 have HC:=Lib.hid hC
 clear hC hO
 go_enter Tryz.func281,Tryz.ntmps281
 go_wp2_with (refine wpList_alloc34 rfl rfl ?_)
 obtain⟨W,hW⟩:∃W,W=(w.alloc (.cells C 39)).alloc (.cells vz 39):=⟨_,rfl⟩
 rw[←hW]
 have hvx:World.vb W w.heap.size C:=by rw[hW];exact(World.vb_new w C).alloc _
 have hvy:World.vb W (w.heap.size+1) vz:=by rw[hW];exact World.vb_new' _ _ _ (by simp)
 have hB:Below w.heap.size w W:=by rw[hW];exact((Below.refl _ w).alloc (Nat.le_refl _) _).alloc (by simp) _
 have hz:w.heap.size+1<W.heap.size:=by rw[hW];simp
 clear hW
 refine(number_any 0 0 _).mono ?_
 rintro e2 w2 ⟨rfl,hB2⟩
 have hvx:=hvx.below hB2 hvx.lt
 have hvy:=hvy.below hB2 hvy.lt
 have hB:=hB.trans (hB2.mono hB.size)
 have hz:=Nat.lt_of_lt_of_le hz hB2.size
 clear hB2
 go_wp2_with (refine wpList_store34 rfl rfl rfl rfl hvy (by rfl) (pcs_one _) ?_;intro w9 hn9 hg9 hz9)
 refine bodyPost_ret (results_cell_row rfl _ _ _ 39 _ (0,0) _ rfl hn9 Tryz.underlying39 rfl info34) rfl ?_
 exact⟨rfl,hB.grown hg9 hB.size (fun k9 hk9=>by cases hk9;omega)⟩
set_option maxRecDepth 100000 in
set_option maxHeartbeats 4000000 in
theorem num_1 (p:Int×Int) (w:World):Calls Tryz.prog 281 #[.agg (pcs (numV p))] w (Gives (.agg (pcs (numV p))) w):=by
 have hO:=pcs_one (numV p)
 obtain⟨C,hC⟩:∃C,pcs (numV p)=C:=⟨_,rfl⟩
 have x0:C[0]? =some (.int .i64 1):=by rw[←hC];rfl
 rw[hC]at hO⊢
 have HO:=Lib.hid hO
 have HC:=Lib.hid hC.symm
 clear hC hO
 go_enter Tryz.func281,Tryz.ntmps281
 go_wp2_with (first|refine wpList_alloc34 rfl rfl ?_|refine wpList_load34 rfl rfl rfl ((World.vb_new w C).alloc _) HO.out.1 ?_|(refine wpList_store34 rfl rfl rfl rfl (World.vb_new' (w.alloc (.cells C 39)) vz _ (by simp)) (by rfl) HO.out ?_;intro w9 hn9 hg9 hz9))
 refine bodyPost_ret (results_cell_row rfl _ _ _ 39 _ (0,0) _ rfl hn9 Tryz.underlying39 rfl (by rw[HO.out.1];exact info34)) rfl ?_
 exact⟨by rw[HC.out],(((Below.refl _ w).alloc (Nat.le_refl _) _).alloc (by simp) _).grown hg9 (by simp;omega) (fun k9 hk9=>by cases hk9;simp)⟩
set_option maxRecDepth 100000 in
set_option maxHeartbeats 4000000 in
theorem num_2 (s:ByteArray) (w:World) (hs:s.size≤4294967280) (hS:Shp w):Calls Tryz.prog 281 #[.agg (pcs (txtV s))] w (Gives (.agg (pcs (numT (txtV s)))) w):=by
 obtain⟨x,y,er,hr⟩:=three (readD s.data.toList)
 have HR:=Lib.hid (show ∀W,Below w.heap.size w W→Calls Tryz.prog 282 #[.string s] W (DecPost ((x,y),er) W)from fun W hW=>by rw[←hr];exact read_any s W (by omega) (hS.below hW))
 have HV:Hid (numT (txtV s)=if er=0 then numV (x,y)else errV 3):=by
  show(if(readD s.data.toList).2=0 then numV (readD s.data.toList).1 else errV 3)=_
  rw[hr]
 obtain⟨V,hV⟩:∃V,numT (txtV s)=V:=⟨_,rfl⟩
 rw[hV]at HV⊢
 obtain⟨C,hC⟩:∃C,pcs (txtV s)=C:=⟨_,rfl⟩
 have x0:C[0]? =some (.int .i64 2):=by rw[←hC];rfl
 have x3:C[3]? =some (.string s):=by rw[←hC];rfl
 rw[hC]
 clear hC hr hV hs hS
 go_enter Tryz.func281,Tryz.ntmps281
 go_wp2_with (refine wpList_alloc34 rfl rfl ?_)
 obtain⟨W,hW⟩:∃W,W=(w.alloc (.cells C 39)).alloc (.cells vz 39):=⟨_,rfl⟩
 rw[←hW]
 have hvy:World.vb W (w.heap.size+1) vz:=by rw[hW];exact World.vb_new' _ _ _ (by simp)
 have hB:Below w.heap.size w W:=by rw[hW];exact((Below.refl _ w).alloc (Nat.le_refl _) _).alloc (by simp) _
 clear hW
 refine(HR.out _ hB).mono ?_
 rintro e2 w2 ⟨rfl,hB2⟩
 have hvy:=hvy.below hB2 hvy.lt
 have hB:=hB.trans (hB2.mono hB.size)
 clear hB2
 have hz2:=hvy.lt
 by_cases he:er=0
 ·subst he
  have HX:Hid (V=numV (x,y)):=by show _=_;rw[HV.out,if_pos rfl]
  go_wp2_with fail
  obtain⟨W3,hW3⟩:∃W3,W3=w2.alloc (.cells #[.int .i64 x,.int .i64 y] 34):=⟨_,rfl⟩
  rw[←hW3]
  have hvy:World.vb W3 (w.heap.size+1) vz:=by rw[hW3];exact hvy.alloc _
  have hB:Below w.heap.size w W3:=by rw[hW3];exact hB.alloc hB.size _
  clear hW3 hz2
  refine(number_any x y _).mono ?_
  rintro e4 w4 ⟨rfl,hB4⟩
  have hvy:=hvy.below hB4 hvy.lt
  have hB:=hB.trans (hB4.mono hB.size)
  clear hB4
  go_wp2_with (refine wpList_store34 rfl rfl rfl rfl hvy (by rfl) (pcs_one _) ?_;intro w9 hn9 hg9 hz9)
  refine bodyPost_ret (results_cell_row rfl _ _ _ 39 _ (0,0) _ rfl hn9 Tryz.underlying39 rfl info34) rfl ?_
  exact⟨by rw[HX.out],hB.grown hg9 hB.size (fun k9 hk9=>by cases hk9;omega)⟩
 ·have HX:Hid (V=errV 3):=by show _=_;rw[HV.out,if_neg he]
  have he2:(er != 0)=true:=by simpa using he
  clear he
  go_wp2_with fail
  obtain⟨W3,hW3⟩:∃W3,W3=w2.alloc (.cells #[.int .i64 x,.int .i64 y] 34):=⟨_,rfl⟩
  rw[←hW3]
  have hvy:World.vb W3 (w.heap.size+1) vz:=by rw[hW3];exact hvy.alloc _
  have hB:Below w.heap.size w W3:=by rw[hW3];exact hB.alloc hB.size _
  clear hW3 hz2
  refine(err_any 3 _).mono ?_
  rintro e4 w4 ⟨rfl,hB4⟩
  have hvy:=hvy.below hB4 hvy.lt
  have hB:=hB.trans (hB4.mono hB.size)
  clear hB4
  go_wp2_with (refine wpList_store34 rfl rfl rfl rfl hvy (by rfl) (pcs_one _) ?_;intro w9 hn9 hg9 hz9)
  refine bodyPost_ret (results_cell_row rfl _ _ _ 39 _ (0,0) _ rfl hn9 Tryz.underlying39 rfl info34) rfl ?_
  exact⟨by rw[HX.out],hB.grown hg9 hB.size (fun k9 hk9=>by cases hk9;omega)⟩
set_option maxRecDepth 100000 in
set_option maxHeartbeats 4000000 in
theorem num_3t  (w:World):Calls Tryz.prog 281 #[.agg (pcs (trV true))] w (Gives (.agg (pcs (numV (1,0)))) w):=by
 have hO:=pcs_one (trV true)
 obtain⟨C,hC⟩:∃C,pcs (trV true)=C:=⟨_,rfl⟩
 have x0:C[0]? =some (.int .i64 3):=by rw[←hC];rfl
 have x4:C[4]? =some (.bool true):=by rw[←hC];rfl
 rw[hC]at hO⊢
 have HO:=Lib.hid hO
 have HC:=Lib.hid hC
 clear hC hO
 go_enter Tryz.func281,Tryz.ntmps281
 go_wp2_with (refine wpList_alloc34 rfl rfl ?_)
 obtain⟨W,hW⟩:∃W,W=(w.alloc (.cells C 39)).alloc (.cells vz 39):=⟨_,rfl⟩
 rw[←hW]
 have hvx:World.vb W w.heap.size C:=by rw[hW];exact(World.vb_new w C).alloc _
 have hvy:World.vb W (w.heap.size+1) vz:=by rw[hW];exact World.vb_new' _ _ _ (by simp)
 have hB:Below w.heap.size w W:=by rw[hW];exact((Below.refl _ w).alloc (Nat.le_refl _) _).alloc (by simp) _
 have hz:w.heap.size+1<W.heap.size:=by rw[hW];simp
 clear hW
 refine(number_any 1 0 _).mono ?_
 rintro e2 w2 ⟨rfl,hB2⟩
 have hvx:=hvx.below hB2 hvx.lt
 have hvy:=hvy.below hB2 hvy.lt
 have hB:=hB.trans (hB2.mono hB.size)
 have hz:=Nat.lt_of_lt_of_le hz hB2.size
 clear hB2
 go_wp2_with (refine wpList_store34 rfl rfl rfl rfl hvy (by rfl) (pcs_one _) ?_;intro w9 hn9 hg9 hz9)
 refine bodyPost_ret (results_cell_row rfl _ _ _ 39 _ (0,0) _ rfl hn9 Tryz.underlying39 rfl info34) rfl ?_
 exact⟨rfl,hB.grown hg9 hB.size (fun k9 hk9=>by cases hk9;omega)⟩
set_option maxRecDepth 100000 in
set_option maxHeartbeats 4000000 in
theorem num_3f  (w:World):Calls Tryz.prog 281 #[.agg (pcs (trV false))] w (Gives (.agg (pcs (numV (0,0)))) w):=by
 have hO:=pcs_one (trV false)
 obtain⟨C,hC⟩:∃C,pcs (trV false)=C:=⟨_,rfl⟩
 have x0:C[0]? =some (.int .i64 3):=by rw[←hC];rfl
 have x4:C[4]? =some (.bool false):=by rw[←hC];rfl
 rw[hC]at hO⊢
 have HO:=Lib.hid hO
 have HC:=Lib.hid hC
 clear hC hO
 go_enter Tryz.func281,Tryz.ntmps281
 go_wp2_with (refine wpList_alloc34 rfl rfl ?_)
 obtain⟨W,hW⟩:∃W,W=(w.alloc (.cells C 39)).alloc (.cells vz 39):=⟨_,rfl⟩
 rw[←hW]
 have hvx:World.vb W w.heap.size C:=by rw[hW];exact(World.vb_new w C).alloc _
 have hvy:World.vb W (w.heap.size+1) vz:=by rw[hW];exact World.vb_new' _ _ _ (by simp)
 have hB:Below w.heap.size w W:=by rw[hW];exact((Below.refl _ w).alloc (Nat.le_refl _) _).alloc (by simp) _
 have hz:w.heap.size+1<W.heap.size:=by rw[hW];simp
 clear hW
 refine(number_any 0 0 _).mono ?_
 rintro e2 w2 ⟨rfl,hB2⟩
 have hvx:=hvx.below hB2 hvx.lt
 have hvy:=hvy.below hB2 hvy.lt
 have hB:=hB.trans (hB2.mono hB.size)
 have hz:=Nat.lt_of_lt_of_le hz hB2.size
 clear hB2
 go_wp2_with (refine wpList_store34 rfl rfl rfl rfl hvy (by rfl) (pcs_one _) ?_;intro w9 hn9 hg9 hz9)
 refine bodyPost_ret (results_cell_row rfl _ _ _ 39 _ (0,0) _ rfl hn9 Tryz.underlying39 rfl info34) rfl ?_
 exact⟨rfl,hB.grown hg9 hB.size (fun k9 hk9=>by cases hk9;omega)⟩
set_option maxRecDepth 100000 in
set_option maxHeartbeats 4000000 in
theorem num_4 (n:Int) (w:World):Calls Tryz.prog 281 #[.agg (pcs (errV n))] w (Gives (.agg (pcs (errV n))) w):=by
 have hO:=pcs_one (errV n)
 obtain⟨C,hC⟩:∃C,pcs (errV n)=C:=⟨_,rfl⟩
 have x0:C[0]? =some (.int .i64 4):=by rw[←hC];rfl
 rw[hC]at hO⊢
 have HO:=Lib.hid hO
 have HC:=Lib.hid hC.symm
 clear hC hO
 go_enter Tryz.func281,Tryz.ntmps281
 go_wp2_with (first|refine wpList_alloc34 rfl rfl ?_|refine wpList_load34 rfl rfl rfl ((World.vb_new w C).alloc _) HO.out.1 ?_|(refine wpList_store34 rfl rfl rfl rfl (World.vb_new' (w.alloc (.cells C 39)) vz _ (by simp)) (by rfl) HO.out ?_;intro w9 hn9 hg9 hz9))
 refine bodyPost_ret (results_cell_row rfl _ _ _ 39 _ (0,0) _ rfl hn9 Tryz.underlying39 rfl (by rw[HO.out.1];exact info34)) rfl ?_
 exact⟨by rw[HC.out],(((Below.refl _ w).alloc (Nat.le_refl _) _).alloc (by simp) _).grown hg9 (by simp;omega) (fun k9 hk9=>by cases hk9;simp)⟩
theorem num76_any (x:Vl) (w:World) (hp:plainV x=true) (hS:Shp w):Calls Tryz.prog 281 #[.agg (pcs x)] w (Gives (.agg (pcs (numT x))) w):=by
 rcases plain_cases hp with e|⟨p,e,hr⟩|⟨s,e,hs⟩|⟨b,e⟩|⟨n,e,h1,h2⟩<;>subst e
 ·exact num_0 w
 ·exact num_1 p w
 ·have:s.size≤200:=by unfold txtOk at hs;simp at hs;exact hs.1
  exact num_2 s w (by omega) hS
 ·cases b
  ·exact num_3f w
  ·exact num_3t w
 ·exact num_4 n w
set_option maxRecDepth 100000 in
set_option maxHeartbeats 4000000 in
theorem tx_0  (w:World):Calls Tryz.prog 283 #[.agg (pcs {})] w (Gives (.agg (pcs (txtV (mk [])))) w):=by
 have hO:=pcs_one {}
 obtain⟨C,hC⟩:∃C,pcs {}=C:=⟨_,rfl⟩
 have x0:C[0]? =some (.int .i64 0):=by rw[←hC];rfl
 rw[hC]at hO⊢
 have HO:=Lib.hid hO
 have HC:=Lib.hid hC
 clear hC hO
 go_enter Tryz.func283,Tryz.ntmps283
 go_wp2_with (first|refine wpList_alloc34 rfl rfl ?_|refine wpList_load34 rfl rfl rfl ((World.vb_new w C).alloc _) HO.out.1 ?_)
 obtain⟨W,hW⟩:∃W,W=(w.alloc (.cells C 39)).alloc (.cells vz 39):=⟨_,rfl⟩
 rw[←hW]
 have hvx:World.vb W w.heap.size C:=by rw[hW];exact(World.vb_new w C).alloc _
 have hvy:World.vb W (w.heap.size+1) vz:=by rw[hW];exact World.vb_new' _ _ _ (by simp)
 have hB:Below w.heap.size w W:=by rw[hW];exact((Below.refl _ w).alloc (Nat.le_refl _) _).alloc (by simp) _
 have hz:w.heap.size+1<W.heap.size:=by rw[hW];simp
 clear hW
 rw[←HC.out]
 refine(writ_0 _).mono ?_
 rintro e2 w2 ⟨rfl,hB2⟩
 have hvy:=hvy.below hB2 hvy.lt
 have hB:=hB.trans (hB2.mono hB.size)
 clear hB2 hz hvx
 go_wp2_with fail
 refine(said_any _ _).mono ?_
 rintro e3 w3 ⟨rfl,hB3⟩
 have hvy:=hvy.below hB3 hvy.lt
 have hB:=hB.trans (hB3.mono hB.size)
 clear hB3
 go_wp2_with (refine wpList_store34 rfl rfl rfl rfl hvy (by rfl) (pcs_one _) ?_;intro w9 hn9 hg9 hz9)
 refine bodyPost_ret (results_cell_row rfl _ _ _ 39 _ (0,0) _ rfl hn9 Tryz.underlying39 rfl info34) rfl ?_
 exact⟨rfl,hB.grown hg9 hB.size (fun k9 hk9=>by cases hk9;omega)⟩
set_option maxRecDepth 100000 in
set_option maxHeartbeats 4000000 in
theorem tx_1 (M E:Int) (w:World) (h0: -9223372036854775808≤M) (h1:M≤9223372036854775807):Calls Tryz.prog 283 #[.agg (pcs (numV (M,E)))] w (Gives (.agg (pcs (txtV (mk (textD M E).1)))) w):=by
 have hO:=pcs_one (numV (M,E))
 obtain⟨C,hC⟩:∃C,pcs (numV (M,E))=C:=⟨_,rfl⟩
 have x0:C[0]? =some (.int .i64 1):=by rw[←hC];rfl
 rw[hC]at hO⊢
 have HO:=Lib.hid hO
 have HC:=Lib.hid hC
 clear hC hO
 go_enter Tryz.func283,Tryz.ntmps283
 go_wp2_with (first|refine wpList_alloc34 rfl rfl ?_|refine wpList_load34 rfl rfl rfl ((World.vb_new w C).alloc _) HO.out.1 ?_)
 obtain⟨W,hW⟩:∃W,W=(w.alloc (.cells C 39)).alloc (.cells vz 39):=⟨_,rfl⟩
 rw[←hW]
 have hvx:World.vb W w.heap.size C:=by rw[hW];exact(World.vb_new w C).alloc _
 have hvy:World.vb W (w.heap.size+1) vz:=by rw[hW];exact World.vb_new' _ _ _ (by simp)
 have hB:Below w.heap.size w W:=by rw[hW];exact((Below.refl _ w).alloc (Nat.le_refl _) _).alloc (by simp) _
 have hz:w.heap.size+1<W.heap.size:=by rw[hW];simp
 clear hW
 rw[←HC.out]
 refine(writ_1 M E _ h0 h1).mono ?_
 rintro e2 w2 ⟨rfl,hB2⟩
 have hvy:=hvy.below hB2 hvy.lt
 have hB:=hB.trans (hB2.mono hB.size)
 clear hB2 hz hvx
 go_wp2_with fail
 refine(said_any _ _).mono ?_
 rintro e3 w3 ⟨rfl,hB3⟩
 have hvy:=hvy.below hB3 hvy.lt
 have hB:=hB.trans (hB3.mono hB.size)
 clear hB3
 go_wp2_with (refine wpList_store34 rfl rfl rfl rfl hvy (by rfl) (pcs_one _) ?_;intro w9 hn9 hg9 hz9)
 refine bodyPost_ret (results_cell_row rfl _ _ _ 39 _ (0,0) _ rfl hn9 Tryz.underlying39 rfl info34) rfl ?_
 exact⟨rfl,hB.grown hg9 hB.size (fun k9 hk9=>by cases hk9;omega)⟩
set_option maxRecDepth 100000 in
set_option maxHeartbeats 4000000 in
theorem tx_3t  (w:World):Calls Tryz.prog 283 #[.agg (pcs (trV true))] w (Gives (.agg (pcs (txtV (mk TRUEL)))) w):=by
 have hO:=pcs_one (trV true)
 obtain⟨C,hC⟩:∃C,pcs (trV true)=C:=⟨_,rfl⟩
 have x0:C[0]? =some (.int .i64 3):=by rw[←hC];rfl
 rw[hC]at hO⊢
 have HO:=Lib.hid hO
 have HC:=Lib.hid hC
 clear hC hO
 go_enter Tryz.func283,Tryz.ntmps283
 go_wp2_with (first|refine wpList_alloc34 rfl rfl ?_|refine wpList_load34 rfl rfl rfl ((World.vb_new w C).alloc _) HO.out.1 ?_)
 obtain⟨W,hW⟩:∃W,W=(w.alloc (.cells C 39)).alloc (.cells vz 39):=⟨_,rfl⟩
 rw[←hW]
 have hvx:World.vb W w.heap.size C:=by rw[hW];exact(World.vb_new w C).alloc _
 have hvy:World.vb W (w.heap.size+1) vz:=by rw[hW];exact World.vb_new' _ _ _ (by simp)
 have hB:Below w.heap.size w W:=by rw[hW];exact((Below.refl _ w).alloc (Nat.le_refl _) _).alloc (by simp) _
 have hz:w.heap.size+1<W.heap.size:=by rw[hW];simp
 clear hW
 rw[←HC.out]
 refine(show Calls Tryz.prog 284 #[.agg (pcs (trV true))] _ (Gives (.string (mk TRUEL)) _)from writ_3 true _).mono ?_
 rintro e2 w2 ⟨rfl,hB2⟩
 have hvy:=hvy.below hB2 hvy.lt
 have hB:=hB.trans (hB2.mono hB.size)
 clear hB2 hz hvx
 go_wp2_with fail
 refine(said_any _ _).mono ?_
 rintro e3 w3 ⟨rfl,hB3⟩
 have hvy:=hvy.below hB3 hvy.lt
 have hB:=hB.trans (hB3.mono hB.size)
 clear hB3
 go_wp2_with (refine wpList_store34 rfl rfl rfl rfl hvy (by rfl) (pcs_one _) ?_;intro w9 hn9 hg9 hz9)
 refine bodyPost_ret (results_cell_row rfl _ _ _ 39 _ (0,0) _ rfl hn9 Tryz.underlying39 rfl info34) rfl ?_
 exact⟨rfl,hB.grown hg9 hB.size (fun k9 hk9=>by cases hk9;omega)⟩
set_option maxRecDepth 100000 in
set_option maxHeartbeats 4000000 in
theorem tx_3f  (w:World):Calls Tryz.prog 283 #[.agg (pcs (trV false))] w (Gives (.agg (pcs (txtV (mk FALSEL)))) w):=by
 have hO:=pcs_one (trV false)
 obtain⟨C,hC⟩:∃C,pcs (trV false)=C:=⟨_,rfl⟩
 have x0:C[0]? =some (.int .i64 3):=by rw[←hC];rfl
 rw[hC]at hO⊢
 have HO:=Lib.hid hO
 have HC:=Lib.hid hC
 clear hC hO
 go_enter Tryz.func283,Tryz.ntmps283
 go_wp2_with (first|refine wpList_alloc34 rfl rfl ?_|refine wpList_load34 rfl rfl rfl ((World.vb_new w C).alloc _) HO.out.1 ?_)
 obtain⟨W,hW⟩:∃W,W=(w.alloc (.cells C 39)).alloc (.cells vz 39):=⟨_,rfl⟩
 rw[←hW]
 have hvx:World.vb W w.heap.size C:=by rw[hW];exact(World.vb_new w C).alloc _
 have hvy:World.vb W (w.heap.size+1) vz:=by rw[hW];exact World.vb_new' _ _ _ (by simp)
 have hB:Below w.heap.size w W:=by rw[hW];exact((Below.refl _ w).alloc (Nat.le_refl _) _).alloc (by simp) _
 have hz:w.heap.size+1<W.heap.size:=by rw[hW];simp
 clear hW
 rw[←HC.out]
 refine(show Calls Tryz.prog 284 #[.agg (pcs (trV false))] _ (Gives (.string (mk FALSEL)) _)from writ_3 false _).mono ?_
 rintro e2 w2 ⟨rfl,hB2⟩
 have hvy:=hvy.below hB2 hvy.lt
 have hB:=hB.trans (hB2.mono hB.size)
 clear hB2 hz hvx
 go_wp2_with fail
 refine(said_any _ _).mono ?_
 rintro e3 w3 ⟨rfl,hB3⟩
 have hvy:=hvy.below hB3 hvy.lt
 have hB:=hB.trans (hB3.mono hB.size)
 clear hB3
 go_wp2_with (refine wpList_store34 rfl rfl rfl rfl hvy (by rfl) (pcs_one _) ?_;intro w9 hn9 hg9 hz9)
 refine bodyPost_ret (results_cell_row rfl _ _ _ 39 _ (0,0) _ rfl hn9 Tryz.underlying39 rfl info34) rfl ?_
 exact⟨rfl,hB.grown hg9 hB.size (fun k9 hk9=>by cases hk9;omega)⟩
set_option maxRecDepth 100000 in
set_option maxHeartbeats 4000000 in
theorem tx_2 (s:ByteArray) (w:World):Calls Tryz.prog 283 #[.agg (pcs (txtV s))] w (Gives (.agg (pcs (txtV s))) w):=by
 have hO:=pcs_one (txtV s)
 obtain⟨C,hC⟩:∃C,pcs (txtV s)=C:=⟨_,rfl⟩
 have x0:C[0]? =some (.int .i64 2):=by rw[←hC];rfl
 rw[hC]at hO⊢
 have HO:=Lib.hid hO
 have HC:=Lib.hid hC.symm
 clear hC hO
 go_enter Tryz.func283,Tryz.ntmps283
 go_wp2_with (first|refine wpList_alloc34 rfl rfl ?_|refine wpList_load34 rfl rfl rfl ((World.vb_new w C).alloc _) HO.out.1 ?_|(refine wpList_store34 rfl rfl rfl rfl (World.vb_new' (w.alloc (.cells C 39)) vz _ (by simp)) (by rfl) HO.out ?_;intro w9 hn9 hg9 hz9))
 refine bodyPost_ret (results_cell_row rfl _ _ _ 39 _ (0,0) _ rfl hn9 Tryz.underlying39 rfl (by rw[HO.out.1];exact info34)) rfl ?_
 exact⟨by rw[HC.out],(((Below.refl _ w).alloc (Nat.le_refl _) _).alloc (by simp) _).grown hg9 (by simp;omega) (fun k9 hk9=>by cases hk9;simp)⟩
set_option maxRecDepth 100000 in
set_option maxHeartbeats 4000000 in
theorem tx_4 (n:Int) (w:World):Calls Tryz.prog 283 #[.agg (pcs (errV n))] w (Gives (.agg (pcs (errV n))) w):=by
 have hO:=pcs_one (errV n)
 obtain⟨C,hC⟩:∃C,pcs (errV n)=C:=⟨_,rfl⟩
 have x0:C[0]? =some (.int .i64 4):=by rw[←hC];rfl
 rw[hC]at hO⊢
 have HO:=Lib.hid hO
 have HC:=Lib.hid hC.symm
 clear hC hO
 go_enter Tryz.func283,Tryz.ntmps283
 go_wp2_with (first|refine wpList_alloc34 rfl rfl ?_|refine wpList_load34 rfl rfl rfl ((World.vb_new w C).alloc _) HO.out.1 ?_|(refine wpList_store34 rfl rfl rfl rfl (World.vb_new' (w.alloc (.cells C 39)) vz _ (by simp)) (by rfl) HO.out ?_;intro w9 hn9 hg9 hz9))
 refine bodyPost_ret (results_cell_row rfl _ _ _ 39 _ (0,0) _ rfl hn9 Tryz.underlying39 rfl (by rw[HO.out.1];exact info34)) rfl ?_
 exact⟨by rw[HC.out],(((Below.refl _ w).alloc (Nat.le_refl _) _).alloc (by simp) _).grown hg9 (by simp;omega) (fun k9 hk9=>by cases hk9;simp)⟩
theorem txt77_any (x:Vl) (w:World) (hp:plainV x=true):Calls Tryz.prog 283 #[.agg (pcs x)] w (Gives (.agg (pcs (txtT x))) w):=by
 rcases plain_cases hp with e|⟨p,e,hr⟩|⟨s,e,hs⟩|⟨b,e⟩|⟨n,e,h1,h2⟩<;>subst e
 ·exact tx_0 w
 ·unfold RightP at hr
  exact tx_1 p.1 p.2 w (by omega) (by omega)
 ·exact tx_2 s w
 ·cases b
  ·exact tx_3f w
  ·exact tx_3t w
 ·exact tx_4 n w
set_option maxRecDepth 100000 in
set_option maxHeartbeats 4000000 in
theorem tb_0  (w:World):Calls Tryz.prog 285 #[.agg (pcs {})] w (Gives (.agg (pcs (trV false))) w):=by
 have hO:=pcs_one {}
 obtain⟨C,hC⟩:∃C,pcs {}=C:=⟨_,rfl⟩
 have x0:C[0]? =some (.int .i64 0):=by rw[←hC];rfl
 rw[hC]at hO⊢
 have HO:=Lib.hid hO
 have HC:=Lib.hid hC
 clear hC hO
 go_enter Tryz.func285,Tryz.ntmps285
 go_wp2_with (refine wpList_alloc34 rfl rfl ?_)
 obtain⟨W,hW⟩:∃W,W=(w.alloc (.cells C 39)).alloc (.cells vz 39):=⟨_,rfl⟩
 rw[←hW]
 have hvx:World.vb W w.heap.size C:=by rw[hW];exact(World.vb_new w C).alloc _
 have hvy:World.vb W (w.heap.size+1) vz:=by rw[hW];exact World.vb_new' _ _ _ (by simp)
 have hB:Below w.heap.size w W:=by rw[hW];exact((Below.refl _ w).alloc (Nat.le_refl _) _).alloc (by simp) _
 have hz:w.heap.size+1<W.heap.size:=by rw[hW];simp
 clear hW
 refine(truth_any false _).mono ?_
 rintro e2 w2 ⟨rfl,hB2⟩
 have hvx:=hvx.below hB2 hvx.lt
 have hvy:=hvy.below hB2 hvy.lt
 have hB:=hB.trans (hB2.mono hB.size)
 have hz:=Nat.lt_of_lt_of_le hz hB2.size
 clear hB2
 go_wp2_with (refine wpList_store34 rfl rfl rfl rfl hvy (by rfl) (pcs_one _) ?_;intro w9 hn9 hg9 hz9)
 refine bodyPost_ret (results_cell_row rfl _ _ _ 39 _ (0,0) _ rfl hn9 Tryz.underlying39 rfl info34) rfl ?_
 exact⟨rfl,hB.grown hg9 hB.size (fun k9 hk9=>by cases hk9;omega)⟩
set_option maxRecDepth 100000 in
set_option maxHeartbeats 4000000 in
theorem tb_1 (M E:Int) (w:World):Calls Tryz.prog 285 #[.agg (pcs (numV (M,E)))] w (Gives (.agg (pcs (trV (M != 0)))) w):=by
 have hO:=pcs_one (numV (M,E))
 obtain⟨C,hC⟩:∃C,pcs (numV (M,E))=C:=⟨_,rfl⟩
 have x0:C[0]? =some (.int .i64 1):=by rw[←hC];rfl
 have x1:C[1]? =some (.int .i64 M):=by rw[←hC];rfl
 rw[hC]at hO⊢
 have HO:=Lib.hid hO
 have HC:=Lib.hid hC
 clear hC hO
 go_enter Tryz.func285,Tryz.ntmps285
 go_wp2_with (refine wpList_alloc34 rfl rfl ?_)
 obtain⟨W,hW⟩:∃W,W=(w.alloc (.cells C 39)).alloc (.cells vz 39):=⟨_,rfl⟩
 rw[←hW]
 have hvx:World.vb W w.heap.size C:=by rw[hW];exact(World.vb_new w C).alloc _
 have hvy:World.vb W (w.heap.size+1) vz:=by rw[hW];exact World.vb_new' _ _ _ (by simp)
 have hB:Below w.heap.size w W:=by rw[hW];exact((Below.refl _ w).alloc (Nat.le_refl _) _).alloc (by simp) _
 have hz:w.heap.size+1<W.heap.size:=by rw[hW];simp
 clear hW
 refine(truth_any _ _).mono ?_
 rintro e2 w2 ⟨rfl,hB2⟩
 have hvy:=hvy.below hB2 hvy.lt
 have hB:=hB.trans (hB2.mono hB.size)
 clear hB2 hz hvx
 go_wp2_with (refine wpList_store34 rfl rfl rfl rfl hvy (by rfl) (pcs_one _) ?_;intro w9 hn9 hg9 hz9)
 refine bodyPost_ret (results_cell_row rfl _ _ _ 39 _ (0,0) _ rfl hn9 Tryz.underlying39 rfl info34) rfl ?_
 exact⟨rfl,hB.grown hg9 hB.size (fun k9 hk9=>by cases hk9;omega)⟩
set_option maxRecDepth 100000 in
set_option maxHeartbeats 4000000 in
theorem tb_2 (s:ByteArray) (w:World) (hs:s.size≤4294967280):Calls Tryz.prog 285 #[.agg (pcs (txtV s))] w (Gives (.agg (pcs (truT (txtV s)))) w):=by
 have HR:=Lib.hid (truths_any s · hs)
 have HV:Hid (truT (txtV s)=match truthL s.data.toList with|some b=>trV b|none=>errV 3):=Lib.hid rfl
 obtain⟨V,hV⟩:∃V,truT (txtV s)=V:=⟨_,rfl⟩
 rw[hV]at HV⊢
 obtain⟨C,hC⟩:∃C,pcs (txtV s)=C:=⟨_,rfl⟩
 have x0:C[0]? =some (.int .i64 2):=by rw[←hC];rfl
 have x3:C[3]? =some (.string s):=by rw[←hC];rfl
 rw[hC]
 clear hC hV hs
 generalize truthL s.data.toList=tr at HR HV
 go_enter Tryz.func285,Tryz.ntmps285
 go_wp2_with (refine wpList_alloc34 rfl rfl ?_)
 obtain⟨W,hW⟩:∃W,W=(w.alloc (.cells C 39)).alloc (.cells vz 39):=⟨_,rfl⟩
 rw[←hW]
 have hvy:World.vb W (w.heap.size+1) vz:=by rw[hW];exact World.vb_new' _ _ _ (by simp)
 have hB:Below w.heap.size w W:=by rw[hW];exact((Below.refl _ w).alloc (Nat.le_refl _) _).alloc (by simp) _
 clear hW
 refine(HR.out _).mono ?_
 rintro e2 w2 ⟨rfl,hB2⟩
 have hvy:=hvy.below hB2 hvy.lt
 have hB:=hB.trans (hB2.mono hB.size)
 clear hB2
 cases tr with
 |some b=>
  have HX:Hid (V=trV b):=HV.out
  simp only[Option.getD_some,Option.isSome_some]
  go_wp2_with fail
  refine(truth_any b _).mono ?_
  rintro e4 w4 ⟨rfl,hB4⟩
  have hvy:=hvy.below hB4 hvy.lt
  have hB:=hB.trans (hB4.mono hB.size)
  clear hB4
  go_wp2_with (refine wpList_store34 rfl rfl rfl rfl hvy (by rfl) (pcs_one _) ?_;intro w9 hn9 hg9 hz9)
  refine bodyPost_ret (results_cell_row rfl _ _ _ 39 _ (0,0) _ rfl hn9 Tryz.underlying39 rfl info34) rfl ?_
  exact⟨by rw[HX.out],hB.grown hg9 hB.size (fun k9 hk9=>by cases hk9;omega)⟩
 |none=>
  have HX:Hid (V=errV 3):=HV.out
  simp only[Option.getD_none,Option.isSome_none]
  go_wp2_with fail
  refine(err_any 3 _).mono ?_
  rintro e4 w4 ⟨rfl,hB4⟩
  have hvy:=hvy.below hB4 hvy.lt
  have hB:=hB.trans (hB4.mono hB.size)
  clear hB4
  go_wp2_with (refine wpList_store34 rfl rfl rfl rfl hvy (by rfl) (pcs_one _) ?_;intro w9 hn9 hg9 hz9)
  refine bodyPost_ret (results_cell_row rfl _ _ _ 39 _ (0,0) _ rfl hn9 Tryz.underlying39 rfl info34) rfl ?_
  exact⟨by rw[HX.out],hB.grown hg9 hB.size (fun k9 hk9=>by cases hk9;omega)⟩
set_option maxRecDepth 100000 in
set_option maxHeartbeats 4000000 in
theorem tb_3 (b:Bool) (w:World):Calls Tryz.prog 285 #[.agg (pcs (trV b))] w (Gives (.agg (pcs (trV b))) w):=by
 have hO:=pcs_one (trV b)
 obtain⟨C,hC⟩:∃C,pcs (trV b)=C:=⟨_,rfl⟩
 have x0:C[0]? =some (.int .i64 3):=by rw[←hC];rfl
 rw[hC]at hO⊢
 have HO:=Lib.hid hO
 have HC:=Lib.hid hC.symm
 clear hC hO
 go_enter Tryz.func285,Tryz.ntmps285
 go_wp2_with (first|refine wpList_alloc34 rfl rfl ?_|refine wpList_load34 rfl rfl rfl ((World.vb_new w C).alloc _) HO.out.1 ?_|(refine wpList_store34 rfl rfl rfl rfl (World.vb_new' (w.alloc (.cells C 39)) vz _ (by simp)) (by rfl) HO.out ?_;intro w9 hn9 hg9 hz9))
 refine bodyPost_ret (results_cell_row rfl _ _ _ 39 _ (0,0) _ rfl hn9 Tryz.underlying39 rfl (by rw[HO.out.1];exact info34)) rfl ?_
 exact⟨by rw[HC.out],(((Below.refl _ w).alloc (Nat.le_refl _) _).alloc (by simp) _).grown hg9 (by simp;omega) (fun k9 hk9=>by cases hk9;simp)⟩
set_option maxRecDepth 100000 in
set_option maxHeartbeats 4000000 in
theorem tb_4 (n:Int) (w:World):Calls Tryz.prog 285 #[.agg (pcs (errV n))] w (Gives (.agg (pcs (errV n))) w):=by
 have hO:=pcs_one (errV n)
 obtain⟨C,hC⟩:∃C,pcs (errV n)=C:=⟨_,rfl⟩
 have x0:C[0]? =some (.int .i64 4):=by rw[←hC];rfl
 rw[hC]at hO⊢
 have HO:=Lib.hid hO
 have HC:=Lib.hid hC.symm
 clear hC hO
 go_enter Tryz.func285,Tryz.ntmps285
 go_wp2_with (first|refine wpList_alloc34 rfl rfl ?_|refine wpList_load34 rfl rfl rfl ((World.vb_new w C).alloc _) HO.out.1 ?_|(refine wpList_store34 rfl rfl rfl rfl (World.vb_new' (w.alloc (.cells C 39)) vz _ (by simp)) (by rfl) HO.out ?_;intro w9 hn9 hg9 hz9))
 refine bodyPost_ret (results_cell_row rfl _ _ _ 39 _ (0,0) _ rfl hn9 Tryz.underlying39 rfl (by rw[HO.out.1];exact info34)) rfl ?_
 exact⟨by rw[HC.out],(((Below.refl _ w).alloc (Nat.le_refl _) _).alloc (by simp) _).grown hg9 (by simp;omega) (fun k9 hk9=>by cases hk9;simp)⟩
theorem tru78_any (x:Vl) (w:World) (hp:plainV x=true):Calls Tryz.prog 285 #[.agg (pcs x)] w (Gives (.agg (pcs (truT x))) w):=by
 rcases plain_cases hp with e|⟨p,e,hr⟩|⟨s,e,hs⟩|⟨b,e⟩|⟨n,e,h1,h2⟩<;>subst e
 ·exact tb_0 w
 ·exact tb_1 p.1 p.2 w
 ·have:s.size≤200:=by unfold txtOk at hs;simp at hs;exact hs.1
  exact tb_2 s w (by omega)
 ·exact tb_3 b w
 ·exact tb_4 n w
end Go.Proofs.YtmhfioimgllgeaaGreatDoor
