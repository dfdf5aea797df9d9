/- tabularef03.num, told, is, as at plain values. (By genRnt.py.) -/
import Derived.Test.YtkhohjdakcchdaaGreatDoorBx
import Derived.Test.YtkhohjdakcchdaaGreatDoorRtx
import Derived.Test.YtkhohjdakcchdaaGreatDoorBw
import Derived.Test.YtkhohjdakcchdaaGreatDoorRrd
namespace Go.Proofs.YtkhohjdakcchdaaGreatDoor
open Go Go.RowKit Go.Shelf
theorem build_kind (k:Int) (w:World):(Instr.build 34 #[(0,.int .i64 k)]).run Tryz.prog w= .ok (.agg (pcs {k:=k})) w:=by kernel_rfl
theorem wpList_build_kind {ops:Array Oper} {rest:List Oper} {o:Oper} {a:Act} {w:World} {Q:Exit→Act→World→Prop} {k:Int} (hgd:o.guard=none) (ho:o.op= .build 34 #[(0,.const (.int .i64 k))])
 (h:wpList Tryz.prog ops Q rest (a.put o.dst (.agg (pcs {k:=k}))) w):wpList Tryz.prog ops Q (o :: rest) a w:=
 wpList_plain hgd fun K hK=>by
  have hz:=build_kind k w
  have he:a.eval (.const (.int .i64 k))= .int .i64 k:=rfl
  unfold Oper.wp execOp
  simp[ho,he,hz]
  exact hK _ _ h
theorem ret_p {a b:Array Value} (h:a=b):Ending.returned (.agg a)= .returned (.agg b):=by rw[h]
set_option maxRecDepth 100000 in
set_option maxHeartbeats 4000000 in
theorem rnum_0  (w:World):Calls Tryz.prog 151 #[.agg (pcs (({}:Vl)))] w (Gives (.agg (pcs (numV (0,0)))) w):=by
 have HO:Hid (OneC (pcs (({}:Vl)))):=Lib.hid (pcs_one _)
 obtain⟨CX,hCX⟩:∃C,pcs (({}:Vl))=C:=⟨_,rfl⟩
 have X0:Hid (CX[0]? =some (.int .i64 0)):=Lib.hid (by rw[←hCX];rfl)
 rw[hCX]at HO⊢
 have HCX:=Lib.hid hCX
 clear hCX
 obtain⟨W,hW⟩:∃W,W=(w.alloc (.cells CX 34)).alloc (.cells vz 34):=⟨_,rfl⟩
 have hvx:World.vb W w.heap.size CX:=by rw[hW];exact(World.vb_new w _).alloc _
 have hvy:World.vb W (w.heap.size+1) vz:=by rw[hW];exact World.vb_new' _ _ _ (by simp)
 have hB:Below w.heap.size w W:=by rw[hW];exact((Below.refl _ w).alloc (Nat.le_refl _) _).alloc (by simp) _
 go_enter Tryz.func151,Tryz.ntmps151
 go_upto_region 1 with (refine wpList_alloc34 rfl rfl ?_)
 go_simp
 rw[←hW]
 clear hW
 have c0:=hvx.cell X0.out
 go_wp2_with (first|refine wpList_build_kind rfl rfl ?_|(refine wpList_store34 rfl rfl rfl rfl hvy (by rfl) (pcs_one _) ?_;intro w9 hn9 hg9 hz9))
 refine bodyPost_ret (results_cell_row rfl _ _ _ 34 _ (0,0) _ rfl hn9 Tryz.underlying34 rfl info34) rfl ?_
 exact⟨rfl,hB.grown hg9 hB.size (fun k9 hk9=>by cases hk9;omega)⟩
set_option maxRecDepth 100000 in
set_option maxHeartbeats 4000000 in
theorem rnum_1 (x y:Int) (w:World):Calls Tryz.prog 151 #[.agg (pcs (numV (x,y)))] w (Gives (.agg (pcs (numV (x,y)))) w):=by
 have HO:Hid (OneC (pcs (numV (x,y)))):=Lib.hid (pcs_one _)
 obtain⟨CX,hCX⟩:∃C,pcs (numV (x,y))=C:=⟨_,rfl⟩
 have X0:Hid (CX[0]? =some (.int .i64 1)):=Lib.hid (by rw[←hCX];rfl)
 rw[hCX]at HO⊢
 have HCX:=Lib.hid hCX
 clear hCX
 obtain⟨W,hW⟩:∃W,W=(w.alloc (.cells CX 34)).alloc (.cells vz 34):=⟨_,rfl⟩
 have hvx:World.vb W w.heap.size CX:=by rw[hW];exact(World.vb_new w _).alloc _
 have hvy:World.vb W (w.heap.size+1) vz:=by rw[hW];exact World.vb_new' _ _ _ (by simp)
 have hB:Below w.heap.size w W:=by rw[hW];exact((Below.refl _ w).alloc (Nat.le_refl _) _).alloc (by simp) _
 go_enter Tryz.func151,Tryz.ntmps151
 go_upto_region 1 with (refine wpList_alloc34 rfl rfl ?_)
 go_simp
 rw[←hW]
 clear hW
 have c0:=hvx.cell X0.out
 go_wp2_with (first|refine wpList_load34 rfl rfl rfl hvx HO.out.1 ?_|(refine wpList_store34 rfl rfl rfl rfl hvy (by rfl) HO.out ?_;intro w9 hn9 hg9 hz9))
 refine bodyPost_ret (results_cell_row rfl _ _ _ 34 _ (0,0) _ rfl hn9 Tryz.underlying34 rfl (by rw[HO.out.1];exact info34)) rfl ?_
 exact⟨(by first|rfl|exact ret_p HCX.out.symm),hB.grown hg9 hB.size (fun k9 hk9=>by cases hk9;omega)⟩
set_option maxRecDepth 100000 in
set_option maxHeartbeats 4000000 in
theorem rnum_4 (k:Int) (w:World):Calls Tryz.prog 151 #[.agg (pcs (errV k))] w (Gives (.agg (pcs (errV k))) w):=by
 have HO:Hid (OneC (pcs (errV k))):=Lib.hid (pcs_one _)
 obtain⟨CX,hCX⟩:∃C,pcs (errV k)=C:=⟨_,rfl⟩
 have X0:Hid (CX[0]? =some (.int .i64 4)):=Lib.hid (by rw[←hCX];rfl)
 rw[hCX]at HO⊢
 have HCX:=Lib.hid hCX
 clear hCX
 obtain⟨W,hW⟩:∃W,W=(w.alloc (.cells CX 34)).alloc (.cells vz 34):=⟨_,rfl⟩
 have hvx:World.vb W w.heap.size CX:=by rw[hW];exact(World.vb_new w _).alloc _
 have hvy:World.vb W (w.heap.size+1) vz:=by rw[hW];exact World.vb_new' _ _ _ (by simp)
 have hB:Below w.heap.size w W:=by rw[hW];exact((Below.refl _ w).alloc (Nat.le_refl _) _).alloc (by simp) _
 go_enter Tryz.func151,Tryz.ntmps151
 go_upto_region 1 with (refine wpList_alloc34 rfl rfl ?_)
 go_simp
 rw[←hW]
 clear hW
 have c0:=hvx.cell X0.out
 go_wp2_with (first|refine wpList_load34 rfl rfl rfl hvx HO.out.1 ?_|(refine wpList_store34 rfl rfl rfl rfl hvy (by rfl) HO.out ?_;intro w9 hn9 hg9 hz9))
 refine bodyPost_ret (results_cell_row rfl _ _ _ 34 _ (0,0) _ rfl hn9 Tryz.underlying34 rfl (by rw[HO.out.1];exact info34)) rfl ?_
 exact⟨(by first|rfl|exact ret_p HCX.out.symm),hB.grown hg9 hB.size (fun k9 hk9=>by cases hk9;omega)⟩
set_option maxRecDepth 100000 in
set_option maxHeartbeats 4000000 in
theorem rnum_3 (b:Bool) (w:World):Calls Tryz.prog 151 #[.agg (pcs (trV b))] w (Gives (.agg (pcs (numV (truI b,0)))) w):=by
 have HO:Hid (OneC (pcs (trV b))):=Lib.hid (pcs_one _)
 obtain⟨CX,hCX⟩:∃C,pcs (trV b)=C:=⟨_,rfl⟩
 have X0:Hid (CX[0]? =some (.int .i64 3)):=Lib.hid (by rw[←hCX];rfl)
 have X3:Hid (CX[3]? =some (.string ⟨#[]⟩)):=Lib.hid (by rw[←hCX];rfl)
 have X4:Hid (CX[4]? =some (.bool b)):=Lib.hid (by rw[←hCX];rfl)
 rw[hCX]at HO⊢
 have HCX:=Lib.hid hCX
 clear hCX
 obtain⟨W,hW⟩:∃W,W=(w.alloc (.cells CX 34)).alloc (.cells vz 34):=⟨_,rfl⟩
 have hvx:World.vb W w.heap.size CX:=by rw[hW];exact(World.vb_new w _).alloc _
 have hvy:World.vb W (w.heap.size+1) vz:=by rw[hW];exact World.vb_new' _ _ _ (by simp)
 have hB:Below w.heap.size w W:=by rw[hW];exact((Below.refl _ w).alloc (Nat.le_refl _) _).alloc (by simp) _
 go_enter Tryz.func151,Tryz.ntmps151
 go_upto_region 1 with (refine wpList_alloc34 rfl rfl ?_)
 go_simp
 rw[←hW]
 clear hW
 have c0:=hvx.cell X0.out
 have c3:=hvx.cell X3.out
 have c4:=hvx.cell X4.out
 go_wp2_with fail
 refine(rtruth_any b _).mono ?_
 rintro e3 w3 ⟨rfl,rfl⟩
 go_wp2_with (first|refine wpList_build_num rfl rfl (by rfl) ?_|(refine wpList_store34 rfl rfl rfl rfl hvy (by rfl) (pcs_one _) ?_;intro w9 hn9 hg9 hz9))
 refine bodyPost_ret (results_cell_row rfl _ _ _ 34 _ (0,0) _ rfl hn9 Tryz.underlying34 rfl info34) rfl ?_
 exact⟨rfl,hB.grown hg9 hB.size (fun k9 hk9=>by cases hk9;omega)⟩
set_option maxRecDepth 100000 in
set_option maxHeartbeats 4000000 in
theorem rnum_2 (s:ByteArray) (hs:s.size≤1000) (w:World):Calls Tryz.prog 151 #[.agg (pcs (txtV s))] w (Gives (.agg (pcs (if(readD s.data.toList).2=0 then numV (readD s.data.toList).1 else errV 3))) w):=by
 have HO:Hid (OneC (pcs (txtV s))):=Lib.hid (pcs_one _)
 obtain⟨CX,hCX⟩:∃C,pcs (txtV s)=C:=⟨_,rfl⟩
 have X0:Hid (CX[0]? =some (.int .i64 2)):=Lib.hid (by rw[←hCX];rfl)
 have X3:Hid (CX[3]? =some (.string s)):=Lib.hid (by rw[←hCX];rfl)
 rw[hCX]at HO⊢
 have HCX:=Lib.hid hCX
 clear hCX
 obtain⟨x,y,er,hr⟩:=three (readD s.data.toList)
 have HR:=Lib.hid (show ∀W,Calls Tryz.prog 53 #[.string s] W (DecPost ((x,y),er) W)from fun W=>by rw[←hr];exact rread_any s W (by omega))
 obtain⟨V,hV⟩:∃V,(if(readD s.data.toList).2=0 then numV (readD s.data.toList).1 else errV 3)=V:=⟨_,rfl⟩
 rw[hV]
 have HV:Hid (V=if er=0 then numV (x,y)else errV 3):=Lib.hid (by rw[←hV,hr])
 clear hr hV
 obtain⟨W,hW⟩:∃W,W=(w.alloc (.cells CX 34)).alloc (.cells vz 34):=⟨_,rfl⟩
 have hvx:World.vb W w.heap.size CX:=by rw[hW];exact(World.vb_new w _).alloc _
 have hvy:World.vb W (w.heap.size+1) vz:=by rw[hW];exact World.vb_new' _ _ _ (by simp)
 have hB:Below w.heap.size w W:=by rw[hW];exact((Below.refl _ w).alloc (Nat.le_refl _) _).alloc (by simp) _
 go_enter Tryz.func151,Tryz.ntmps151
 go_upto_region 1 with (refine wpList_alloc34 rfl rfl ?_)
 go_simp
 rw[←hW]
 clear hW
 have c0:=hvx.cell X0.out
 have c3:=hvx.cell X3.out
 go_wp2_with fail
 refine(HR.out _).mono ?_
 rintro e3 w3 ⟨rfl,hB3⟩
 have hvx:=hvx.below hB3 hvx.lt
 have hvy:=hvy.below hB3 hvy.lt
 have hB:=hB.trans (hB3.mono hB.size)
 clear hB3
 have hvz:=hvy.alloc (.cells #[.int .i64 x,.int .i64 y] 23)
 have hBz:=hB.alloc hB.size (.cells #[.int .i64 x,.int .i64 y] 23)
 have hz2:=hvy.lt
 by_cases he:er=0
 ·subst he
  have HX:Hid (V=numV (x,y)):=Lib.hid (by rw[HV.out,if_pos rfl])
  go_wp2_with (first|refine wpList_build_num rfl rfl (by rfl) ?_|(refine wpList_store34 rfl rfl rfl rfl hvz (by rfl) (pcs_one _) ?_;intro w9 hn9 hg9 hz9))
  refine bodyPost_ret (results_cell_row rfl _ _ _ 34 _ (0,0) _ rfl hn9 Tryz.underlying34 rfl info34) rfl ?_
  exact⟨by rw[HX.out],hBz.grown hg9 hBz.size (fun k9 hk9=>by cases hk9;omega)⟩
 ·have HX:Hid (V=errV 3):=Lib.hid (by rw[HV.out,if_neg he])
  have he2:(er != 0)=true:=by simpa using he
  clear he
  go_wp2_with fail
  obtain⟨W3,hW3⟩:∃W3,W3=w3.alloc (.cells #[.int .i64 x,.int .i64 y] 23):=⟨_,rfl⟩
  rw[←hW3]at hvz hBz⊢
  clear hW3 hvy hB hvx
  have hvy:=hvz
  have hB:=hBz
  refine(rerr_any 3 _).mono ?_
  rintro e4 w4 ⟨rfl,hB4⟩
  have hvy:=hvy.below hB4 hvy.lt
  have hB:=hB.trans (hB4.mono hB.size)
  clear hB4
  go_wp2_with (refine wpList_store34 rfl rfl rfl rfl hvy (by rfl) (pcs_one _) ?_;intro w9 hn9 hg9 hz9)
  refine bodyPost_ret (results_cell_row rfl _ _ _ 34 _ (0,0) _ rfl hn9 Tryz.underlying34 rfl info34) rfl ?_
  exact⟨by rw[HX.out],hB.grown hg9 hB.size (fun k9 hk9=>by cases hk9;omega)⟩
set_option maxRecDepth 100000 in
set_option maxHeartbeats 4000000 in
theorem rtold_0  (w:World):Calls Tryz.prog 127 #[.agg (pcs (({}:Vl)))] w (Gives (.agg (pcs (txtV (mk [])))) w):=by
 have HO:Hid (OneC (pcs (({}:Vl)))):=Lib.hid (pcs_one _)
 obtain⟨CX,hCX⟩:∃C,pcs (({}:Vl))=C:=⟨_,rfl⟩
 have X0:Hid (CX[0]? =some (.int .i64 0)):=Lib.hid (by rw[←hCX];rfl)
 rw[hCX]at HO⊢
 have HCX:=Lib.hid hCX
 clear hCX
 obtain⟨W,hW⟩:∃W,W=(w.alloc (.cells CX 34)).alloc (.cells vz 34):=⟨_,rfl⟩
 have hvx:World.vb W w.heap.size CX:=by rw[hW];exact(World.vb_new w _).alloc _
 have hvy:World.vb W (w.heap.size+1) vz:=by rw[hW];exact World.vb_new' _ _ _ (by simp)
 have hB:Below w.heap.size w W:=by rw[hW];exact((Below.refl _ w).alloc (Nat.le_refl _) _).alloc (by simp) _
 go_enter Tryz.func127,Tryz.ntmps127
 go_upto_region 1 with (refine wpList_alloc34 rfl rfl ?_)
 go_simp
 rw[←hW]
 clear hW
 have c0:=hvx.cell X0.out
 go_wp2_with (first|refine wpList_build_kind rfl rfl ?_|(refine wpList_store34 rfl rfl rfl rfl hvy (by rfl) (pcs_one _) ?_;intro w9 hn9 hg9 hz9))
 refine bodyPost_ret (results_cell_row rfl _ _ _ 34 _ (0,0) _ rfl hn9 Tryz.underlying34 rfl info34) rfl ?_
 exact⟨rfl,hB.grown hg9 hB.size (fun k9 hk9=>by cases hk9;omega)⟩
set_option maxRecDepth 100000 in
set_option maxHeartbeats 4000000 in
theorem rtold_2 (s:ByteArray) (w:World):Calls Tryz.prog 127 #[.agg (pcs (txtV s))] w (Gives (.agg (pcs (txtV s))) w):=by
 have HO:Hid (OneC (pcs (txtV s))):=Lib.hid (pcs_one _)
 obtain⟨CX,hCX⟩:∃C,pcs (txtV s)=C:=⟨_,rfl⟩
 have X0:Hid (CX[0]? =some (.int .i64 2)):=Lib.hid (by rw[←hCX];rfl)
 rw[hCX]at HO⊢
 have HCX:=Lib.hid hCX
 clear hCX
 obtain⟨W,hW⟩:∃W,W=(w.alloc (.cells CX 34)).alloc (.cells vz 34):=⟨_,rfl⟩
 have hvx:World.vb W w.heap.size CX:=by rw[hW];exact(World.vb_new w _).alloc _
 have hvy:World.vb W (w.heap.size+1) vz:=by rw[hW];exact World.vb_new' _ _ _ (by simp)
 have hB:Below w.heap.size w W:=by rw[hW];exact((Below.refl _ w).alloc (Nat.le_refl _) _).alloc (by simp) _
 go_enter Tryz.func127,Tryz.ntmps127
 go_upto_region 1 with (refine wpList_alloc34 rfl rfl ?_)
 go_simp
 rw[←hW]
 clear hW
 have c0:=hvx.cell X0.out
 go_wp2_with (first|refine wpList_load34 rfl rfl rfl hvx HO.out.1 ?_|(refine wpList_store34 rfl rfl rfl rfl hvy (by rfl) HO.out ?_;intro w9 hn9 hg9 hz9))
 refine bodyPost_ret (results_cell_row rfl _ _ _ 34 _ (0,0) _ rfl hn9 Tryz.underlying34 rfl (by rw[HO.out.1];exact info34)) rfl ?_
 exact⟨(by first|rfl|exact ret_p HCX.out.symm),hB.grown hg9 hB.size (fun k9 hk9=>by cases hk9;omega)⟩
set_option maxRecDepth 100000 in
set_option maxHeartbeats 4000000 in
theorem rtold_4 (k:Int) (w:World):Calls Tryz.prog 127 #[.agg (pcs (errV k))] w (Gives (.agg (pcs (errV k))) w):=by
 have HO:Hid (OneC (pcs (errV k))):=Lib.hid (pcs_one _)
 obtain⟨CX,hCX⟩:∃C,pcs (errV k)=C:=⟨_,rfl⟩
 have X0:Hid (CX[0]? =some (.int .i64 4)):=Lib.hid (by rw[←hCX];rfl)
 rw[hCX]at HO⊢
 have HCX:=Lib.hid hCX
 clear hCX
 obtain⟨W,hW⟩:∃W,W=(w.alloc (.cells CX 34)).alloc (.cells vz 34):=⟨_,rfl⟩
 have hvx:World.vb W w.heap.size CX:=by rw[hW];exact(World.vb_new w _).alloc _
 have hvy:World.vb W (w.heap.size+1) vz:=by rw[hW];exact World.vb_new' _ _ _ (by simp)
 have hB:Below w.heap.size w W:=by rw[hW];exact((Below.refl _ w).alloc (Nat.le_refl _) _).alloc (by simp) _
 go_enter Tryz.func127,Tryz.ntmps127
 go_upto_region 1 with (refine wpList_alloc34 rfl rfl ?_)
 go_simp
 rw[←hW]
 clear hW
 have c0:=hvx.cell X0.out
 go_wp2_with (first|refine wpList_load34 rfl rfl rfl hvx HO.out.1 ?_|(refine wpList_store34 rfl rfl rfl rfl hvy (by rfl) HO.out ?_;intro w9 hn9 hg9 hz9))
 refine bodyPost_ret (results_cell_row rfl _ _ _ 34 _ (0,0) _ rfl hn9 Tryz.underlying34 rfl (by rw[HO.out.1];exact info34)) rfl ?_
 exact⟨(by first|rfl|exact ret_p HCX.out.symm),hB.grown hg9 hB.size (fun k9 hk9=>by cases hk9;omega)⟩
set_option maxRecDepth 100000 in
set_option maxHeartbeats 4000000 in
theorem rtold_1 (x y:Int) (h0: -9223372036854775808≤x) (h1:x≤9223372036854775807) (w:World):Calls Tryz.prog 127 #[.agg (pcs (numV (x,y)))] w (Gives (.agg (pcs (txtV (mk (textD x y).1)))) w):=by
 have HO:Hid (OneC (pcs (numV (x,y)))):=Lib.hid (pcs_one _)
 obtain⟨CX,hCX⟩:∃C,pcs (numV (x,y))=C:=⟨_,rfl⟩
 have X0:Hid (CX[0]? =some (.int .i64 1)):=Lib.hid (by rw[←hCX];rfl)
 have X1:Hid (CX[1]? =some (.int .i64 x)):=Lib.hid (by rw[←hCX];rfl)
 have X2:Hid (CX[2]? =some (.int .i64 y)):=Lib.hid (by rw[←hCX];rfl)
 rw[hCX]at HO⊢
 have HCX:=Lib.hid hCX
 clear hCX
 have HT:=Lib.hid (show ∀W,Calls Tryz.prog 150 #[.agg #[.int .i64 x,.int .i64 y]] W (TextPost (textD x y) W)from fun W=>rtext_any x y W h0 h1)
 generalize textD x y=tt at HT⊢
 clear h0 h1
 obtain⟨W,hW⟩:∃W,W=(w.alloc (.cells CX 34)).alloc (.cells vz 34):=⟨_,rfl⟩
 have hvx:World.vb W w.heap.size CX:=by rw[hW];exact(World.vb_new w _).alloc _
 have hvy:World.vb W (w.heap.size+1) vz:=by rw[hW];exact World.vb_new' _ _ _ (by simp)
 have hB:Below w.heap.size w W:=by rw[hW];exact((Below.refl _ w).alloc (Nat.le_refl _) _).alloc (by simp) _
 go_enter Tryz.func127,Tryz.ntmps127
 go_upto_region 1 with (refine wpList_alloc34 rfl rfl ?_)
 go_simp
 rw[←hW]
 clear hW
 have c0:=hvx.cell X0.out
 have c1:=hvx.cell X1.out
 have c2:=hvx.cell X2.out
 go_wp2_with fail
 refine(HT.out _).mono ?_
 rintro e3 w3 ⟨rfl,hB3⟩
 have hvx:=hvx.below hB3 hvx.lt
 have hvy:=hvy.below hB3 hvy.lt
 have hB:=hB.trans (hB3.mono hB.size)
 clear hB3
 go_wp2_with (first|refine wpList_build_txt rfl rfl (by rfl) ?_|(refine wpList_store34 rfl rfl rfl rfl hvy (by rfl) (pcs_one _) ?_;intro w9 hn9 hg9 hz9))
 refine bodyPost_ret (results_cell_row rfl _ _ _ 34 _ (0,0) _ rfl hn9 Tryz.underlying34 rfl info34) rfl ?_
 exact⟨rfl,hB.grown hg9 hB.size (fun k9 hk9=>by cases hk9;omega)⟩
set_option maxRecDepth 100000 in
set_option maxHeartbeats 4000000 in
theorem rtold_3t  (w:World):Calls Tryz.prog 127 #[.agg (pcs (trV true))] w (Gives (.agg (pcs (txtV (mk TRUEL)))) w):=by
 have HO:Hid (OneC (pcs (trV true))):=Lib.hid (pcs_one _)
 obtain⟨CX,hCX⟩:∃C,pcs (trV true)=C:=⟨_,rfl⟩
 have X0:Hid (CX[0]? =some (.int .i64 3)):=Lib.hid (by rw[←hCX];rfl)
 have X4:Hid (CX[4]? =some (.bool true)):=Lib.hid (by rw[←hCX];rfl)
 rw[hCX]at HO⊢
 have HCX:=Lib.hid hCX
 clear hCX
 obtain⟨W,hW⟩:∃W,W=(w.alloc (.cells CX 34)).alloc (.cells vz 34):=⟨_,rfl⟩
 have hvx:World.vb W w.heap.size CX:=by rw[hW];exact(World.vb_new w _).alloc _
 have hvy:World.vb W (w.heap.size+1) vz:=by rw[hW];exact World.vb_new' _ _ _ (by simp)
 have hB:Below w.heap.size w W:=by rw[hW];exact((Below.refl _ w).alloc (Nat.le_refl _) _).alloc (by simp) _
 go_enter Tryz.func127,Tryz.ntmps127
 go_upto_region 1 with (refine wpList_alloc34 rfl rfl ?_)
 go_simp
 rw[←hW]
 clear hW
 have c0:=hvx.cell X0.out
 have c4:=hvx.cell X4.out
 go_wp2_with (first|refine wpList_build_txt (s:=⟨#[84,82,85,69]⟩) rfl rfl (by rfl) ?_|(refine wpList_store34 rfl rfl rfl rfl hvy (by rfl) (pcs_one _) ?_;intro w9 hn9 hg9 hz9))
 refine bodyPost_ret (results_cell_row rfl _ _ _ 34 _ (0,0) _ rfl hn9 Tryz.underlying34 rfl info34) rfl ?_
 exact⟨rfl,hB.grown hg9 hB.size (fun k9 hk9=>by cases hk9;omega)⟩
set_option maxRecDepth 100000 in
set_option maxHeartbeats 4000000 in
theorem rtold_3f  (w:World):Calls Tryz.prog 127 #[.agg (pcs (trV false))] w (Gives (.agg (pcs (txtV (mk FALSEL)))) w):=by
 have HO:Hid (OneC (pcs (trV false))):=Lib.hid (pcs_one _)
 obtain⟨CX,hCX⟩:∃C,pcs (trV false)=C:=⟨_,rfl⟩
 have X0:Hid (CX[0]? =some (.int .i64 3)):=Lib.hid (by rw[←hCX];rfl)
 have X4:Hid (CX[4]? =some (.bool false)):=Lib.hid (by rw[←hCX];rfl)
 rw[hCX]at HO⊢
 have HCX:=Lib.hid hCX
 clear hCX
 obtain⟨W,hW⟩:∃W,W=(w.alloc (.cells CX 34)).alloc (.cells vz 34):=⟨_,rfl⟩
 have hvx:World.vb W w.heap.size CX:=by rw[hW];exact(World.vb_new w _).alloc _
 have hvy:World.vb W (w.heap.size+1) vz:=by rw[hW];exact World.vb_new' _ _ _ (by simp)
 have hB:Below w.heap.size w W:=by rw[hW];exact((Below.refl _ w).alloc (Nat.le_refl _) _).alloc (by simp) _
 go_enter Tryz.func127,Tryz.ntmps127
 go_upto_region 1 with (refine wpList_alloc34 rfl rfl ?_)
 go_simp
 rw[←hW]
 clear hW
 have c0:=hvx.cell X0.out
 have c4:=hvx.cell X4.out
 go_wp2_with (first|refine wpList_build_txt (s:=⟨#[70,65,76,83,69]⟩) rfl rfl (by rfl) ?_|(refine wpList_store34 rfl rfl rfl rfl hvy (by rfl) (pcs_one _) ?_;intro w9 hn9 hg9 hz9))
 refine bodyPost_ret (results_cell_row rfl _ _ _ 34 _ (0,0) _ rfl hn9 Tryz.underlying34 rfl info34) rfl ?_
 exact⟨rfl,hB.grown hg9 hB.size (fun k9 hk9=>by cases hk9;omega)⟩
set_option maxRecDepth 100000 in
set_option maxHeartbeats 4000000 in
theorem ris_0  (w:World):Calls Tryz.prog 152 #[.agg (pcs (({}:Vl)))] w (Gives (.agg (pcs (trV false))) w):=by
 have HO:Hid (OneC (pcs (({}:Vl)))):=Lib.hid (pcs_one _)
 obtain⟨CX,hCX⟩:∃C,pcs (({}:Vl))=C:=⟨_,rfl⟩
 have X0:Hid (CX[0]? =some (.int .i64 0)):=Lib.hid (by rw[←hCX];rfl)
 rw[hCX]at HO⊢
 have HCX:=Lib.hid hCX
 clear hCX
 obtain⟨W,hW⟩:∃W,W=(w.alloc (.cells CX 34)).alloc (.cells vz 34):=⟨_,rfl⟩
 have hvx:World.vb W w.heap.size CX:=by rw[hW];exact(World.vb_new w _).alloc _
 have hvy:World.vb W (w.heap.size+1) vz:=by rw[hW];exact World.vb_new' _ _ _ (by simp)
 have hB:Below w.heap.size w W:=by rw[hW];exact((Below.refl _ w).alloc (Nat.le_refl _) _).alloc (by simp) _
 go_enter Tryz.func152,Tryz.ntmps152
 go_upto_region 1 with (refine wpList_alloc34 rfl rfl ?_)
 go_simp
 rw[←hW]
 clear hW
 have c0:=hvx.cell X0.out
 go_wp2_with (first|refine wpList_build_kind rfl rfl ?_|(refine wpList_store34 rfl rfl rfl rfl hvy (by rfl) (pcs_one _) ?_;intro w9 hn9 hg9 hz9))
 refine bodyPost_ret (results_cell_row rfl _ _ _ 34 _ (0,0) _ rfl hn9 Tryz.underlying34 rfl info34) rfl ?_
 exact⟨rfl,hB.grown hg9 hB.size (fun k9 hk9=>by cases hk9;omega)⟩
set_option maxRecDepth 100000 in
set_option maxHeartbeats 4000000 in
theorem ris_1 (x y:Int) (w:World):Calls Tryz.prog 152 #[.agg (pcs (numV (x,y)))] w (Gives (.agg (pcs (trV (x != 0)))) w):=by
 have HO:Hid (OneC (pcs (numV (x,y)))):=Lib.hid (pcs_one _)
 obtain⟨CX,hCX⟩:∃C,pcs (numV (x,y))=C:=⟨_,rfl⟩
 have X0:Hid (CX[0]? =some (.int .i64 1)):=Lib.hid (by rw[←hCX];rfl)
 have X1:Hid (CX[1]? =some (.int .i64 x)):=Lib.hid (by rw[←hCX];rfl)
 rw[hCX]at HO⊢
 have HCX:=Lib.hid hCX
 clear hCX
 obtain⟨bb,hbb⟩:∃b,(x != 0)=b:=⟨_,rfl⟩
 rw[hbb]
 obtain⟨W,hW⟩:∃W,W=(w.alloc (.cells CX 34)).alloc (.cells vz 34):=⟨_,rfl⟩
 have hvx:World.vb W w.heap.size CX:=by rw[hW];exact(World.vb_new w _).alloc _
 have hvy:World.vb W (w.heap.size+1) vz:=by rw[hW];exact World.vb_new' _ _ _ (by simp)
 have hB:Below w.heap.size w W:=by rw[hW];exact((Below.refl _ w).alloc (Nat.le_refl _) _).alloc (by simp) _
 go_enter Tryz.func152,Tryz.ntmps152
 go_upto_region 1 with (refine wpList_alloc34 rfl rfl ?_)
 go_simp
 rw[←hW]
 clear hW
 have c0:=hvx.cell X0.out
 have c1:=hvx.cell X1.out
 go_wp2_with (first|refine wpList_build_tr (b:=bb) rfl rfl (by rfl) ?_|(refine wpList_store34 rfl rfl rfl rfl hvy (by rfl) (pcs_one _) ?_;intro w9 hn9 hg9 hz9))
 refine bodyPost_ret (results_cell_row rfl _ _ _ 34 _ (0,0) _ rfl hn9 Tryz.underlying34 rfl info34) rfl ?_
 exact⟨rfl,hB.grown hg9 hB.size (fun k9 hk9=>by cases hk9;omega)⟩
set_option maxRecDepth 100000 in
set_option maxHeartbeats 4000000 in
theorem ris_2t (s:ByteArray) (hs:s.size≤1000) (h:lowL s.data.toList=trueL) (w:World):Calls Tryz.prog 152 #[.agg (pcs (txtV s))] w (Gives (.agg (pcs (trV true))) w):=by
 have HO:Hid (OneC (pcs (txtV s))):=Lib.hid (pcs_one _)
 obtain⟨CX,hCX⟩:∃C,pcs (txtV s)=C:=⟨_,rfl⟩
 have X0:Hid (CX[0]? =some (.int .i64 2)):=Lib.hid (by rw[←hCX];rfl)
 have X3:Hid (CX[3]? =some (.string s)):=Lib.hid (by rw[←hCX];rfl)
 rw[hCX]at HO⊢
 have HCX:=Lib.hid hCX
 clear hCX
 have HF:=Lib.hid (show ∀W,Calls Tryz.prog 54 #[.string s] W (Gives (.string (foldS s)) W)from fun W=>rfold_any s W (by omega))
 have e1:(foldS s).toList= [116,114,117,101]:=by rw[foldS_list,h];rfl
 clear h hs
 obtain⟨W,hW⟩:∃W,W=(w.alloc (.cells CX 34)).alloc (.cells vz 34):=⟨_,rfl⟩
 have hvx:World.vb W w.heap.size CX:=by rw[hW];exact(World.vb_new w _).alloc _
 have hvy:World.vb W (w.heap.size+1) vz:=by rw[hW];exact World.vb_new' _ _ _ (by simp)
 have hB:Below w.heap.size w W:=by rw[hW];exact((Below.refl _ w).alloc (Nat.le_refl _) _).alloc (by simp) _
 go_enter Tryz.func152,Tryz.ntmps152
 go_upto_region 1 with (refine wpList_alloc34 rfl rfl ?_)
 go_simp
 rw[←hW]
 clear hW
 have c0:=hvx.cell X0.out
 have c3:=hvx.cell X3.out
 go_wp2_with fail
 refine(HF.out _).mono ?_
 rintro e3 w3 ⟨rfl,hB3⟩
 have hvx:=hvx.below hB3 hvx.lt
 have hvy:=hvy.below hB3 hvy.lt
 have hB:=hB.trans (hB3.mono hB.size)
 clear hB3
 have c3:=hvx.cell X3.out
 go_wp2_with fail
 refine(HF.out _).mono ?_
 rintro e4 w4 ⟨rfl,hB4⟩
 have hvx:=hvx.below hB4 hvx.lt
 have hvy:=hvy.below hB4 hvy.lt
 have hB:=hB.trans (hB4.mono hB.size)
 clear hB4
 have c3:=hvx.cell X3.out
 go_wp2_with (first|refine wpList_build_tr (b:=true) rfl rfl (by rfl) ?_|(refine wpList_store34 rfl rfl rfl rfl hvy (by rfl) (pcs_one _) ?_;intro w9 hn9 hg9 hz9))
 refine bodyPost_ret (results_cell_row rfl _ _ _ 34 _ (0,0) _ rfl hn9 Tryz.underlying34 rfl info34) rfl ?_
 exact⟨rfl,hB.grown hg9 hB.size (fun k9 hk9=>by cases hk9;omega)⟩
set_option maxRecDepth 100000 in
set_option maxHeartbeats 4000000 in
theorem ris_2f (s:ByteArray) (hs:s.size≤1000) (ht:¬lowL s.data.toList=trueL) (h:lowL s.data.toList=falseL) (w:World):Calls Tryz.prog 152 #[.agg (pcs (txtV s))] w (Gives (.agg (pcs (trV false))) w):=by
 have HO:Hid (OneC (pcs (txtV s))):=Lib.hid (pcs_one _)
 obtain⟨CX,hCX⟩:∃C,pcs (txtV s)=C:=⟨_,rfl⟩
 have X0:Hid (CX[0]? =some (.int .i64 2)):=Lib.hid (by rw[←hCX];rfl)
 have X3:Hid (CX[3]? =some (.string s)):=Lib.hid (by rw[←hCX];rfl)
 rw[hCX]at HO⊢
 have HCX:=Lib.hid hCX
 clear hCX
 have HF:=Lib.hid (show ∀W,Calls Tryz.prog 54 #[.string s] W (Gives (.string (foldS s)) W)from fun W=>rfold_any s W (by omega))
 have e1:¬(foldS s).toList= [116,114,117,101]:=by rw[foldS_list];exact ht
 have e3:((foldS s).toList== [116,114,117,101])=false:=beq_eq_false_iff_ne.2 e1
 have e2:(foldS s).toList= [102,97,108,115,101]:=by rw[foldS_list,h];rfl
 clear h ht hs
 obtain⟨W,hW⟩:∃W,W=(w.alloc (.cells CX 34)).alloc (.cells vz 34):=⟨_,rfl⟩
 have hvx:World.vb W w.heap.size CX:=by rw[hW];exact(World.vb_new w _).alloc _
 have hvy:World.vb W (w.heap.size+1) vz:=by rw[hW];exact World.vb_new' _ _ _ (by simp)
 have hB:Below w.heap.size w W:=by rw[hW];exact((Below.refl _ w).alloc (Nat.le_refl _) _).alloc (by simp) _
 go_enter Tryz.func152,Tryz.ntmps152
 go_upto_region 1 with (refine wpList_alloc34 rfl rfl ?_)
 go_simp
 rw[←hW]
 clear hW
 have c0:=hvx.cell X0.out
 have c3:=hvx.cell X3.out
 go_wp2_with fail
 refine(HF.out _).mono ?_
 rintro e3 w3 ⟨rfl,hB3⟩
 have hvx:=hvx.below hB3 hvx.lt
 have hvy:=hvy.below hB3 hvy.lt
 have hB:=hB.trans (hB3.mono hB.size)
 clear hB3
 have c3:=hvx.cell X3.out
 go_wp2_with fail
 refine(HF.out _).mono ?_
 rintro e4 w4 ⟨rfl,hB4⟩
 have hvx:=hvx.below hB4 hvx.lt
 have hvy:=hvy.below hB4 hvy.lt
 have hB:=hB.trans (hB4.mono hB.size)
 clear hB4
 have c3:=hvx.cell X3.out
 go_wp2_with fail
 refine(HF.out _).mono ?_
 rintro e5 w5 ⟨rfl,hB5⟩
 have hvx:=hvx.below hB5 hvx.lt
 have hvy:=hvy.below hB5 hvy.lt
 have hB:=hB.trans (hB5.mono hB.size)
 clear hB5
 have c3:=hvx.cell X3.out
 go_wp2_with (first|refine wpList_build_tr (b:=false) rfl rfl (by rfl) ?_|(refine wpList_store34 rfl rfl rfl rfl hvy (by rfl) (pcs_one _) ?_;intro w9 hn9 hg9 hz9))
 refine bodyPost_ret (results_cell_row rfl _ _ _ 34 _ (0,0) _ rfl hn9 Tryz.underlying34 rfl info34) rfl ?_
 exact⟨rfl,hB.grown hg9 hB.size (fun k9 hk9=>by cases hk9;omega)⟩
set_option maxRecDepth 100000 in
set_option maxHeartbeats 4000000 in
theorem ris_2n (s:ByteArray) (hs:s.size≤1000) (ht:¬lowL s.data.toList=trueL) (hf:¬lowL s.data.toList=falseL) (w:World):Calls Tryz.prog 152 #[.agg (pcs (txtV s))] w (Gives (.agg (pcs (errV 3))) w):=by
 have HO:Hid (OneC (pcs (txtV s))):=Lib.hid (pcs_one _)
 obtain⟨CX,hCX⟩:∃C,pcs (txtV s)=C:=⟨_,rfl⟩
 have X0:Hid (CX[0]? =some (.int .i64 2)):=Lib.hid (by rw[←hCX];rfl)
 have X3:Hid (CX[3]? =some (.string s)):=Lib.hid (by rw[←hCX];rfl)
 rw[hCX]at HO⊢
 have HCX:=Lib.hid hCX
 clear hCX
 have HF:=Lib.hid (show ∀W,Calls Tryz.prog 54 #[.string s] W (Gives (.string (foldS s)) W)from fun W=>rfold_any s W (by omega))
 have e1:¬(foldS s).toList= [116,114,117,101]:=by rw[foldS_list];exact ht
 have e3:((foldS s).toList== [116,114,117,101])=false:=beq_eq_false_iff_ne.2 e1
 have e2:¬(foldS s).toList= [102,97,108,115,101]:=by rw[foldS_list];exact hf
 have e4:((foldS s).toList== [102,97,108,115,101])=false:=beq_eq_false_iff_ne.2 e2
 clear hf ht hs
 obtain⟨W,hW⟩:∃W,W=(w.alloc (.cells CX 34)).alloc (.cells vz 34):=⟨_,rfl⟩
 have hvx:World.vb W w.heap.size CX:=by rw[hW];exact(World.vb_new w _).alloc _
 have hvy:World.vb W (w.heap.size+1) vz:=by rw[hW];exact World.vb_new' _ _ _ (by simp)
 have hB:Below w.heap.size w W:=by rw[hW];exact((Below.refl _ w).alloc (Nat.le_refl _) _).alloc (by simp) _
 go_enter Tryz.func152,Tryz.ntmps152
 go_upto_region 1 with (refine wpList_alloc34 rfl rfl ?_)
 go_simp
 rw[←hW]
 clear hW
 have c0:=hvx.cell X0.out
 have c3:=hvx.cell X3.out
 go_wp2_with fail
 refine(HF.out _).mono ?_
 rintro e3 w3 ⟨rfl,hB3⟩
 have hvx:=hvx.below hB3 hvx.lt
 have hvy:=hvy.below hB3 hvy.lt
 have hB:=hB.trans (hB3.mono hB.size)
 clear hB3
 have c3:=hvx.cell X3.out
 go_wp2_with fail
 refine(HF.out _).mono ?_
 rintro e4 w4 ⟨rfl,hB4⟩
 have hvx:=hvx.below hB4 hvx.lt
 have hvy:=hvy.below hB4 hvy.lt
 have hB:=hB.trans (hB4.mono hB.size)
 clear hB4
 have c3:=hvx.cell X3.out
 go_wp2_with fail
 refine(rerr_any 3 _).mono ?_
 rintro e6 w6 ⟨rfl,hB6⟩
 have hvx:=hvx.below hB6 hvx.lt
 have hvy:=hvy.below hB6 hvy.lt
 have hB:=hB.trans (hB6.mono hB.size)
 clear hB6
 go_wp2_with (refine wpList_store34 rfl rfl rfl rfl hvy (by rfl) (pcs_one _) ?_;intro w9 hn9 hg9 hz9)
 refine bodyPost_ret (results_cell_row rfl _ _ _ 34 _ (0,0) _ rfl hn9 Tryz.underlying34 rfl info34) rfl ?_
 exact⟨rfl,hB.grown hg9 hB.size (fun k9 hk9=>by cases hk9;omega)⟩
set_option maxRecDepth 100000 in
set_option maxHeartbeats 4000000 in
theorem ris_3 (b:Bool) (w:World):Calls Tryz.prog 152 #[.agg (pcs (trV b))] w (Gives (.agg (pcs (trV b))) w):=by
 have HO:Hid (OneC (pcs (trV b))):=Lib.hid (pcs_one _)
 obtain⟨CX,hCX⟩:∃C,pcs (trV b)=C:=⟨_,rfl⟩
 have X0:Hid (CX[0]? =some (.int .i64 3)):=Lib.hid (by rw[←hCX];rfl)
 rw[hCX]at HO⊢
 have HCX:=Lib.hid hCX
 clear hCX
 obtain⟨W,hW⟩:∃W,W=(w.alloc (.cells CX 34)).alloc (.cells vz 34):=⟨_,rfl⟩
 have hvx:World.vb W w.heap.size CX:=by rw[hW];exact(World.vb_new w _).alloc _
 have hvy:World.vb W (w.heap.size+1) vz:=by rw[hW];exact World.vb_new' _ _ _ (by simp)
 have hB:Below w.heap.size w W:=by rw[hW];exact((Below.refl _ w).alloc (Nat.le_refl _) _).alloc (by simp) _
 go_enter Tryz.func152,Tryz.ntmps152
 go_upto_region 1 with (refine wpList_alloc34 rfl rfl ?_)
 go_simp
 rw[←hW]
 clear hW
 have c0:=hvx.cell X0.out
 go_wp2_with (first|refine wpList_load34 rfl rfl rfl hvx HO.out.1 ?_|(refine wpList_store34 rfl rfl rfl rfl hvy (by rfl) HO.out ?_;intro w9 hn9 hg9 hz9))
 refine bodyPost_ret (results_cell_row rfl _ _ _ 34 _ (0,0) _ rfl hn9 Tryz.underlying34 rfl (by rw[HO.out.1];exact info34)) rfl ?_
 exact⟨(by first|rfl|exact ret_p HCX.out.symm),hB.grown hg9 hB.size (fun k9 hk9=>by cases hk9;omega)⟩
set_option maxRecDepth 100000 in
set_option maxHeartbeats 4000000 in
theorem ris_4 (k:Int) (w:World):Calls Tryz.prog 152 #[.agg (pcs (errV k))] w (Gives (.agg (pcs (errV k))) w):=by
 have HO:Hid (OneC (pcs (errV k))):=Lib.hid (pcs_one _)
 obtain⟨CX,hCX⟩:∃C,pcs (errV k)=C:=⟨_,rfl⟩
 have X0:Hid (CX[0]? =some (.int .i64 4)):=Lib.hid (by rw[←hCX];rfl)
 rw[hCX]at HO⊢
 have HCX:=Lib.hid hCX
 clear hCX
 obtain⟨W,hW⟩:∃W,W=(w.alloc (.cells CX 34)).alloc (.cells vz 34):=⟨_,rfl⟩
 have hvx:World.vb W w.heap.size CX:=by rw[hW];exact(World.vb_new w _).alloc _
 have hvy:World.vb W (w.heap.size+1) vz:=by rw[hW];exact World.vb_new' _ _ _ (by simp)
 have hB:Below w.heap.size w W:=by rw[hW];exact((Below.refl _ w).alloc (Nat.le_refl _) _).alloc (by simp) _
 go_enter Tryz.func152,Tryz.ntmps152
 go_upto_region 1 with (refine wpList_alloc34 rfl rfl ?_)
 go_simp
 rw[←hW]
 clear hW
 have c0:=hvx.cell X0.out
 go_wp2_with (first|refine wpList_load34 rfl rfl rfl hvx HO.out.1 ?_|(refine wpList_store34 rfl rfl rfl rfl hvy (by rfl) HO.out ?_;intro w9 hn9 hg9 hz9))
 refine bodyPost_ret (results_cell_row rfl _ _ _ 34 _ (0,0) _ rfl hn9 Tryz.underlying34 rfl (by rw[HO.out.1];exact info34)) rfl ?_
 exact⟨(by first|rfl|exact ret_p HCX.out.symm),hB.grown hg9 hB.size (fun k9 hk9=>by cases hk9;omega)⟩
theorem rnum_any (x:Vl) (w:World) (h:plainV x=true):Calls Tryz.prog 151 #[.agg (pcs x)] w (Gives (.agg (pcs (numT x))) w):=by
 rcases plain_cases h with e|⟨p,e,hr⟩|⟨s,e,hs⟩|⟨b,e⟩|⟨n,e,_⟩<;>subst e
 ·exact rnum_0 w
 ·exact rnum_1 p.1 p.2 w
 ·exact rnum_2 s (by have:=txt_small hs;omega) w
 ·exact rnum_3 b w
 ·exact rnum_4 n w
theorem rtold_any (x:Vl) (w:World) (h:plainV x=true):Calls Tryz.prog 127 #[.agg (pcs x)] w (Gives (.agg (pcs (txtT x))) w):=by
 rcases plain_cases h with e|⟨p,e,hr⟩|⟨s,e,hs⟩|⟨b,e⟩|⟨n,e,_⟩<;>subst e
 ·exact rtold_0 w
 ·unfold RightP at hr
  exact rtold_1 p.1 p.2 (by omega) (by omega) w
 ·exact rtold_2 s w
 ·cases b
  ·exact rtold_3f w
  ·exact rtold_3t w
 ·exact rtold_4 n w
theorem ris_any (x:Vl) (w:World) (h:plainV x=true):Calls Tryz.prog 152 #[.agg (pcs x)] w (Gives (.agg (pcs (truT x))) w):=by
 rcases plain_cases h with e|⟨p,e,hr⟩|⟨s,e,hs⟩|⟨b,e⟩|⟨n,e,_⟩<;>subst e
 ·exact ris_0 w
 ·exact ris_1 p.1 p.2 w
 ·have hz:s.size≤1000:=by have:=txt_small hs;omega
  by_cases ht:lowL s.data.toList=trueL
  ·have:=ris_2t s hz ht w
   have e:truT (txtV s)=trV true:=by
    show(match truthL s.data.toList with|some b=>trV b|none=>errV 3)=_
    rw[show truthL s.data.toList=some true from by unfold truthL;rw[if_pos ht]]
   rw[e];exact this
  by_cases hf:lowL s.data.toList=falseL
  ·have:=ris_2f s hz ht hf w
   have e:truT (txtV s)=trV false:=by
    show(match truthL s.data.toList with|some b=>trV b|none=>errV 3)=_
    rw[show truthL s.data.toList=some false from by unfold truthL;rw[if_neg ht,if_pos hf]]
   rw[e];exact this
  ·have:=ris_2n s hz ht hf w
   have e:truT (txtV s)=errV 3:=by
    show(match truthL s.data.toList with|some b=>trV b|none=>errV 3)=_
    rw[show truthL s.data.toList=none from by unfold truthL;rw[if_neg ht,if_neg hf]]
   rw[e];exact this
 ·exact ris_3 b w
 ·exact ris_4 n w
end Go.Proofs.YtkhohjdakcchdaaGreatDoor
