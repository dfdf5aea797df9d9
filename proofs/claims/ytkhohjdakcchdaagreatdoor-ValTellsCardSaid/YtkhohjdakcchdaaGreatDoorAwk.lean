/- The law's awake: some values, read, told, and put in order: it tells true. -/
import Derived.Test.YtkhohjdakcchdaaGreatDoorTxv
import Derived.Test.YtkhohjdakcchdaaGreatDoorBo
import Derived.Test.YtkhohjdakcchdaaGreatDoorBp
import Derived.Test.YtkhohjdakcchdaaGreatDoorBk
namespace Go.Proofs.YtkhohjdakcchdaaGreatDoor
open Go Go.RowKit Go.Shelf
def litT :Array Value:= #[.int .i64 3,.int .i64 0,.int .i64 0,.string ⟨#[]⟩,.bool true,.int .i64 0,.int .i64 0,.int .i64 0,.slice none 0 0,.int .i64 0,.slice none 0 0,.slice none 0 0]
def litE :Array Value:= #[.int .i64 4,.int .i64 0,.int .i64 0,.string ⟨#[]⟩,.bool false,.int .i64 7,.int .i64 0,.int .i64 0,.slice none 0 0,.int .i64 0,.slice none 0 0,.slice none 0 0]
theorem bslice_aw (W:World):(Instr.buildSlice 28 4 #[(0,.agg (pcs (numV (15,-1)))),(1,.agg (pcs (txtV s12))),(2,.agg litT),(3,.agg litE)]).run Tryz.prog W= .ok (.slice (some ⟨W.heap.size,0,none⟩) 4 4) (W.alloc (.cells (vsC aw).toArray 34)):=by kernel_rfl
theorem lit_150 :pcs (txtV (mk [49,46,53,48]))= #[.int .i64 2,.int .i64 0,.int .i64 0,.string ⟨#[49,46,53,48]⟩,.bool false,.int .i64 0,.int .i64 0,.int .i64 0,.slice none 0 0,.int .i64 0,.slice none 0 0,.slice none 0 0]:=rfl
theorem wpList_bslice4 {ops:Array Oper} {rest:List Oper} {o:Oper} {a:Act} {w:World} {Q:Exit→Act→World→Prop} {x y z t:Operand} {A B C D:Array Value} {cs:Array Value} (hgd:o.guard=none) (ho:o.op= .buildSlice 28 4 #[(0,x),(1,y),(2,z),(3,t)]) (hx:a.eval x= .agg A) (hy:a.eval y= .agg B) (hz:a.eval z= .agg C) (ht:a.eval t= .agg D)
 (hb:(Instr.buildSlice 28 4 #[(0,.agg A),(1,.agg B),(2,.agg C),(3,.agg D)]).run Tryz.prog w= .ok (.slice (some ⟨w.heap.size,0,none⟩) 4 4) (w.alloc (.cells cs 34)))
 (h:wpList Tryz.prog ops Q rest (a.put o.dst (.slice (some ⟨w.heap.size,0,none⟩) 4 4)) (w.alloc (.cells cs 34))):wpList Tryz.prog ops Q (o :: rest) a w:=
 wpList_plain hgd fun K hK=>by
  unfold Oper.wp execOp
  simp[ho,hx,hy,hz,ht,hb]
  exact hK _ _ h
theorem vr_lit {w:World} {g:Nat} {a b c d:Vl} (h:w.heap[g]? =some (.cells (vsC [a,b,c,d]).toArray 34 (0,0))):World.vr w g (.slice (some ⟨g,0,none⟩) 4 4) [a,b,c,d]:=
 ⟨vsC_len _,.inr ⟨g,4,_,rfl,Nat.le_refl _,h,Nat.le_refl _,by unfold maxLen;omega,by simp[vsC_len],by
  rw[List.take_of_length_le (by simp[vsC_len])]⟩⟩
theorem field_b (b:Bool) (w:World):(Instr.field 34 (.agg (pcs (trV b))) 3).run Tryz.prog w= .ok (.bool b) w:=by kernel_rfl
theorem field_s (s:ByteArray) (w:World):(Instr.field 34 (.agg (pcs (txtV s))) 2).run Tryz.prog w= .ok (.string s) w:=by kernel_rfl
set_option maxRecDepth 100000 in
set_option maxHeartbeats 16000000 in
theorem awake_any (w:World) (hS:Shp w) (hT:Lib.Utf8Tabs 0 1 w):Calls Tryz.prog 11 #[] w (Gives (.bool true) w):=by
 have p15:=plain_num r15
 have p12:=plain_txt ok12
 have HA1:=Lib.hid (show ∀W,Below w.heap.size w W→Calls Tryz.prog 17 #[.string ⟨#[39,49,50]⟩] W (ReadPost (txtV s12,0) W)from fun W hW=>by rw[←rd_q12];exact vread_any ⟨#[39,49,50]⟩ W (by decide) (hS.below hW) (tabs_below hT hW))
 have HA2:=Lib.hid (show ∀W,Below w.heap.size w W→Calls Tryz.prog 25 #[.agg (pcs (txtV s12))] W (WritPost ⟨#[39,49,50]⟩ 0 W)from fun W hW=>by
  have:=text_plain25 (txtV s12) W p12 (hS.below hW) (tabs_below hT hW)
  rw[tx_12]at this;exact this)
 have HA3:=Lib.hid (show ∀W,Below w.heap.size w W→Calls Tryz.prog 29 #[.agg #[.int .i64 2,.int .i64 0,.int .i64 0,.string ⟨#[49,46,53,48]⟩,.bool false,.int .i64 0,.int .i64 0,.int .i64 0,.slice none 0 0,.int .i64 0,.slice none 0 0,.slice none 0 0]] W (Gives (.agg (pcs (numV (15,-1)))) W)from fun W hW=>by
  have:=tonum_one (txtV (mk [49,46,53,48])) W (plain_txt (by decide)) (tabs_below hT hW) (hS.below hW)
  rw[n_150,lit_150]at this;exact this)
 have HA4:=Lib.hid (show ∀W g,Below w.heap.size w W→W.heap[g]? =some (.cells (vsC aw).toArray 34 (0,0))→Calls Tryz.prog 19 #[.int .i64 2,.int .i64 2,.slice (some ⟨g,0,none⟩) 4 4] W (MadePost 2 2 aw W)from fun W g hW hg=>
  make_ok 0 2 2 aw _ W aw_plain ((vr_lit hg).vsAt aw_plain (by decide) (Nat.le_refl _) (fun e=>by cases e)) (aw_right 0) (tabs_below hT hW))
 have HA5:=Lib.hid (show ∀W L D,Below w.heap.size w W→World.vr W D L aw→Calls Tryz.prog 25 #[.agg (vcs (arrV 2 2 aw) L nilS nilS)] W (WritPost ⟨#[123,49,46,53,44,34,49,50,34,59,84,82,85,69,44,35,78,47,65,125]⟩ 0 W)from fun W L D hW hL=>by
  have:=text_arr 0 2 2 aw _ W (rp_of_vr hL (aw_right 0) (Nat.le_refl _)) (aw_right 1) (hS.below hW) (tabs_below hT hW)
  rw[aw_text]at this;exact this)
 have HA6:=Lib.hid (show ∀W,Below w.heap.size w W→Calls Tryz.prog 17 #[.string ⟨#[61,49]⟩] W (ReadPost ({},30) W)from fun W hW=>by rw[←rd_eq1];exact vread_any ⟨#[61,49]⟩ W (by decide) (hS.below hW) (tabs_below hT hW))
 have HA7:=Lib.hid (show ∀W,Below w.heap.size w W→Calls Tryz.prog 28 #[.agg (pcs (numV (15,-1))),.agg (pcs (txtV s12))] W (Gives (.int .i64 (-1)) W)from fun W hW=>by
  have:=cmp28_any 0 _ _ _ _ W (rp_plain p15) (rp_plain p12) (.inl p15) (.inl p12) (tabs_below hT hW)
  rw[cmp_aw]at this;exact this)
 have HA8:=Lib.hid (show ∀W L D,Below w.heap.size w W→World.vr W D L aw→Calls Tryz.prog 27 #[.agg (vcs (arrV 2 2 aw) L nilS nilS)] W (Gives (.bool true) W)from fun W L D hW hL=>by
  have:=right27_any 0 _ _ W (rp_of_vr hL (aw_right 0) (Nat.le_refl _)) (.arr aw_plain) (tabs_below hT hW)
  rw[aw_right]at this;exact this)
 have HA9:=Lib.hid (show ∀W L D,Below w.heap.size w W→World.vr W D L aw→Calls Tryz.prog 26 #[.agg (vcs (arrV 2 2 aw) L nilS nilS),.agg (vcs (arrV 2 2 aw) L nilS nilS)] W (Gives (.bool true) W)from fun W L D hW hL=>by
  refine(same_any 2 _ _ _ _ W (rp_of_vr hL (aw_right 0) (Nat.le_refl _)) (rp_of_vr hL (aw_right 0) (Nat.le_refl _))).mono ?_
  rintro e w' ⟨b,rfl,hb,hB⟩
  rw[hb.2 rfl];exact⟨rfl,hB⟩)
 have HA10:=Lib.hid (show ∀W L D,Below w.heap.size w W→World.vr W D L aw→Calls Tryz.prog 26 #[.agg (vcs (arrV 2 2 aw) L nilS nilS),.agg (pcs (numV (15,-1)))] W (Gives (.bool false) W)from fun W L D hW hL=>by
  refine(same_any 2 _ _ _ _ W (rp_of_vr hL (aw_right 0) (Nat.le_refl _)) (rp_plain p15)).mono ?_
  rintro e w' ⟨b,rfl,hb,hB⟩
  cases b with
  |true=>exact absurd (hb.1 rfl) ne_aw
  |false=>exact⟨rfl,hB⟩)
 have HA11:=Lib.hid (show ∀W L D,Below w.heap.size w W→World.vr W D L aw→Calls Tryz.prog 22 #[.agg (vcs (arrV 2 2 aw) L nilS nilS),.int .i64 1,.int .i64 0] W (Gives (.agg (pcs (trV true))) W)from fun W L D hW hL=>by
  have:=get_any 0 2 2 1 0 aw _ W (rp_of_vr hL (aw_right 0) (Nat.le_refl _)) (aw_right 1) (tabs_below hT hW) (by decide) (by decide)
  rw[get_aw]at this;exact this)
 have HA12:=Lib.hid (show ∀W,Below w.heap.size w W→Calls Tryz.prog 30 #[.agg (pcs (numV (15,-1)))] W (Gives (.agg (pcs (txtV ⟨#[49,46,53]⟩))) W)from fun W hW=>by
  have:=totxt_one (numV (15,-1)) W p15 (tabs_below hT hW)
  rw[txt_aw]at this;exact this)
 have HA13:=Lib.hid (show ∀W,Below w.heap.size w W→Calls Tryz.prog 31 #[.agg (pcs (numV (15,-1)))] W (Gives (.agg (pcs (trV true))) W)from fun W hW=>by
  have:=totru_one (numV (15,-1)) W p15 (tabs_below hT hW)
  rw[tru_aw]at this;exact this)
 obtain⟨C1,hC1⟩:∃C,pcs (txtV s12)=C:=⟨_,rfl⟩
 obtain⟨CN,hCN⟩:∃C,pcs (numV (15,-1))=C:=⟨_,rfl⟩
 obtain⟨CT,hCT⟩:∃C,pcs (trV true)=C:=⟨_,rfl⟩
 obtain⟨CS,hCS⟩:∃C,pcs (txtV ⟨#[49,46,53]⟩)=C:=⟨_,rfl⟩
 obtain⟨CZ,hCZ⟩:∃C,pcs ({}:Vl)=C:=⟨_,rfl⟩
 have HA1:=Lib.hid (show ∀W,Below w.heap.size w W→Calls Tryz.prog 17 #[.string ⟨#[39,49,50]⟩] W (fun e w'=>e= .returned (.tuple #[.agg C1,.int .i64 0])∧Below W.heap.size W w')from fun W hW=>by rw[←hC1];exact HA1.out W hW)
 have HA6:=Lib.hid (show ∀W,Below w.heap.size w W→Calls Tryz.prog 17 #[.string ⟨#[61,49]⟩] W (fun e w'=>e= .returned (.tuple #[.agg CZ,.int .i64 30])∧Below W.heap.size W w')from fun W hW=>by rw[←hCZ];exact HA6.out W hW)
 have HB4:=Lib.hid (show ∀W,(Instr.buildSlice 28 4 #[(0,.agg CN),(1,.agg C1),(2,.agg litT),(3,.agg litE)]).run Tryz.prog W= .ok (.slice (some ⟨W.heap.size,0,none⟩) 4 4) (W.alloc (.cells (vsC aw).toArray 34))from fun W=>by rw[←hCN,←hC1];exact bslice_aw W)
 have fl1:∀W,(Instr.field 34 (.agg CT) 3).run Tryz.prog W= .ok (.bool true) W:=fun W=>by rw[←hCT];exact field_b true W
 have fl2:∀W,(Instr.field 34 (.agg CS) 2).run Tryz.prog W= .ok (.string ⟨#[49,46,53]⟩) W:=fun W=>by rw[←hCS];exact field_s _ W
 have X10:Hid (C1[0]? =some (.int .i64 2)):=Lib.hid (by rw[←hC1];rfl)
 have X13:Hid (C1[3]? =some (.string ⟨#[49,50]⟩)):=Lib.hid (by rw[←hC1];rfl)
 have XN1:Hid (CN[1]? =some (.int .i64 15)):=Lib.hid (by rw[←hCN];rfl)
 have XN2:Hid (CN[2]? =some (.int .i64 (-1))):=Lib.hid (by rw[←hCN];rfl)
 have O1:Hid (OneC C1):=Lib.hid (by rw[←hC1];exact pcs_one _)
 have ON:Hid (OneC CN):=Lib.hid (by rw[←hCN];exact pcs_one _)
 have OZ:Hid (OneC CZ):=Lib.hid (by rw[←hCZ];exact pcs_one _)
 rw[hC1]at HA2 HA7
 rw[hCN]at HA3 HA7 HA10 HA12 HA13
 rw[hCT]at HA11 HA13
 rw[hCS]at HA12
 clear hC1 hCN hCT hCS hCZ p15 p12 hS hT
 go_enter Tryz.func11,Tryz.ntmps11
 go_wp2_with fail
 refine(HA1.out _ (Below.refl _ _)).mono ?_
 rintro e1 w1 ⟨rfl,hB⟩
 clear HA1
 obtain⟨b1,hb1⟩:∃b,b=w1.heap.size:=⟨_,rfl⟩
 go_wp2_with (first|refine wpList_alloc34 rfl rfl ?_|(refine wpList_store34 rfl rfl rfl rfl (World.vb_new w1 vz) (by rfl) O1.out ?_;intro w2 hn1 hg2 hz2;have hB:=(hB.alloc hB.size (.cells vz 34)).grown hg2 (by have:=hB.size;simp;omega) (fun k9 hk9=>by cases hk9;exact hB.size))|refine wpList_load34 rfl rfl rfl hn1 O1.out.1 ?_)
 rw[←hb1]at hn1⊢
 clear hb1 hg2 hz2
 refine(HA2.out _ hB).mono ?_
 rintro e3 w3 ⟨rfl,hB3⟩
 have hn1:=hn1.below hB3 hn1.lt
 have hB:=hB.trans (hB3.mono hB.size)
 clear hB3 HA2
 go_wp2_with fail
 refine(HA3.out _ hB).mono ?_
 rintro e4 w4 ⟨rfl,hB4⟩
 have hn1:=hn1.below hB4 hn1.lt
 have hB:=hB.trans (hB4.mono hB.size)
 clear hB4 HA3
 obtain⟨b5,hb5⟩:∃b,b=w4.heap.size:=⟨_,rfl⟩
 have hlt5:=hn1.lt
 rw[←hb5]at hlt5
 go_wp2_with (first|refine wpList_alloc34 rfl rfl ?_|(refine wpList_store34 rfl rfl rfl rfl (World.vb_new w4 vz) (by rfl) ON.out ?_;intro w5 hn5 hg5 hz5;have hn1:=(hn1.alloc (.cells vz 34)).grown hg5 (by intro e9;injection e9 with e9;omega);have hB:=(hB.alloc hB.size (.cells vz 34)).grown hg5 (by have:=hB.size;simp;omega) (fun k9 hk9=>by cases hk9;exact hB.size))|refine wpList_load34 rfl rfl rfl hn5 ON.out.1 ?_|refine wpList_load34 rfl rfl rfl hn1 O1.out.1 ?_|refine wpList_bslice4 (A:=CN) (B:=C1) (C:=litT) (D:=litE) (cs:=(vsC aw).toArray) rfl rfl rfl rfl rfl rfl (HB4.out _) ?_)
 rw[←hb5]at hn5⊢
 obtain⟨w6,hw6⟩:∃w6,w6=w5.alloc (.cells (vsC aw).toArray 34):=⟨_,rfl⟩
 rw[←hw6]
 have hgs:w6.heap[b5+1]? =some (.cells (vsC aw).toArray 34 (0,0)):=by
  have e5:b5+1=w5.heap.size:=by rw[hz5,World.size_alloc,hb5]
  rw[hw6,e5];exact heap_alloc_new _ _
 have hn1:World.vb w6 b1 C1:=by rw[hw6];exact hn1.alloc _
 have hn5:World.vb w6 b5 CN:=by rw[hw6];exact hn5.alloc _
 have hB:Below w.heap.size w w6:=by rw[hw6];exact hB.alloc hB.size _
 clear hb5 hg5 hz5 hw6 HB4
 refine(HA4.out w6 (b5+1) hB hgs).mono ?_
 rintro e7 w7 ⟨L,rfl,hown,hB7⟩
 have hn1:=hn1.below hB7 hn1.lt
 have hn5:=hn5.below hB7 hn5.lt
 have hB:=hB.trans (hB7.mono hB.size)
 clear hgs HA4
 have HA5:=Lib.hid (fun W D (h1:Below w.heap.size w W) (h2:World.vr W D L aw)=>HA5.out W L D h1 h2)
 have HA8:=Lib.hid (fun W D (h1:Below w.heap.size w W) (h2:World.vr W D L aw)=>HA8.out W L D h1 h2)
 have HA9:=Lib.hid (fun W D (h1:Below w.heap.size w W) (h2:World.vr W D L aw)=>HA9.out W L D h1 h2)
 have HA10:=Lib.hid (fun W D (h1:Below w.heap.size w W) (h2:World.vr W D L aw)=>HA10.out W L D h1 h2)
 have HA11:=Lib.hid (fun W D (h1:Below w.heap.size w W) (h2:World.vr W D L aw)=>HA11.out W L D h1 h2)
 have hoA:=vr_one (r:=2) (c:=2) hown
 obtain⟨CA,hCA⟩:∃C,vcs (arrV 2 2 aw) L nilS nilS=C:=⟨_,rfl⟩
 rw[hCA]at hoA HA5 HA8 HA9 HA10 HA11⊢
 have OA:=Lib.hid hoA
 obtain⟨D6,hD6⟩:∃D,D=w6.heap.size:=⟨_,rfl⟩
 rw[←hD6]at hown
 clear hCA hoA hB7 hD6
 obtain⟨b6,hb6⟩:∃b,b=w7.heap.size:=⟨_,rfl⟩
 have hl1:=hn1.lt
 have hl5:=hn5.lt
 rw[←hb6]at hl1 hl5
 go_wp2_with (first|refine wpList_alloc34 rfl rfl ?_|(refine wpList_store34 rfl rfl rfl rfl (World.vb_new w7 vz) (by rfl) OA.out ?_;intro w8 hn6 hg8 hz8;have hn1:=(hn1.alloc (.cells vz 34)).grown hg8 (by intro e9;injection e9 with e9;omega);have hn5:=(hn5.alloc (.cells vz 34)).grown hg8 (by intro e9;injection e9 with e9;omega);have hown:=World.vr.grown' (hown.alloc (.cells vz 34)) hg8 (fun k9 hk9=>by have:=(World.ownsRow.lt hown k9 hk9).2;omega);have hB:=(hB.alloc hB.size (.cells vz 34)).grown hg8 (by have:=hB.size;simp;omega) (fun k9 hk9=>by cases hk9;exact hB.size))|refine wpList_load34 rfl rfl rfl hn6 OA.out.1 ?_)
 rw[←hb6]at hn6⊢
 clear hb6 hg8 hz8
 refine(HA5.out _ _ hB hown).mono ?_
 rintro e9 w9 ⟨rfl,hB9⟩
 have hn1:=hn1.below hB9 hn1.lt
 have hn5:=hn5.below hB9 hn5.lt
 have hn6:=hn6.below hB9 hn6.lt
 have hown:=hown.below hB9
 have hB:=hB.trans (hB9.mono hB.size)
 clear hB9 HA5
 go_wp2_with fail
 refine(HA6.out _ hB).mono ?_
 rintro e10 w10 ⟨rfl,hB10⟩
 have hn1:=hn1.below hB10 hn1.lt
 have hn5:=hn5.below hB10 hn5.lt
 have hn6:=hn6.below hB10 hn6.lt
 have hown:=hown.below hB10
 have hB:=hB.trans (hB10.mono hB.size)
 clear hB10 HA6
 obtain⟨b10,hb10⟩:∃b,b=w10.heap.size:=⟨_,rfl⟩
 have hl1:=hn1.lt
 have hl5:=hn5.lt
 have hl6:=hn6.lt
 rw[←hb10]at hl1 hl5 hl6
 go_wp2_with (first|refine wpList_alloc34 rfl rfl ?_|(refine wpList_store34 rfl rfl rfl rfl (World.vb_new w10 vz) (by rfl) OZ.out ?_;intro w11 hn10 hg11 hz11;have hn1:=(hn1.alloc (.cells vz 34)).grown hg11 (by intro e9;injection e9 with e9;omega);have hn5:=(hn5.alloc (.cells vz 34)).grown hg11 (by intro e9;injection e9 with e9;omega);have hn6:=(hn6.alloc (.cells vz 34)).grown hg11 (by intro e9;injection e9 with e9;omega);have hown:=World.vr.grown' (hown.alloc (.cells vz 34)) hg11 (fun k9 hk9=>by have:=(World.ownsRow.lt hown k9 hk9).2;omega);have hB:=(hB.alloc hB.size (.cells vz 34)).grown hg11 (by have:=hB.size;simp;omega) (fun k9 hk9=>by cases hk9;exact hB.size);have c10:=hn1.cell X10.out;have c13:=hn1.cell X13.out;have c51:=hn5.cell XN1.out;have c52:=hn5.cell XN2.out)|refine wpList_load34g rfl rfl rfl hn6 OA.out.1 ?_|refine wpList_load34g rfl rfl rfl hn5 ON.out.1 ?_|refine wpList_load34g rfl rfl rfl hn1 O1.out.1 ?_)
 clear hb10 hg11 hz11 hn10 c10 c13 c51 c52 hl1 hl5 hl6
 refine(HA7.out _ hB).mono ?_
 rintro e12 w12 ⟨rfl,hB12⟩
 have hn1:=hn1.below hB12 hn1.lt
 have hn5:=hn5.below hB12 hn5.lt
 have hn6:=hn6.below hB12 hn6.lt
 have hown:=hown.below hB12
 have hB:=hB.trans (hB12.mono hB.size)
 clear hB12
 go_wp2_with (first|refine wpList_load34g rfl rfl rfl hn6 OA.out.1 ?_|refine wpList_load34g rfl rfl rfl hn5 ON.out.1 ?_|refine wpList_load34g rfl rfl rfl hn1 O1.out.1 ?_)
 refine(HA8.out _ _ hB hown).mono ?_
 rintro e13 w13 ⟨rfl,hB13⟩
 have hn1:=hn1.below hB13 hn1.lt
 have hn5:=hn5.below hB13 hn5.lt
 have hn6:=hn6.below hB13 hn6.lt
 have hown:=hown.below hB13
 have hB:=hB.trans (hB13.mono hB.size)
 clear hB13
 go_wp2_with (first|refine wpList_load34g rfl rfl rfl hn6 OA.out.1 ?_|refine wpList_load34g rfl rfl rfl hn5 ON.out.1 ?_|refine wpList_load34g rfl rfl rfl hn1 O1.out.1 ?_)
 refine(HA9.out _ _ hB hown).mono ?_
 rintro e14 w14 ⟨rfl,hB14⟩
 have hn1:=hn1.below hB14 hn1.lt
 have hn5:=hn5.below hB14 hn5.lt
 have hn6:=hn6.below hB14 hn6.lt
 have hown:=hown.below hB14
 have hB:=hB.trans (hB14.mono hB.size)
 clear hB14
 go_wp2_with (first|refine wpList_load34g rfl rfl rfl hn6 OA.out.1 ?_|refine wpList_load34g rfl rfl rfl hn5 ON.out.1 ?_|refine wpList_load34g rfl rfl rfl hn1 O1.out.1 ?_)
 refine(HA10.out _ _ hB hown).mono ?_
 rintro e15 w15 ⟨rfl,hB15⟩
 have hn1:=hn1.below hB15 hn1.lt
 have hn5:=hn5.below hB15 hn5.lt
 have hn6:=hn6.below hB15 hn6.lt
 have hown:=hown.below hB15
 have hB:=hB.trans (hB15.mono hB.size)
 clear hB15
 go_wp2_with (first|refine wpList_load34g rfl rfl rfl hn6 OA.out.1 ?_|refine wpList_load34g rfl rfl rfl hn5 ON.out.1 ?_|refine wpList_load34g rfl rfl rfl hn1 O1.out.1 ?_)
 refine(HA11.out _ _ hB hown).mono ?_
 rintro e16 w16 ⟨rfl,hB16⟩
 have hn1:=hn1.below hB16 hn1.lt
 have hn5:=hn5.below hB16 hn5.lt
 have hn6:=hn6.below hB16 hn6.lt
 have hown:=hown.below hB16
 have hB:=hB.trans (hB16.mono hB.size)
 clear hB16
 go_wp2_with (first|refine wpList_load34g rfl rfl rfl hn6 OA.out.1 ?_|refine wpList_load34g rfl rfl rfl hn5 ON.out.1 ?_|refine wpList_load34g rfl rfl rfl hn1 O1.out.1 ?_)
 refine(HA12.out _ hB).mono ?_
 rintro e17 w17 ⟨rfl,hB17⟩
 have hn1:=hn1.below hB17 hn1.lt
 have hn5:=hn5.below hB17 hn5.lt
 have hn6:=hn6.below hB17 hn6.lt
 have hown:=hown.below hB17
 have hB:=hB.trans (hB17.mono hB.size)
 clear hB17
 go_wp2_with (first|refine wpList_load34g rfl rfl rfl hn6 OA.out.1 ?_|refine wpList_load34g rfl rfl rfl hn5 ON.out.1 ?_|refine wpList_load34g rfl rfl rfl hn1 O1.out.1 ?_)
 refine(HA13.out _ hB).mono ?_
 rintro e18 w18 ⟨rfl,hB18⟩
 have hn1:=hn1.below hB18 hn1.lt
 have hn5:=hn5.below hB18 hn5.lt
 have hn6:=hn6.below hB18 hn6.lt
 have hown:=hown.below hB18
 have hB:=hB.trans (hB18.mono hB.size)
 clear hB18
 go_wp2_with fail
 go_ret
 exact⟨rfl,hB⟩
end Go.Proofs.YtkhohjdakcchdaaGreatDoor
