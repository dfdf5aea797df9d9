/- val.Text at plain values and arrays. -/
import Derived.Test.YtkhohjdakcchdaaGreatDoorArw
import Derived.Test.YtkhohjdakcchdaaGreatDoorBn
import Derived.Test.YtkhohjdakcchdaaGreatDoorCmv
namespace Go.Proofs.YtkhohjdakcchdaaGreatDoor
open Go Go.RowKit Go.Shelf
def WritPost (s:ByteArray) (n:Int) (w:World) (e:Ending) (w':World):Prop:=e= .returned (.tuple #[.string s,.int .i64 n])∧Below w.heap.size w w'
set_option maxRecDepth 100000 in
set_option maxHeartbeats 4000000 in
/-- Of a plain one that is no text. -/
theorem text_writ (x:Vl) (w:World) (hp:plainV x=true) (hk:x.k≠2) (hT:Lib.Utf8Tabs 0 1 w):Calls Tryz.prog 25 #[.agg (pcs x)] w (WritPost (mk (writL x)) 0 w):=by
 have HR:=Lib.hid (show ∀W,Below w.heap.size w W→Calls Tryz.prog 27 #[.agg (pcs x)] W (Gives (.bool true) W)from fun W hW=>right_plain_any 0 x _ W (rp_plain hp) hp (tabs_below hT hW))
 have HW:=Lib.hid (writ_any x · hp hk)
 have hO:=pcs_one x
 have h5:=(plain_kind hp).1
 have h6:=(plain_kind hp).2
 obtain⟨C,hC⟩:∃C,pcs x=C:=⟨_,rfl⟩
 have x0:C[0]? =some (.int .i64 x.k):=by rw[←hC];rfl
 rw[hC]at HR HW hO⊢
 have HO:=Lib.hid hO
 have X0:=Lib.hid x0
 obtain⟨S,hS⟩:∃S,mk (writL x)=S:=⟨_,rfl⟩
 rw[hS]at HW⊢
 clear hC hO hp hT x0 hS
 generalize x.k=k at X0 h5 h6 hk
 have f6:(k==6)=false:=by simpa using h6
 have f5:(k==5)=false:=by simpa using h5
 have f2:(k==2)=false:=by simpa using hk
 clear h5 h6 hk
 go_enter Tryz.func25,Tryz.ntmps25
 go_wp2_with (refine wpList_load34 rfl rfl rfl (World.vb_new w C) HO.out.1 ?_)
 have hvx:=World.vb_new w C
 have hB:=(Below.refl _ w).alloc (Nat.le_refl _) (.cells C 34)
 refine(HR.out _ hB).mono ?_
 rintro e2 w2 ⟨rfl,hB2⟩
 have hvx:=hvx.below hB2 (by simp)
 have hB:=hB.trans (hB2.mono (by simp))
 clear hB2
 have c0:=hvx.cell X0.out
 go_wp2_with (refine wpList_load34 rfl rfl rfl hvx HO.out.1 ?_)
 refine(HW.out _).mono ?_
 rintro e3 w3 ⟨rfl,hB3⟩
 have hB:=hB.trans (hB3.mono hB.size)
 clear hB3 c0 hvx
 go_wp2_with fail
 go_ret2
 exact⟨rfl,hB⟩
set_option maxRecDepth 100000 in
set_option maxHeartbeats 4000000 in
/-- Of a text. -/
theorem text_txt (s:ByteArray) (w:World) (hp:txtOk s=true) (hS:Shp w) (hT:Lib.Utf8Tabs 0 1 w):Calls Tryz.prog 25 #[.agg (pcs (txtV s))] w (WritPost (mk (textV 2 (txtV s)).1) 0 w):=by
 have hpl:=plain_txt hp
 have hsz:=txt_small hp
 have HR:=Lib.hid (show ∀W,Below w.heap.size w W→Calls Tryz.prog 27 #[.agg (pcs (txtV s))] W (Gives (.bool true) W)from fun W hW=>right_plain_any 0 _ _ W (rp_plain hpl) hpl (tabs_below hT hW))
 obtain⟨X,er,hr⟩:∃X er,readV s.data.toList=(X,er):=⟨_,_,rfl⟩
 have HRd:=Lib.hid (show ∀W,Below w.heap.size w W→Calls Tryz.prog 17 #[.string s] W (ReadPost (X,er) W)from fun W hW=>by rw[←hr];exact vread_any s W (by omega) (hS.below hW) (tabs_below hT hW))
 have hXp:er=0→plainV X=true:=fun e=>by
  rcases readV_two s.data.toList with ⟨_,h⟩|h
  ·rw[hr]at h;exact h
  ·rw[hr]at h
   injection h with _ h
   rw[e]at h;exact absurd h (by decide)
 have hX0:∀W B,Rp W B 1 X (.agg (pcs X)):=fun W B=>by
  rcases readV_two s.data.toList with ⟨_,h⟩|h
  ·rw[hr]at h;exact rp_plain h
  ·rw[hr]at h
   injection h with h _
   rw[h];exact rp_plain plain_zero
 have HSm:=Lib.hid (show ∀W,Calls Tryz.prog 26 #[.agg (pcs X),.agg (pcs (txtV s))] W (Tells (X=txtV s) W)from fun W=>same_any 1 X (txtV s) _ _ W (hX0 W _) (rp_plain hpl))
 have HT1:Hid ((er=0∧X=txtV s)→mk (textV 2 (txtV s)).1=s):=Lib.hid fun ⟨h0,hX⟩=>by
  unfold textV
  rw[if_pos (right_of_plain 1 hpl)]
  show mk (if(readV s.data.toList).2=0∧(readV s.data.toList).1.k=2∧(readV s.data.toList).1.s=s then s.data.toList else 39 :: s.data.toList)=s
  rw[hr,if_pos ⟨h0,by rw[hX];rfl,by rw[hX];rfl⟩,mk_self]
 have HT2:Hid (¬(er=0∧X=txtV s)→mk (textV 2 (txtV s)).1=⟨#[39]⟩++s):=Lib.hid fun hn=>by
  unfold textV
  rw[if_pos (right_of_plain 1 hpl)]
  show mk (if(readV s.data.toList).2=0∧(readV s.data.toList).1.k=2∧(readV s.data.toList).1.s=s then s.data.toList else 39 :: s.data.toList)=⟨#[39]⟩++s
  rw[hr,if_neg (fun ⟨h0,h2,h3⟩=>hn ⟨h0,by
   have:=(plain_two (hXp h0) h2).1
   rw[this]
   exact congrArg txtV h3⟩)]
  apply ByteArray.ext
  simp[ByteArray.data_append,mk]
 obtain⟨R,hR⟩:∃R,mk (textV 2 (txtV s)).1=R:=⟨_,rfl⟩
 rw[hR]at HT1 HT2⊢
 have hOX:=pcs_one X
 have hO:=pcs_one (txtV s)
 obtain⟨CX,hCX⟩:∃C,pcs X=C:=⟨_,rfl⟩
 obtain⟨C,hC⟩:∃C,pcs (txtV s)=C:=⟨_,rfl⟩
 have x0:C[0]? =some (.int .i64 2):=by rw[←hC];rfl
 have x3:C[3]? =some (.string s):=by rw[←hC];rfl
 rw[hC]at HR HSm hO⊢
 rw[hCX]at HSm hOX
 have HRd:=Lib.hid (show ∀W,Below w.heap.size w W→Calls Tryz.prog 17 #[.string s] W (fun e w'=>e= .returned (.tuple #[.agg CX,.int .i64 er])∧Below W.heap.size W w')from fun W hW=>by rw[←hCX];exact HRd.out W hW)
 have HO:=Lib.hid hO
 have HOX:=Lib.hid hOX
 have X0:=Lib.hid x0
 have X3:=Lib.hid x3
 clear hCX hC hO hOX x0 x3 hR hX0 hXp hr hpl hp hS hT
 go_enter Tryz.func25,Tryz.ntmps25
 go_wp2_with (refine wpList_load34 rfl rfl rfl (World.vb_new w C) HO.out.1 ?_)
 have hvx:=World.vb_new w C
 have hB:=(Below.refl _ w).alloc (Nat.le_refl _) (.cells C 34)
 refine(HR.out _ hB).mono ?_
 rintro e2 w2 ⟨rfl,hB2⟩
 have hvx:=hvx.below hB2 (by simp)
 have hB:=hB.trans (hB2.mono (by simp))
 clear hB2
 have c0:=hvx.cell X0.out
 have c3:=hvx.cell X3.out
 go_wp2_with fail
 refine(HRd.out _ hB).mono ?_
 rintro e3 w3 ⟨rfl,hB3⟩
 have hvx:=hvx.below hB3 hvx.lt
 have hB:=hB.trans (hB3.mono hB.size)
 clear hB3 c0 c3
 have hz3:=hvx.lt
 have x39:(⟨#[39]⟩:ByteArray).size=1:=rfl
 by_cases he:er=0
 ·subst he
  have c3:=hvx.cell X3.out
  go_wp2_with (first|refine wpList_alloc34 rfl rfl ?_|(refine wpList_store34 rfl rfl rfl rfl (World.vb_new w3 vz) (by rfl) HOX.out ?_;intro w4 hn4 hg4 hz4;have hvx:=(hvx.alloc (.cells vz 34)).grown hg4 (by intro e9;injection e9 with e9;omega);have hB:=(hB.alloc hB.size (.cells vz 34)).grown hg4 (by have:=hB.size;simp;omega) (fun k9 hk9=>by cases hk9;exact hB.size);have c3:=hvx.cell X3.out)|refine wpList_load34g rfl rfl rfl hn4 HOX.out.1 ?_|refine wpList_load34g rfl rfl rfl hvx HO.out.1 ?_)
  refine(HSm.out _).mono ?_
  rintro e5 w5 ⟨b,rfl,hb,hB5⟩
  have hvx:=hvx.below hB5 hvx.lt
  have hB:=hB.trans (hB5.mono hB.size)
  have c3:=hvx.cell X3.out
  clear hB5 hn4 hg4 hz4
  cases b with
  |true=>
   have HX:Hid (R=s):=Lib.hid (HT1.out ⟨(by first|rfl|trivial),hb.1 (by first|rfl|trivial)⟩)
   clear hb
   go_wp2_with fail
   go_ret2
   exact⟨by rw[HX.out];rfl,hB⟩
  |false=>
   have HX:Hid (R=⟨#[39]⟩++s):=Lib.hid (HT2.out fun h=>absurd (hb.2 h.2) (by decide))
   clear hb
   go_wp2_with fail
   go_ret2
   exact⟨by rw[HX.out];rfl,hB⟩
 ·have HX:Hid (R=⟨#[39]⟩++s):=Lib.hid (HT2.out fun h=>he h.1)
  have f0:(er==0)=false:=by simpa using he
  have c3:=hvx.cell X3.out
  clear he
  go_wp2_with (first|refine wpList_alloc34 rfl rfl ?_|(refine wpList_store34 rfl rfl rfl rfl (World.vb_new w3 vz) (by rfl) HOX.out ?_;intro w4 hn4 hg4 hz4;have hvx:=(hvx.alloc (.cells vz 34)).grown hg4 (by intro e9;injection e9 with e9;omega);have hB:=(hB.alloc hB.size (.cells vz 34)).grown hg4 (by have:=hB.size;simp;omega) (fun k9 hk9=>by cases hk9;exact hB.size);have c3:=hvx.cell X3.out))
  go_ret2
  exact⟨by rw[HX.out];rfl,hB⟩
set_option maxRecDepth 100000 in
set_option maxHeartbeats 4000000 in
/-- Of an array. -/
theorem text_arr (n:Nat) (r c:Int) (l:List Vl) (v:Value) (w:World) (hv:Rp w w.heap.size (n+2) (arrV r c l) v) (hr:rightV (n+2) (arrV r c l)=true) (hS:Shp w) (hT:Lib.Utf8Tabs 0 1 w):
 Calls Tryz.prog 25 #[v] w (WritPost (mk (arrL (arrV r c l))) 0 w):=by
 have hpl:=(right_arr.1 hr).2
 have hd:=(right_arr.1 hr).1
 have HR:=Lib.hid (show ∀W,Below w.heap.size w W→w.heap.size≤W.heap.size→Calls Tryz.prog 27 #[v] W (Gives (.bool true) W)from fun W hW hz=>by
  have:=right27_any n _ v W (hv.below hW hz) (.arr hpl) (tabs_below hT hW)
  rw[hr]at this;exact this)
 obtain⟨p,k,rfl,hl,hok⟩:=arr_cells hv
 obtain⟨p',c',e,hcap,_,_,_,H⟩:=hl
 injection e with e1 _ e2
 subst e1 e2
 have hne:=arr_ne hr
 obtain⟨g0,off,hpe⟩:∃g off,p=some ⟨g,off,none⟩:=by
  cases l with
  |nil=>exact absurd rfl hne
  |cons x l=>
   obtain⟨g,off,_,e,_⟩:=H 0 x rfl
   exact⟨g,off,e⟩
 subst hpe
 have hg0:g0<w.heap.size:=by
  cases l with
  |nil=>exact absurd rfl hne
  |cons x l=>
   obtain⟨g,off',_,e,hg,_⟩:=H 0 x rfl
   injection e with e
   injection e with e _ _
   subst e;exact hg
 have hlk:∀i y,l[i]? =some y→∀j u,(pcs y)[j]? =some u→w.cell? ⟨g0,off+i*12+j,none⟩=some u:=fun i y hy j u hj=>by
  obtain⟨g,off',cs,e,_,_,hr0,hc0⟩:=H i y hy
  injection e with e
  injection e with e1 e2 _
  subst e1 e2
  have:=plain_cells hr0 (hpl y (List.mem_of_getElem? hy))
  injection this with this
  subst this
  exact hc0 j u hj
 obtain⟨rn,hrn⟩:∃rn:Nat,r=rn:=⟨r.toNat,by omega⟩
 obtain⟨cn,hcn⟩:∃cn:Nat,c=cn:=⟨c.toNat,by omega⟩
 subst hrn hcn
 have hll:l.length=rn*cn:=by have h:=hd.2.2.2.2.2;rw[←Int.natCast_mul]at h;omega
 have HA:=Lib.hid (show ∀W,Below w.heap.size w W→Calls Tryz.prog 61 #[.agg (vcs (arrV rn cn l) (.slice (some ⟨g0,off,none⟩) l.length k) nilS nilS)] W (Gives (.string (mk (arrL (arrV rn cn l)))) W)from fun W hW=>by
  rw[hll]
  exact array61_any rn cn l g0 off k W (right_arr.2 (right_arr.1 hr)) (Nat.lt_of_lt_of_le hg0 hW.size) (by omega) (fun i y hy j u hj=>(hW.cell (p:=⟨g0,_,none⟩) hg0).trans (hlk i y hy j u hj)) (hS.below hW))
 obtain⟨C,hC⟩:∃C,vcs (arrV rn cn l) (.slice (some ⟨g0,off,none⟩) l.length k) nilS nilS=C:=⟨_,rfl⟩
 have hO:OneC C:=by rw[←hC];exact vcs_one _ _ _ _ _ _ _ _ _ _
 have x0:C[0]? =some (.int .i64 5):=by rw[←hC];rfl
 rw[hC]at HR HA⊢
 obtain⟨S,hS2⟩:∃S,mk (arrL (arrV rn cn l))=S:=⟨_,rfl⟩
 rw[hS2]at HA⊢
 have HO:=Lib.hid hO
 have X0:=Lib.hid x0
 clear hC hO x0 hS2 hv hpl hd hok H hne hlk hll hS hT hcap hr
 go_enter Tryz.func25,Tryz.ntmps25
 go_wp2_with (refine wpList_load34 rfl rfl rfl (World.vb_new w C) HO.out.1 ?_)
 have hvx:=World.vb_new w C
 have hB:=(Below.refl _ w).alloc (Nat.le_refl _) (.cells C 34)
 refine(HR.out _ hB (by simp)).mono ?_
 rintro e2 w2 ⟨rfl,hB2⟩
 have hvx:=hvx.below hB2 (by simp)
 have hB:=hB.trans (hB2.mono (by simp))
 clear hB2
 have c0:=hvx.cell X0.out
 go_wp2_with (refine wpList_load34 rfl rfl rfl hvx HO.out.1 ?_)
 refine(HA.out _ hB).mono ?_
 rintro e3 w3 ⟨rfl,hB3⟩
 have hB:=hB.trans (hB3.mono hB.size)
 clear hB3 c0 hvx
 go_wp2_with fail
 go_ret2
 exact⟨rfl,hB⟩
/-- val.Text at plain values. -/
theorem text_plain25 (x:Vl) (w:World) (hp:plainV x=true) (hS:Shp w) (hT:Lib.Utf8Tabs 0 1 w):Calls Tryz.prog 25 #[.agg (pcs x)] w (WritPost (mk (textV 2 x).1) 0 w):=by
 by_cases hk:x.k=2
 ·obtain⟨hx,hs⟩:=plain_two hp hk
  rw[hx]
  exact text_txt x.s w hs hS hT
 ·have:(textV 2 x).1=writL x:=by
   unfold textV
   rw[if_pos (right_of_plain 1 hp),if_neg (plain_kind hp).2,if_neg hk,if_neg (plain_kind hp).1]
  rw[this]
  exact text_writ x w hp hk hT
end Go.Proofs.YtkhohjdakcchdaaGreatDoor
