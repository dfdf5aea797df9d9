/- Merged: Gcm, Gal. -/
import Derived.Test.YtkhohjdakcchdaaGreatDoorBt
import Derived.Test.YtkhohjdakcchdaaGreatDoorBw
import Derived.Test.YtkhohjdakcchdaaGreatDoorRal
import Derived.Test.YtkhohjdakcchdaaGreatDoorBv
namespace Go.Proofs.YtkhohjdakcchdaaGreatDoor
open Go Go.RowKit Go.Shelf
theorem one_funs (C C':Array Value) (w:World) (x0:C[0]? =some (.int .i64 6)) (y0:C'[0]? =some (.int .i64 6)):Calls Tryz.prog 71 #[.agg C,.agg C'] w (Gives (.int .i64 0) w):=by
 have hB:Below w.heap.size w ((w.alloc (.cells C 34)).alloc (.cells C' 34)):=((Below.refl _ w).alloc (Nat.le_refl _) _).alloc (by simp) _
 go_enter Tryz.func71,Tryz.ntmps71
 go_wp2_with fail
 go_ret
 exact⟨rfl,hB⟩
set_option maxRecDepth 100000 in
set_option maxHeartbeats 4000000 in
theorem cmp_oneG (n:Nat) (x y:Vl) (C C':Array Value) (w:World) (hx:Rp w w.heap.size (n+1) x (.agg C)) (hy:Rp w w.heap.size (n+1) y (.agg C')) (hn:¬(x.k=5∧y.k=5))
 (HRX0:∀W,Below w.heap.size w W→w.heap.size≤W.heap.size→Calls Tryz.prog 27 #[.agg C] W (Gives (.bool true) W)) (HRY0:∀W,Below w.heap.size w W→w.heap.size≤W.heap.size→Calls Tryz.prog 27 #[.agg C'] W (Gives (.bool true) W))
 (HO0:∀W,Calls Tryz.prog 71 #[.agg C,.agg C'] W (Gives (.int .i64 (oneV x y)) W)):Calls Tryz.prog 28 #[.agg C,.agg C'] w (Gives (.int .i64 (oneV x y)) w):=by
 have HRX:=Lib.hid HRX0
 have HRY:=Lib.hid HRY0
 have HO1:=Lib.hid HO0
 clear HRX0 HRY0 HO0
 have x0:=rp_kind hx
 have y0:=rp_kind hy
 have HO:=Lib.hid hx.one
 have HO':=Lib.hid hy.one
 generalize x.k=k at x0 hn
 generalize y.k=k' at y0 hn
 generalize oneV x y=D at HO1
 clear hx hy
 have X0:=Lib.hid x0
 have Y0:=Lib.hid y0
 have Hn:=Lib.hid hn
 clear x0 y0 hn
 go_enter Tryz.func28,Tryz.ntmps28
 go_wp2_with (first|refine wpList_load34 rfl rfl rfl ((World.vb_new w C).alloc _) HO.out.1 ?_)
 obtain⟨W,hW⟩:∃W,W=(w.alloc (.cells C 34)).alloc (.cells C' 34):=⟨_,rfl⟩
 rw[←hW]
 have hvx:World.vb W w.heap.size C:=by rw[hW];exact(World.vb_new w C).alloc _
 have hvy:World.vb W (w.heap.size+1) C':=by rw[hW];exact World.vb_new' _ _ _ (by simp)
 have hB:Below w.heap.size w W:=by rw[hW];exact((Below.refl _ w).alloc (Nat.le_refl _) _).alloc (by simp) _
 clear hW
 refine(HRX.out _ hB hB.size).mono ?_
 rintro e2 w2 ⟨rfl,hB2⟩
 have hvx:=hvx.below hB2 hvx.lt
 have hvy:=hvy.below hB2 hvy.lt
 have hB:=hB.trans (hB2.mono hB.size)
 clear hB2
 go_wp2_with (first|refine wpList_load34g rfl rfl rfl hvy HO'.out.1 ?_)
 refine(HRY.out _ hB hB.size).mono ?_
 rintro e3 w3 ⟨rfl,hB3⟩
 have hvx:=hvx.below hB3 hvx.lt
 have hvy:=hvy.below hB3 hvy.lt
 have hB:=hB.trans (hB3.mono hB.size)
 clear hB3
 have c0:=hvx.cell X0.out
 have d0:=hvy.cell Y0.out
 by_cases h5:k=5
 ·have h5':¬k'=5:=fun e=>Hn.out ⟨h5,e⟩
  subst h5
  have f1:(k' != 5)=true:=by simpa using h5'
  clear h5'
  go_wp2_with (first|refine wpList_load34 rfl rfl rfl hvx HO.out.1 ?_|refine wpList_load34 rfl rfl rfl hvy HO'.out.1 ?_)
  refine(HO1.out _).mono ?_
  rintro e4 w4 ⟨rfl,hB4⟩
  have hB:=hB.trans (hB4.mono hB.size)
  clear hB4 hvx hvy c0 d0
  go_wp2_with fail
  go_ret
  exact⟨rfl,hB⟩
 ·have f1:(k != 5)=true:=by simpa using h5
  clear h5
  go_wp2_with (first|refine wpList_load34 rfl rfl rfl hvx HO.out.1 ?_|refine wpList_load34 rfl rfl rfl hvy HO'.out.1 ?_)
  refine(HO1.out _).mono ?_
  rintro e4 w4 ⟨rfl,hB4⟩
  have hB:=hB.trans (hB4.mono hB.size)
  clear hB4 hvx hvy c0 d0
  go_wp2_with fail
  go_ret
  exact⟨rfl,hB⟩
set_option maxRecDepth 100000 in
set_option maxHeartbeats 4000000 in
theorem cmp_no (b:Bool) (C C':Array Value) (w:World) (hO:OneC C) (hO':OneC C')
 (HRX0:∀W,Below w.heap.size w W→w.heap.size≤W.heap.size→Calls Tryz.prog 27 #[.agg C] W (Gives (.bool b) W)) (HRY0:b=true→∀W,Below w.heap.size w W→w.heap.size≤W.heap.size→Calls Tryz.prog 27 #[.agg C'] W (Gives (.bool false) W)):
 Calls Tryz.prog 28 #[.agg C,.agg C'] w (Gives (.int .i64 0) w):=by
 have HRX:=Lib.hid HRX0
 have HRY:=Lib.hid HRY0
 have HO:=Lib.hid hO
 have HO':=Lib.hid hO'
 clear HRX0 HRY0 hO hO'
 go_enter Tryz.func28,Tryz.ntmps28
 go_wp2_with (first|refine wpList_load34 rfl rfl rfl ((World.vb_new w C).alloc _) HO.out.1 ?_)
 obtain⟨W,hW⟩:∃W,W=(w.alloc (.cells C 34)).alloc (.cells C' 34):=⟨_,rfl⟩
 rw[←hW]
 have hvy:World.vb W (w.heap.size+1) C':=by rw[hW];exact World.vb_new' _ _ _ (by simp)
 have hB:Below w.heap.size w W:=by rw[hW];exact((Below.refl _ w).alloc (Nat.le_refl _) _).alloc (by simp) _
 clear hW
 refine(HRX.out _ hB hB.size).mono ?_
 rintro e2 w2 ⟨rfl,hB2⟩
 have hvy:=hvy.below hB2 hvy.lt
 have hB:=hB.trans (hB2.mono hB.size)
 clear hB2
 cases b with
 |false=>
  go_wp2_with fail
  go_ret
  exact⟨rfl,hB⟩
 |true=>
  have HRZ:=Lib.hid (HRY.out (by first|rfl|trivial))
  go_wp2_with (first|refine wpList_load34g rfl rfl rfl hvy HO'.out.1 ?_)
  refine(HRZ.out _ hB hB.size).mono ?_
  rintro e3 w3 ⟨rfl,hB3⟩
  have hB:=hB.trans (hB3.mono hB.size)
  clear hB3 hvy
  go_wp2_with fail
  go_ret
  exact⟨rfl,hB⟩
theorem arr_of {x:Vl} {n:Nat} (h5:x.k=5) (h:rightV (n+1) x=true):x=arrV x.rows x.cols x.l∧∀z∈x.l,plainV z=true:=by
 rw[rightV,if_pos h5,Bool.and_eq_true,Bool.and_eq_true,List.all_eq_true]at h
 exact⟨(bare5 x h5).2 h.2.1,h.2.2⟩
theorem plain_of {x:Vl} {n:Nat} (h5:x.k≠5) (h6:x.k≠6) (h:rightV (n+1) x=true):plainV x=true:=by
 rw[rightV,if_neg h5,if_neg h6]at h;exact h
/-- val.Compare, anywhere. -/
theorem cmp28_all (n:Nat) (x y:Vl) (v u:Value) (w:World) (hx:Rp w w.heap.size (n+2) x v) (hy:Rp w w.heap.size (n+2) y u) (hT:Lib.Utf8Tabs 0 1 w):Calls Tryz.prog 28 #[v,u] w (Gives (.int .i64 (cmpV (n+2) x y)) w):=by
 have HRX:∀W,Below w.heap.size w W→w.heap.size≤W.heap.size→Calls Tryz.prog 27 #[v] W (Gives (.bool (rightV (n+2) x)) W):=fun W hW hz=>right27_all (n+2) x v W (hx.below hW hz) (tabs_below hT hW)
 have HRY:∀W,Below w.heap.size w W→w.heap.size≤W.heap.size→Calls Tryz.prog 27 #[u] W (Gives (.bool (rightV (n+2) y)) W):=fun W hW hz=>right27_all (n+2) y u W (hy.below hW hz) (tabs_below hT hW)
 obtain⟨C,rfl⟩:∃C,v= .agg C:=by obtain⟨_,_,_,e,_⟩:=hx;exact⟨_,e⟩
 obtain⟨C',rfl⟩:∃C,u= .agg C:=by obtain⟨_,_,_,e,_⟩:=hy;exact⟨_,e⟩
 cases hrx:rightV (n+2) x with
 |false=>
  have e:cmpV (n+2) x y=0:=by unfold cmpV;rw[if_neg (by rw[hrx];simp)]
  rw[e]
  exact cmp_no false C C' w hx.one hy.one (fun W hW hz=>by have:=HRX W hW hz;rw[hrx]at this;exact this) (fun h=>by cases h)
 |true=>
  cases hry:rightV (n+2) y with
  |false=>
   have e:cmpV (n+2) x y=0:=by unfold cmpV;rw[if_neg (by rw[hry];simp)]
   rw[e]
   exact cmp_no true C C' w hx.one hy.one (fun W hW hz=>by have:=HRX W hW hz;rw[hrx]at this;exact this) (fun _ W hW hz=>by have:=HRY W hW hz;rw[hry]at this;exact this)
  |true=>
   by_cases h55:x.k=5∧y.k=5
   ·have ax:=(arr_of h55.1 hrx).1
    have ay:=(arr_of h55.2 hry).1
    rw[ax]at hx hrx⊢
    rw[ay]at hy hry⊢
    exact cmp_arr n _ _ _ _ _ _ _ _ w hx hy hrx hry hT
   ·have e:cmpV (n+2) x y=oneV x y:=by unfold cmpV;rw[if_pos ⟨hrx,hry⟩,if_neg h55]
    rw[e]
    refine cmp_oneG (n+1) x y C C' w hx hy h55 (fun W hW hz=>by have:=HRX W hW hz;rw[hrx]at this;exact this) (fun W hW hz=>by have:=HRY W hW hz;rw[hry]at this;exact this) fun W=> ?_
    by_cases hk:x.k=y.k
    ·have h5:x.k≠5:=fun h=>h55 ⟨h,hk▸h⟩
     by_cases h6:x.k=6
     ·have e0:oneV x y=0:=by
       rw[oneV_lex,if_pos hk]
       unfold kindV
       rw[if_neg (by omega),if_neg (by omega),if_neg (by omega),if_neg (by omega)]
      rw[e0]
      exact one_funs C C' W (by rw[rp_kind hx,h6]) (by rw[rp_kind hy,←hk,h6])
     ·have px:=plain_of h5 h6 hrx
      have py:=plain_of (by omega) (by omega) hry
      have cx:=plain_cells hx px
      have cy:=plain_cells hy py
      injection cx with cx
      injection cy with cy
      rw[cx,cy]
      exact one_any x y W px py
    ·rw[oneV_lex,if_neg hk]
     exact one_kinds C C' _ _ W (rp_kind hx) (rp_kind hy) hk
end Go.Proofs.YtkhohjdakcchdaaGreatDoor
namespace Go.Proofs.YtkhohjdakcchdaaGreatDoor
open Go Go.RowKit Go.Shelf
set_option maxRecDepth 100000 in
set_option maxHeartbeats 4000000 in
theorem each_err (g:Nat) (C:Array Value) (b:Bool) (w:World) (hO:OneC C) (HR0:∀W,Below w.heap.size w W→w.heap.size≤W.heap.size→Calls Tryz.prog 27 #[.agg C] W (Gives (.bool b) W)) (h6:b=true→C[0]? =some (.int .i64 6)):
 Calls Tryz.prog 75 #[.agg C,.func (.func g) #[] #[]] w (Gives (.agg (pcs (errV 3))) w):=by
 have HR:=Lib.hid HR0
 have HO:=Lib.hid hO
 have H6:=Lib.hid h6
 clear HR0 hO h6
 go_enter Tryz.func75,Tryz.ntmps75
 go_wp2_with (first|refine wpList_alloc34 rfl rfl ?_|refine wpList_load34 rfl rfl rfl ((World.vb_new w C).alloc _) HO.out.1 ?_)
 obtain⟨W,hW⟩:∃W,W=(w.alloc (.cells C 34)).alloc (.cells vz 34):=⟨_,rfl⟩
 rw[←hW]
 have hvx:World.vb W w.heap.size C:=by rw[hW];exact(World.vb_new w C).alloc _
 have hvy:World.vb W (w.heap.size+1) vz:=by rw[hW];exact World.vb_new' _ _ _ (by simp)
 have hB:Below w.heap.size w W:=by rw[hW];exact((Below.refl _ w).alloc (Nat.le_refl _) _).alloc (by simp) _
 clear hW
 refine(HR.out _ hB hB.size).mono ?_
 rintro e2 w2 ⟨rfl,hB2⟩
 have hvx:=hvx.below hB2 hvx.lt
 have hvy:=hvy.below hB2 hvy.lt
 have hB:=hB.trans (hB2.mono hB.size)
 clear hB2
 cases b with
 |false=>
  go_wp2_with fail
  refine(err_any 3 _).mono ?_
  rintro e3 w3 ⟨rfl,hB3⟩
  have hvy:=hvy.below hB3 hvy.lt
  have hB:=hB.trans (hB3.mono hB.size)
  clear hB3
  go_wp2_with (refine wpList_store34 rfl rfl rfl rfl hvy (by rfl) (pcs_one _) ?_;intro w9 hn9 hg9 hz9)
  refine bodyPost_ret (results_cell_row rfl _ _ _ 34 _ (0,0) _ rfl hn9 Tryz.underlying34 rfl info34) rfl ?_
  exact⟨rfl,hB.grown hg9 hB.size (fun k9 hk9=>by cases hk9;omega)⟩
 |true=>
  have c0:=hvx.cell (H6.out (by first|rfl|trivial))
  go_wp2_with fail
  refine(err_any 3 _).mono ?_
  rintro e3 w3 ⟨rfl,hB3⟩
  have hvy:=hvy.below hB3 hvy.lt
  have hB:=hB.trans (hB3.mono hB.size)
  clear hB3
  go_wp2_with (refine wpList_store34 rfl rfl rfl rfl hvy (by rfl) (pcs_one _) ?_;intro w9 hn9 hg9 hz9)
  refine bodyPost_ret (results_cell_row rfl _ _ _ 34 _ (0,0) _ rfl hn9 Tryz.underlying34 rfl info34) rfl ?_
  exact⟨rfl,hB.grown hg9 hB.size (fun k9 hk9=>by cases hk9;omega)⟩
set_option maxRecDepth 100000 in
set_option maxHeartbeats 4000000 in
theorem to29_err (C:Array Value) (w:World) (hO:OneC C) (HE0:∀W,Below w.heap.size w W→w.heap.size≤W.heap.size→Calls Tryz.prog 75 #[.agg C,.func (.func 76) #[] #[]] W (Gives (.agg (pcs (errV 3))) W)):Calls Tryz.prog 29 #[.agg C] w (Gives (.agg (pcs (errV 3))) w):=by
 have HE:=Lib.hid HE0
 have HO:=Lib.hid hO
 clear HE0 hO
 go_enter Tryz.func29,Tryz.ntmps29
 go_wp2_with (first|refine wpList_alloc34 rfl rfl ?_|refine wpList_load34 rfl rfl rfl ((World.vb_new w C).alloc _) HO.out.1 ?_)
 obtain⟨W,hW⟩:∃W,W=(w.alloc (.cells C 34)).alloc (.cells vz 34):=⟨_,rfl⟩
 rw[←hW]
 have hvy:World.vb W (w.heap.size+1) vz:=by rw[hW];exact World.vb_new' _ _ _ (by simp)
 have hB:Below w.heap.size w W:=by rw[hW];exact((Below.refl _ w).alloc (Nat.le_refl _) _).alloc (by simp) _
 clear hW
 refine(HE.out _ hB hB.size).mono ?_
 rintro e2 w2 ⟨rfl,hB2⟩
 have hvy:=hvy.below hB2 hvy.lt
 have hB:=hB.trans (hB2.mono hB.size)
 clear hB2
 go_wp2_with (refine wpList_store34 rfl rfl rfl rfl hvy (by rfl) (pcs_one _) ?_;intro w9 hn9 hg9 hz9)
 refine bodyPost_ret (results_cell_row rfl _ _ _ 34 _ (0,0) _ rfl hn9 Tryz.underlying34 rfl info34) rfl ?_
 exact⟨rfl,hB.grown hg9 hB.size (fun k9 hk9=>by cases hk9;omega)⟩
theorem to29_all (x:Vl) (v:Value) (w:World) (hx:Rp w w.heap.size 3 x v) (he:Env w):Calls Tryz.prog 29 #[v] w (HandsV (eachV 3 numT x) w):=by
 have HRX:∀W,Below w.heap.size w W→w.heap.size≤W.heap.size→Calls Tryz.prog 27 #[v] W (Gives (.bool (rightV 3 x)) W):=fun W hW hz=>right27_all 3 x v W (hx.below hW hz) (tabs_below he.1 hW)
 obtain⟨C,rfl⟩:∃C,v= .agg C:=by obtain⟨_,_,_,e,_⟩:=hx;exact⟨_,e⟩
 by_cases hbad:rightV 3 x=false∨x.k=6
 ·have e:eachV 3 numT x=errV 3:=by
   unfold eachV
   rw[if_neg]
   rintro⟨h1,h2⟩
   rcases hbad with h|h
   ·rw[h]at h1;cases h1
   ·exact h2 h
  rw[e]
  refine(to29_err C w hx.one fun W hW hz=> ?_).mono fun _ _ hg=>handsV_plain (plain_err (by decide) (by decide)) hg
  refine each_err 76 C (rightV 3 x) W hx.one (fun W2 hW2 hz2=>HRX W2 (hW.trans (hW2.mono hz)) (Nat.le_trans hz hz2)) fun hb=> ?_
  rcases hbad with h|h
  ·rw[h]at hb;cases hb
  ·rw[rp_kind hx,h]
 ·have hr:rightV 3 x=true:=by cases h:rightV 3 x with
   |true=>rfl
   |false=>exact absurd (.inl h) hbad
  have h6:x.k≠6:=fun h=>hbad (.inr h)
  by_cases h5:x.k=5
  ·have hA:At x C w:=⟨hx,hx.one,.inr ⟨h5,by rw[rightV,if_pos h5]at hr ⊢;exact hr⟩⟩
   exact to29 hA he
  ·have hA:At x C w:=⟨hx,hx.one,.inl (plain_of h5 h6 hr)⟩
   exact to29 hA he
set_option maxRecDepth 100000 in
set_option maxHeartbeats 4000000 in
theorem to30_err (C:Array Value) (w:World) (hO:OneC C) (HE0:∀W,Below w.heap.size w W→w.heap.size≤W.heap.size→Calls Tryz.prog 75 #[.agg C,.func (.func 77) #[] #[]] W (Gives (.agg (pcs (errV 3))) W)):Calls Tryz.prog 30 #[.agg C] w (Gives (.agg (pcs (errV 3))) w):=by
 have HE:=Lib.hid HE0
 have HO:=Lib.hid hO
 clear HE0 hO
 go_enter Tryz.func30,Tryz.ntmps30
 go_wp2_with (first|refine wpList_alloc34 rfl rfl ?_|refine wpList_load34 rfl rfl rfl ((World.vb_new w C).alloc _) HO.out.1 ?_)
 obtain⟨W,hW⟩:∃W,W=(w.alloc (.cells C 34)).alloc (.cells vz 34):=⟨_,rfl⟩
 rw[←hW]
 have hvy:World.vb W (w.heap.size+1) vz:=by rw[hW];exact World.vb_new' _ _ _ (by simp)
 have hB:Below w.heap.size w W:=by rw[hW];exact((Below.refl _ w).alloc (Nat.le_refl _) _).alloc (by simp) _
 clear hW
 refine(HE.out _ hB hB.size).mono ?_
 rintro e2 w2 ⟨rfl,hB2⟩
 have hvy:=hvy.below hB2 hvy.lt
 have hB:=hB.trans (hB2.mono hB.size)
 clear hB2
 go_wp2_with (refine wpList_store34 rfl rfl rfl rfl hvy (by rfl) (pcs_one _) ?_;intro w9 hn9 hg9 hz9)
 refine bodyPost_ret (results_cell_row rfl _ _ _ 34 _ (0,0) _ rfl hn9 Tryz.underlying34 rfl info34) rfl ?_
 exact⟨rfl,hB.grown hg9 hB.size (fun k9 hk9=>by cases hk9;omega)⟩
theorem to30_all (x:Vl) (v:Value) (w:World) (hx:Rp w w.heap.size 3 x v) (he:Env w):Calls Tryz.prog 30 #[v] w (HandsV (eachV 3 txtT x) w):=by
 have HRX:∀W,Below w.heap.size w W→w.heap.size≤W.heap.size→Calls Tryz.prog 27 #[v] W (Gives (.bool (rightV 3 x)) W):=fun W hW hz=>right27_all 3 x v W (hx.below hW hz) (tabs_below he.1 hW)
 obtain⟨C,rfl⟩:∃C,v= .agg C:=by obtain⟨_,_,_,e,_⟩:=hx;exact⟨_,e⟩
 by_cases hbad:rightV 3 x=false∨x.k=6
 ·have e:eachV 3 txtT x=errV 3:=by
   unfold eachV
   rw[if_neg]
   rintro⟨h1,h2⟩
   rcases hbad with h|h
   ·rw[h]at h1;cases h1
   ·exact h2 h
  rw[e]
  refine(to30_err C w hx.one fun W hW hz=> ?_).mono fun _ _ hg=>handsV_plain (plain_err (by decide) (by decide)) hg
  refine each_err 77 C (rightV 3 x) W hx.one (fun W2 hW2 hz2=>HRX W2 (hW.trans (hW2.mono hz)) (Nat.le_trans hz hz2)) fun hb=> ?_
  rcases hbad with h|h
  ·rw[h]at hb;cases hb
  ·rw[rp_kind hx,h]
 ·have hr:rightV 3 x=true:=by cases h:rightV 3 x with
   |true=>rfl
   |false=>exact absurd (.inl h) hbad
  have h6:x.k≠6:=fun h=>hbad (.inr h)
  by_cases h5:x.k=5
  ·have hA:At x C w:=⟨hx,hx.one,.inr ⟨h5,by rw[rightV,if_pos h5]at hr ⊢;exact hr⟩⟩
   exact to30 hA he
  ·have hA:At x C w:=⟨hx,hx.one,.inl (plain_of h5 h6 hr)⟩
   exact to30 hA he
set_option maxRecDepth 100000 in
set_option maxHeartbeats 4000000 in
theorem to31_err (C:Array Value) (w:World) (hO:OneC C) (HE0:∀W,Below w.heap.size w W→w.heap.size≤W.heap.size→Calls Tryz.prog 75 #[.agg C,.func (.func 78) #[] #[]] W (Gives (.agg (pcs (errV 3))) W)):Calls Tryz.prog 31 #[.agg C] w (Gives (.agg (pcs (errV 3))) w):=by
 have HE:=Lib.hid HE0
 have HO:=Lib.hid hO
 clear HE0 hO
 go_enter Tryz.func31,Tryz.ntmps31
 go_wp2_with (first|refine wpList_alloc34 rfl rfl ?_|refine wpList_load34 rfl rfl rfl ((World.vb_new w C).alloc _) HO.out.1 ?_)
 obtain⟨W,hW⟩:∃W,W=(w.alloc (.cells C 34)).alloc (.cells vz 34):=⟨_,rfl⟩
 rw[←hW]
 have hvy:World.vb W (w.heap.size+1) vz:=by rw[hW];exact World.vb_new' _ _ _ (by simp)
 have hB:Below w.heap.size w W:=by rw[hW];exact((Below.refl _ w).alloc (Nat.le_refl _) _).alloc (by simp) _
 clear hW
 refine(HE.out _ hB hB.size).mono ?_
 rintro e2 w2 ⟨rfl,hB2⟩
 have hvy:=hvy.below hB2 hvy.lt
 have hB:=hB.trans (hB2.mono hB.size)
 clear hB2
 go_wp2_with (refine wpList_store34 rfl rfl rfl rfl hvy (by rfl) (pcs_one _) ?_;intro w9 hn9 hg9 hz9)
 refine bodyPost_ret (results_cell_row rfl _ _ _ 34 _ (0,0) _ rfl hn9 Tryz.underlying34 rfl info34) rfl ?_
 exact⟨rfl,hB.grown hg9 hB.size (fun k9 hk9=>by cases hk9;omega)⟩
theorem to31_all (x:Vl) (v:Value) (w:World) (hx:Rp w w.heap.size 3 x v) (he:Env w):Calls Tryz.prog 31 #[v] w (HandsV (eachV 3 truT x) w):=by
 have HRX:∀W,Below w.heap.size w W→w.heap.size≤W.heap.size→Calls Tryz.prog 27 #[v] W (Gives (.bool (rightV 3 x)) W):=fun W hW hz=>right27_all 3 x v W (hx.below hW hz) (tabs_below he.1 hW)
 obtain⟨C,rfl⟩:∃C,v= .agg C:=by obtain⟨_,_,_,e,_⟩:=hx;exact⟨_,e⟩
 by_cases hbad:rightV 3 x=false∨x.k=6
 ·have e:eachV 3 truT x=errV 3:=by
   unfold eachV
   rw[if_neg]
   rintro⟨h1,h2⟩
   rcases hbad with h|h
   ·rw[h]at h1;cases h1
   ·exact h2 h
  rw[e]
  refine(to31_err C w hx.one fun W hW hz=> ?_).mono fun _ _ hg=>handsV_plain (plain_err (by decide) (by decide)) hg
  refine each_err 78 C (rightV 3 x) W hx.one (fun W2 hW2 hz2=>HRX W2 (hW.trans (hW2.mono hz)) (Nat.le_trans hz hz2)) fun hb=> ?_
  rcases hbad with h|h
  ·rw[h]at hb;cases hb
  ·rw[rp_kind hx,h]
 ·have hr:rightV 3 x=true:=by cases h:rightV 3 x with
   |true=>rfl
   |false=>exact absurd (.inl h) hbad
  have h6:x.k≠6:=fun h=>hbad (.inr h)
  by_cases h5:x.k=5
  ·have hA:At x C w:=⟨hx,hx.one,.inr ⟨h5,by rw[rightV,if_pos h5]at hr ⊢;exact hr⟩⟩
   exact to31 hA he
  ·have hA:At x C w:=⟨hx,hx.one,.inl (plain_of h5 h6 hr)⟩
   exact to31 hA he
set_option maxRecDepth 100000 in
set_option maxHeartbeats 4000000 in
theorem text25_no (x:Vl) (v:Value) (w:World) (hx:Rp w w.heap.size 3 x v) (hr:rightV 3 x=false) (hT:Lib.Utf8Tabs 0 1 w):Calls Tryz.prog 25 #[v] w (WritPost ⟨#[]⟩ 30 w):=by
 have HR:=Lib.hid (show ∀W,Below w.heap.size w W→w.heap.size≤W.heap.size→Calls Tryz.prog 27 #[v] W (Gives (.bool false) W)from fun W hW hz=>by
  have:=right27_all 3 x v W (hx.below hW hz) (tabs_below hT hW)
  rw[hr]at this
  exact this)
 obtain⟨C,rfl⟩:∃C,v= .agg C:=by obtain⟨_,_,_,e,_⟩:=hx;exact⟨_,e⟩
 have HO:Hid (OneC C):=Lib.hid hx.one
 have hvx:=World.vb_new w C
 have hB:=(Below.refl _ w).alloc (Nat.le_refl _) (.cells C 34)
 clear hx hr hT
 go_enter Tryz.func25,Tryz.ntmps25
 go_wp2_with (refine wpList_load34 rfl rfl rfl hvx HO.out.1 ?_)
 refine(HR.out _ hB hB.size).mono ?_
 rintro e2 w2 ⟨rfl,hB2⟩
 have hB:=hB.trans (hB2.mono hB.size)
 clear hB2 hvx
 go_wp2_with fail
 go_ret2
 exact⟨rfl,hB⟩
set_option maxRecDepth 100000 in
set_option maxHeartbeats 4000000 in
theorem text25_fun (x:Vl) (v:Value) (w:World) (hx:Rp w w.heap.size 3 x v) (hr:rightV 3 x=true) (h6:x.k=6) (hT:Lib.Utf8Tabs 0 1 w):Calls Tryz.prog 25 #[v] w (WritPost (mk LAMBDA) 0 w):=by
 have HR:=Lib.hid (show ∀W,Below w.heap.size w W→w.heap.size≤W.heap.size→Calls Tryz.prog 27 #[v] W (Gives (.bool true) W)from fun W hW hz=>by
  have:=right27_all 3 x v W (hx.below hW hz) (tabs_below hT hW)
  rw[hr]at this
  exact this)
 obtain⟨C,rfl⟩:∃C,v= .agg C:=by obtain⟨_,_,_,e,_⟩:=hx;exact⟨_,e⟩
 have HO:Hid (OneC C):=Lib.hid hx.one
 have X0:Hid (C[0]? =some (.int .i64 6)):=Lib.hid (by rw[rp_kind hx,h6])
 have hvx:=World.vb_new w C
 have hB:=(Below.refl _ w).alloc (Nat.le_refl _) (.cells C 34)
 clear hx hr h6 hT
 go_enter Tryz.func25,Tryz.ntmps25
 go_wp2_with (refine wpList_load34 rfl rfl rfl hvx HO.out.1 ?_)
 refine(HR.out _ hB hB.size).mono ?_
 rintro e2 w2 ⟨rfl,hB2⟩
 have hvx:=hvx.below hB2 (by simp)
 have hB:=hB.trans (hB2.mono hB.size)
 clear hB2
 have c0:=hvx.cell X0.out
 go_wp2_with fail
 go_ret2
 exact⟨rfl,hB⟩
theorem text25_all (x:Vl) (v:Value) (w:World) (hx:Rp w w.heap.size 3 x v) (he:Env w):Calls Tryz.prog 25 #[v] w (WritPost (mk (textV 3 x).1) (textV 3 x).2 w):=by
 cases hr:rightV 3 x with
 |false=>
  have e:textV 3 x=([],30):=by unfold textV;rw[if_neg (by rw[hr];decide)]
  rw[e]
  exact text25_no x v w hx hr he.1
 |true=>
  by_cases h6:x.k=6
  ·have e:textV 3 x=(LAMBDA,0):=by unfold textV;rw[if_pos hr,if_pos h6]
   rw[e]
   exact text25_fun x v w hx hr h6 he.1
  by_cases h5:x.k=5
  ·have e:textV 3 x=(arrL x,0):=by unfold textV;rw[if_pos hr,if_neg h6,if_neg (by omega),if_pos h5]
   rw[e]
   have ax:=(arr_of h5 hr).1
   rw[ax]at hx hr⊢
   exact text_arr 1 _ _ _ v w hx hr he.2 he.1
  ·have hp:=plain_of h5 h6 hr
   have hv:=plain_cells hx hp
   subst hv
   have e:textV 3 x=textV 2 x:=by
    unfold textV
    rw[if_pos (right_of_plain 1 hp),if_pos hr]
   have e2:(textV 2 x).2=0:=by unfold textV;rw[if_pos (right_of_plain 1 hp)]
   rw[e,e2]
   exact text_plain25 x w hp he.2 he.1
end Go.Proofs.YtkhohjdakcchdaaGreatDoor
