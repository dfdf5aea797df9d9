/- val.copied at plain values; val.Get and tabularef03.Get at any place of a plain value or an array. (By genRga.py.) -/
import Derived.Test.YtmhfioimgllgeaaGreatDoorU33
namespace Go.Proofs.YtmhfioimgllgeaaGreatDoor
open Go Go.RowKit Go.Shelf
theorem set_same {C:Array Value} {i:Nat} {u:Value} (h:C[i]? =some u):C.setIfInBounds i u=C:=by
 apply Array.ext_getElem?
 intro j
 rw[Array.getElem?_setIfInBounds]
 split
 ·rename_i e
  subst e
  split
  ·exact h.symm
  ·rename_i hlt
   rw[Array.getElem?_eq_none (by omega)]
 ·rfl
set_option maxRecDepth 100000 in
set_option maxHeartbeats 8000000 in
theorem copied_plain (x:Vl) (w:World):Calls Tryz.prog 223 #[.agg (pcs x)] w (Gives (.agg (pcs x)) w):=by
 have HCL:=Lib.hid (show ∀W,Calls Tryz.prog 93 #[nilS] W (fun e w'=>e= .returned nilS∧w'=W)from fun W=>(AnyE.slices_Clone_nil Tryz.laysE110 0 0 W).mono fun e w' h=>h)
 have HO:Hid (OneC (pcs x)):=Lib.hid (pcs_one x)
 obtain⟨C,hC⟩:∃C,pcs x=C:=⟨_,rfl⟩
 have X8:Hid (C[8]? =some nilS):=Lib.hid (by rw[←hC];rfl)
 have X10:Hid (C[10]? =some nilS):=Lib.hid (by rw[←hC];rfl)
 have X11:Hid (C[11]? =some nilS):=Lib.hid (by rw[←hC];rfl)
 rw[hC]at HO⊢
 clear hC
 have a90:∀f:Field,([f]:List Field)[0]? =some f:=fun _=>rfl
 have a91:∀f g:Field,([f,g]:List Field)[0]? =some f:=fun _ _=>rfl
 obtain⟨W,hW⟩:∃W,W=(w.alloc (.cells C 39)).alloc (.cells vz 39):=⟨_,rfl⟩
 have hvx:World.vb W w.heap.size C:=by rw[hW];exact(World.vb_new w C).alloc _
 have hvy:World.vb W (w.heap.size+1) vz:=by rw[hW];exact World.vb_new' _ _ _ (by simp)
 have hB:Below w.heap.size w W:=by rw[hW];exact((Below.refl _ w).alloc (Nat.le_refl _) _).alloc (by simp) _
 go_enter Tryz.func223,Tryz.ntmps223
 go_upto_region 1 with (refine wpList_alloc34 rfl rfl ?_)
 go_simp
 rw[←hW]
 clear hW
 have c8:=hvx.cell X8.out
 have f8:=hvx.frozen 8
 go_wp2_with fail
 obtain⟨W1,hW1⟩:∃W1,W1=W.setCell ⟨w.heap.size,8,none⟩ nilS:=⟨_,rfl⟩
 rw[←hW1]
 have hvx:World.vb W1 w.heap.size C:=by
  rw[hW1]
  have:=hvx.set 8 nilS
  rwa [set_same X8.out]at this
 have hvy:World.vb W1 (w.heap.size+1) vz:=by rw[hW1];exact hvy.other (by simp) _
 have hB:Below w.heap.size w W1:=by rw[hW1];exact hB.setCell (Nat.le_refl _) _
 clear hW1 c8 f8
 go_loopw [14] (fun i wr=>i= .int .i64 0∧wr=W1) (fun _ _=>0)
 case atStart=>exact⟨rfl,rfl⟩
 case round=>
  obtain⟨rfl,rfl⟩:=hrel
  have c11:=hvx.cell X11.out
  go_wp2_with fail
  refine(HCL.out _).mono ?_
  rintro e2 w2 ⟨rfl,rfl⟩
  have f11:=hvx.frozen 11
  have f10:=hvx.frozen 10
  have c10:=hvx.cell X10.out
  go_wp2_with fail
  obtain⟨W2,hW2⟩:∃W2,W2=(w2.setCell ⟨w.heap.size,11,none⟩ nilS).setCell ⟨w.heap.size,10,none⟩ nilS:=⟨_,rfl⟩
  rw[←hW2]
  have hvx:World.vb W2 w.heap.size C:=by
   rw[hW2]
   have h1:=hvx.set 11 nilS
   rw[set_same X11.out]at h1
   have:=h1.set 10 nilS
   rwa [set_same X10.out]at this
  have hvy:World.vb W2 (w.heap.size+1) vz:=by rw[hW2];exact(hvy.other (by simp) _).other (by simp) _
  have hB:Below w.heap.size w W2:=by rw[hW2];exact(hB.setCell (Nat.le_refl _) _).setCell (Nat.le_refl _) _
  clear hW2 c10 f10 c11 f11
  go_loopw [39] (fun i wr=>i= .int .i64 0∧wr=W2) (fun _ _=>0)
  case atStart=>exact⟨rfl,rfl⟩
  case round=>
   obtain⟨rfl,rfl⟩:=hrel
   go_wp2_with (first|refine wpList_load34 rfl rfl rfl hvx HO.out.1 ?_|(refine wpList_store34 rfl rfl rfl rfl hvy (by rfl) HO.out ?_;intro w9 hn9 hg9 hz9))
   refine bodyPost_ret (results_cell_row rfl _ _ _ 39 _ (0,0) _ rfl hn9 Tryz.underlying39 rfl (by rw[HO.out.1];exact info34)) rfl ?_
   exact⟨rfl,hB.grown hg9 hB.size (fun k9 hk9=>by cases hk9;omega)⟩
set_option maxRecDepth 100000 in
set_option maxHeartbeats 8000000 in
theorem get22_neg (x:Vl) (C:Array Value) (i j:Int) (w:World) (hx:At x C w) (hE:Env w) (h:i<0∨j<0):Calls Tryz.prog 98 #[.agg C,.int .i64 i,.int .i64 j] w (Gives (.agg (pcs (errV 7))) w):=by
 have HR:=Lib.hid (show ∀W,Below w.heap.size w W→Calls Tryz.prog 19 #[.agg C] W (Gives (.bool true) W)from fun W hW=>right27 (hx.below hW) (hE.below hW))
 have HO:=Lib.hid hx.one
 have hO:=hx.one
 clear hx hE
 go_enter Tryz.func98,Tryz.ntmps98
 go_wp2_with (first|refine wpList_alloc34 rfl rfl ?_|refine wpList_load34 rfl rfl rfl ((World.vb_new w C).alloc _) HO.out.1 ?_)
 obtain⟨W,hW⟩:∃W,W=(w.alloc (.cells C 39)).alloc (.cells vz 39):=⟨_,rfl⟩
 rw[←hW]
 have hvy:World.vb W (w.heap.size+1) vz:=by rw[hW];exact World.vb_new' _ _ _ (by simp)
 have hB:Below w.heap.size w W:=by rw[hW];exact((Below.refl _ w).alloc (Nat.le_refl _) _).alloc (by simp) _
 clear hW
 refine(HR.out _ hB).mono ?_
 rintro e2 w2 ⟨rfl,hB2⟩
 have hvy:=hvy.below hB2 hvy.lt
 have hB:=hB.trans (hB2.mono hB.size)
 clear hB2 HR
 by_cases hi:i<0
 ·go_wp2_with fail
  refine(err_any 7 _).mono ?_
  rintro e3 w3 ⟨rfl,hB3⟩
  have hvy:=hvy.below hB3 hvy.lt
  have hB:=hB.trans (hB3.mono hB.size)
  clear hB3
  go_wp2_with (refine wpList_store34 rfl rfl rfl rfl hvy (by rfl) (pcs_one _) ?_;intro w9 hn9 hg9 hz9)
  refine bodyPost_ret (results_cell_row rfl _ _ _ 39 _ (0,0) _ rfl hn9 Tryz.underlying39 rfl info34) rfl ?_
  exact⟨rfl,hB.grown hg9 hB.size (fun k9 hk9=>by cases hk9;omega)⟩
 ·have hj:j<0:=by omega
  go_wp2_with fail
  refine(err_any 7 _).mono ?_
  rintro e3 w3 ⟨rfl,hB3⟩
  have hvy:=hvy.below hB3 hvy.lt
  have hB:=hB.trans (hB3.mono hB.size)
  clear hB3
  go_wp2_with (refine wpList_store34 rfl rfl rfl rfl hvy (by rfl) (pcs_one _) ?_;intro w9 hn9 hg9 hz9)
  refine bodyPost_ret (results_cell_row rfl _ _ _ 39 _ (0,0) _ rfl hn9 Tryz.underlying39 rfl info34) rfl ?_
  exact⟨rfl,hB.grown hg9 hB.size (fun k9 hk9=>by cases hk9;omega)⟩
set_option maxRecDepth 100000 in
set_option maxHeartbeats 8000000 in
theorem get22_one (x:Vl) (i j:Int) (w:World) (hp:plainV x=true) (hE:Env w) (hi:0≤i) (hj:0≤j):Calls Tryz.prog 98 #[.agg (pcs x),.int .i64 i,.int .i64 j] w (Gives (.agg (pcs x)) w):=by
 have hx:∀W,At x (pcs x) W:=fun W=>at_plain hp
 have HR:=Lib.hid (show ∀W,Below w.heap.size w W→Calls Tryz.prog 19 #[.agg (pcs x)] W (Gives (.bool true) W)from fun W hW=>right27 (hx W) (hE.below hW))
 have h5:=(plain_kind hp).1
 have HCP:=Lib.hid (fun W=>copied_plain x W)
 obtain⟨C,hC⟩:∃C,pcs x=C:=⟨_,rfl⟩
 have HO:Hid (OneC C):=Lib.hid (by rw[←hC];exact pcs_one x)
 have X0:Hid (C[0]? =some (.int .i64 x.k)):=Lib.hid (by rw[←hC];rfl)
 rw[hC]at HR HCP⊢
 clear hC hx hE hp
 generalize x.k=k at*
 have f5:(k != 5)=true:=by simpa using h5
 have fi:¬i<0:=by omega
 have fj:¬j<0:=by omega
 clear h5 hi hj
 go_enter Tryz.func98,Tryz.ntmps98
 go_wp2_with (first|refine wpList_alloc34 rfl rfl ?_|refine wpList_load34 rfl rfl rfl ((World.vb_new w C).alloc _) HO.out.1 ?_)
 obtain⟨W,hW⟩:∃W,W=(w.alloc (.cells C 39)).alloc (.cells vz 39):=⟨_,rfl⟩
 rw[←hW]
 have hvx:World.vb W w.heap.size C:=by rw[hW];exact(World.vb_new w C).alloc _
 have hvy:World.vb W (w.heap.size+1) vz:=by rw[hW];exact World.vb_new' _ _ _ (by simp)
 have hB:Below w.heap.size w W:=by rw[hW];exact((Below.refl _ w).alloc (Nat.le_refl _) _).alloc (by simp) _
 clear hW
 refine(HR.out _ hB).mono ?_
 rintro e2 w2 ⟨rfl,hB2⟩
 have hvx:=hvx.below hB2 hvx.lt
 have hvy:=hvy.below hB2 hvy.lt
 have hB:=hB.trans (hB2.mono hB.size)
 clear hB2 HR
 have c0:=hvx.cell X0.out
 go_wp2_with (refine wpList_load34 rfl rfl rfl hvx HO.out.1 ?_)
 refine(HCP.out _).mono ?_
 rintro e3 w3 ⟨rfl,hB3⟩
 have hvx:=hvx.below hB3 hvx.lt
 have hvy:=hvy.below hB3 hvy.lt
 have hB:=hB.trans (hB3.mono hB.size)
 clear hB3
 go_wp2_with (first|refine wpList_load34 rfl rfl rfl hvx HO.out.1 ?_|(refine wpList_store34 rfl rfl rfl rfl hvy (by rfl) HO.out ?_;intro w9 hn9 hg9 hz9))
 refine bodyPost_ret (results_cell_row rfl _ _ _ 39 _ (0,0) _ rfl hn9 Tryz.underlying39 rfl (by rw[HO.out.1];exact info34)) rfl ?_
 exact⟨rfl,hB.grown hg9 hB.size (fun k9 hk9=>by cases hk9;omega)⟩
/-- At any place. -/
theorem get22_all (x:Vl) (C:Array Value) (i j:Int) (w:World) (hx:At x C w) (hE:Env w):Calls Tryz.prog 98 #[.agg C,.int .i64 i,.int .i64 j] w (HandsV (getV 3 x i j) w):=by
 by_cases h:i<0∨j<0
 ·have hg:getV 3 x i j=errV 7:=by
   unfold getV
   rw[if_pos (hx.2.2.right 2),if_pos h]
  rw[hg]
  exact(get22_neg x C i j w hx hE h).mono fun _ _ hg=>handsV_plain (plain_err (by decide) (by decide)) hg
 have hi:0≤i:=by omega
 have hj:0≤j:=by omega
 rcases hx.cases with hp|⟨r,c,l,rfl,hr⟩
 ·have hg:getV 3 x i j=x:=by
   unfold getV
   rw[if_pos (hx.2.2.right 2),if_neg h,if_neg (plain_kind hp).1]
  rw[hg]
  have:=plain_cells hx.1 hp
  injection this with this
  rw[this]
  exact(get22_one x i j w hp hE hi hj).mono fun _ _ hg=>handsV_plain hp hg
 ·exact(get_any 1 r c i j l _ w hx.1 (hr 2) hE.1 hi hj).mono fun _ _ hg=>handsV_plain (get_plain (hr 2) hi hj) hg
end Go.Proofs.YtmhfioimgllgeaaGreatDoor
