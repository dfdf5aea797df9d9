/- Merged: Rga, Lfa, Cpa, Cla. -/
import Derived.Test.YtmhfioimgllgeaaGreatDoorR32
import Derived.Test.YtmhfioimgllgeaaGreatDoorR43
import Derived.Test.YtmhfioimgllgeaaGreatDoorR01
namespace Go.Proofs.YtmhfioimgllgeaaGreatDoor
open Go Go.RowKit Go.Shelf
theorem set_same {C:Array Value} {i:Nat} {u:Value} (h:C[i]? =some u):C.setIfInBounds i u=C:=by
 apply Array.ext_getElem?
 intro j
 rw[Array.getElem?_setIfInBounds]
 split
 ·rename_i e
  subst e
  split
  ·exact h.symm
  ·rename_i hlt
   rw[Array.getElem?_eq_none (by omega)]
 ·rfl
set_option maxRecDepth 100000 in
set_option maxHeartbeats 8000000 in
theorem copied_plain (x:Vl) (w:World):Calls Tryz.prog 223 #[.agg (pcs x)] w (Gives (.agg (pcs x)) w):=by
 have HCL:=Lib.hid (show ∀W,Calls Tryz.prog 93 #[nilS] W (fun e w'=>e= .returned nilS∧w'=W)from fun W=>(AnyE.slices_Clone_nil Tryz.laysE110 0 0 W).mono fun e w' h=>h)
 have HO:Hid (OneC (pcs x)):=Lib.hid (pcs_one x)
 obtain⟨C,hC⟩:∃C,pcs x=C:=⟨_,rfl⟩
 have X8:Hid (C[8]? =some nilS):=Lib.hid (by rw[←hC];rfl)
 have X10:Hid (C[10]? =some nilS):=Lib.hid (by rw[←hC];rfl)
 have X11:Hid (C[11]? =some nilS):=Lib.hid (by rw[←hC];rfl)
 rw[hC]at HO⊢
 clear hC
 have a90:∀f:Field,([f]:List Field)[0]? =some f:=fun _=>rfl
 have a91:∀f g:Field,([f,g]:List Field)[0]? =some f:=fun _ _=>rfl
 obtain⟨W,hW⟩:∃W,W=(w.alloc (.cells C 39)).alloc (.cells vz 39):=⟨_,rfl⟩
 have hvx:World.vb W w.heap.size C:=by rw[hW];exact(World.vb_new w C).alloc _
 have hvy:World.vb W (w.heap.size+1) vz:=by rw[hW];exact World.vb_new' _ _ _ (by simp)
 have hB:Below w.heap.size w W:=by rw[hW];exact((Below.refl _ w).alloc (Nat.le_refl _) _).alloc (by simp) _
 go_enter Tryz.func223,Tryz.ntmps223
 go_upto_region 1 with (refine wpList_alloc34 rfl rfl ?_)
 go_simp
 rw[←hW]
 clear hW
 have c8:=hvx.cell X8.out
 have f8:=hvx.frozen 8
 go_wp2_with fail
 obtain⟨W1,hW1⟩:∃W1,W1=W.setCell ⟨w.heap.size,8,none⟩ nilS:=⟨_,rfl⟩
 rw[←hW1]
 have hvx:World.vb W1 w.heap.size C:=by
  rw[hW1]
  have:=hvx.set 8 nilS
  rwa [set_same X8.out]at this
 have hvy:World.vb W1 (w.heap.size+1) vz:=by rw[hW1];exact hvy.other (by simp) _
 have hB:Below w.heap.size w W1:=by rw[hW1];exact hB.setCell (Nat.le_refl _) _
 clear hW1 c8 f8
 go_loopw [14] (fun i wr=>i= .int .i64 0∧wr=W1) (fun _ _=>0)
 case atStart=>exact⟨rfl,rfl⟩
 case round=>
  obtain⟨rfl,rfl⟩:=hrel
  have c11:=hvx.cell X11.out
  go_wp2_with fail
  refine(HCL.out _).mono ?_
  rintro e2 w2 ⟨rfl,rfl⟩
  have f11:=hvx.frozen 11
  have f10:=hvx.frozen 10
  have c10:=hvx.cell X10.out
  go_wp2_with fail
  obtain⟨W2,hW2⟩:∃W2,W2=(w2.setCell ⟨w.heap.size,11,none⟩ nilS).setCell ⟨w.heap.size,10,none⟩ nilS:=⟨_,rfl⟩
  rw[←hW2]
  have hvx:World.vb W2 w.heap.size C:=by
   rw[hW2]
   have h1:=hvx.set 11 nilS
   rw[set_same X11.out]at h1
   have:=h1.set 10 nilS
   rwa [set_same X10.out]at this
  have hvy:World.vb W2 (w.heap.size+1) vz:=by rw[hW2];exact(hvy.other (by simp) _).other (by simp) _
  have hB:Below w.heap.size w W2:=by rw[hW2];exact(hB.setCell (Nat.le_refl _) _).setCell (Nat.le_refl _) _
  clear hW2 c10 f10 c11 f11
  go_loopw [39] (fun i wr=>i= .int .i64 0∧wr=W2) (fun _ _=>0)
  case atStart=>exact⟨rfl,rfl⟩
  case round=>
   obtain⟨rfl,rfl⟩:=hrel
   go_wp2_with (first|refine wpList_load34 rfl rfl rfl hvx HO.out.1 ?_|(refine wpList_store34 rfl rfl rfl rfl hvy (by rfl) HO.out ?_;intro w9 hn9 hg9 hz9))
   refine bodyPost_ret (results_cell_row rfl _ _ _ 39 _ (0,0) _ rfl hn9 Tryz.underlying39 rfl (by rw[HO.out.1];exact info34)) rfl ?_
   exact⟨rfl,hB.grown hg9 hB.size (fun k9 hk9=>by cases hk9;omega)⟩
set_option maxRecDepth 100000 in
set_option maxHeartbeats 8000000 in
theorem get22_neg (x:Vl) (C:Array Value) (i j:Int) (w:World) (hx:At x C w) (hE:Env w) (h:i<0∨j<0):Calls Tryz.prog 98 #[.agg C,.int .i64 i,.int .i64 j] w (Gives (.agg (pcs (errV 7))) w):=by
 have HR:=Lib.hid (show ∀W,Below w.heap.size w W→Calls Tryz.prog 19 #[.agg C] W (Gives (.bool true) W)from fun W hW=>right27 (hx.below hW) (hE.below hW))
 have HO:=Lib.hid hx.one
 have hO:=hx.one
 clear hx hE
 go_enter Tryz.func98,Tryz.ntmps98
 go_wp2_with (first|refine wpList_alloc34 rfl rfl ?_|refine wpList_load34 rfl rfl rfl ((World.vb_new w C).alloc _) HO.out.1 ?_)
 obtain⟨W,hW⟩:∃W,W=(w.alloc (.cells C 39)).alloc (.cells vz 39):=⟨_,rfl⟩
 rw[←hW]
 have hvy:World.vb W (w.heap.size+1) vz:=by rw[hW];exact World.vb_new' _ _ _ (by simp)
 have hB:Below w.heap.size w W:=by rw[hW];exact((Below.refl _ w).alloc (Nat.le_refl _) _).alloc (by simp) _
 clear hW
 refine(HR.out _ hB).mono ?_
 rintro e2 w2 ⟨rfl,hB2⟩
 have hvy:=hvy.below hB2 hvy.lt
 have hB:=hB.trans (hB2.mono hB.size)
 clear hB2 HR
 by_cases hi:i<0
 ·go_wp2_with fail
  refine(err_any 7 _).mono ?_
  rintro e3 w3 ⟨rfl,hB3⟩
  have hvy:=hvy.below hB3 hvy.lt
  have hB:=hB.trans (hB3.mono hB.size)
  clear hB3
  go_wp2_with (refine wpList_store34 rfl rfl rfl rfl hvy (by rfl) (pcs_one _) ?_;intro w9 hn9 hg9 hz9)
  refine bodyPost_ret (results_cell_row rfl _ _ _ 39 _ (0,0) _ rfl hn9 Tryz.underlying39 rfl info34) rfl ?_
  exact⟨rfl,hB.grown hg9 hB.size (fun k9 hk9=>by cases hk9;omega)⟩
 ·have hj:j<0:=by omega
  go_wp2_with fail
  refine(err_any 7 _).mono ?_
  rintro e3 w3 ⟨rfl,hB3⟩
  have hvy:=hvy.below hB3 hvy.lt
  have hB:=hB.trans (hB3.mono hB.size)
  clear hB3
  go_wp2_with (refine wpList_store34 rfl rfl rfl rfl hvy (by rfl) (pcs_one _) ?_;intro w9 hn9 hg9 hz9)
  refine bodyPost_ret (results_cell_row rfl _ _ _ 39 _ (0,0) _ rfl hn9 Tryz.underlying39 rfl info34) rfl ?_
  exact⟨rfl,hB.grown hg9 hB.size (fun k9 hk9=>by cases hk9;omega)⟩
set_option maxRecDepth 100000 in
set_option maxHeartbeats 8000000 in
theorem get22_one (x:Vl) (i j:Int) (w:World) (hp:plainV x=true) (hE:Env w) (hi:0≤i) (hj:0≤j):Calls Tryz.prog 98 #[.agg (pcs x),.int .i64 i,.int .i64 j] w (Gives (.agg (pcs x)) w):=by
 have hx:∀W,At x (pcs x) W:=fun W=>at_plain hp
 have HR:=Lib.hid (show ∀W,Below w.heap.size w W→Calls Tryz.prog 19 #[.agg (pcs x)] W (Gives (.bool true) W)from fun W hW=>right27 (hx W) (hE.below hW))
 have h5:=(plain_kind hp).1
 have HCP:=Lib.hid (fun W=>copied_plain x W)
 obtain⟨C,hC⟩:∃C,pcs x=C:=⟨_,rfl⟩
 have HO:Hid (OneC C):=Lib.hid (by rw[←hC];exact pcs_one x)
 have X0:Hid (C[0]? =some (.int .i64 x.k)):=Lib.hid (by rw[←hC];rfl)
 rw[hC]at HR HCP⊢
 clear hC hx hE hp
 generalize x.k=k at*
 have f5:(k != 5)=true:=by simpa using h5
 have fi:¬i<0:=by omega
 have fj:¬j<0:=by omega
 clear h5 hi hj
 go_enter Tryz.func98,Tryz.ntmps98
 go_wp2_with (first|refine wpList_alloc34 rfl rfl ?_|refine wpList_load34 rfl rfl rfl ((World.vb_new w C).alloc _) HO.out.1 ?_)
 obtain⟨W,hW⟩:∃W,W=(w.alloc (.cells C 39)).alloc (.cells vz 39):=⟨_,rfl⟩
 rw[←hW]
 have hvx:World.vb W w.heap.size C:=by rw[hW];exact(World.vb_new w C).alloc _
 have hvy:World.vb W (w.heap.size+1) vz:=by rw[hW];exact World.vb_new' _ _ _ (by simp)
 have hB:Below w.heap.size w W:=by rw[hW];exact((Below.refl _ w).alloc (Nat.le_refl _) _).alloc (by simp) _
 clear hW
 refine(HR.out _ hB).mono ?_
 rintro e2 w2 ⟨rfl,hB2⟩
 have hvx:=hvx.below hB2 hvx.lt
 have hvy:=hvy.below hB2 hvy.lt
 have hB:=hB.trans (hB2.mono hB.size)
 clear hB2 HR
 have c0:=hvx.cell X0.out
 go_wp2_with (refine wpList_load34 rfl rfl rfl hvx HO.out.1 ?_)
 refine(HCP.out _).mono ?_
 rintro e3 w3 ⟨rfl,hB3⟩
 have hvx:=hvx.below hB3 hvx.lt
 have hvy:=hvy.below hB3 hvy.lt
 have hB:=hB.trans (hB3.mono hB.size)
 clear hB3
 go_wp2_with (first|refine wpList_load34 rfl rfl rfl hvx HO.out.1 ?_|(refine wpList_store34 rfl rfl rfl rfl hvy (by rfl) HO.out ?_;intro w9 hn9 hg9 hz9))
 refine bodyPost_ret (results_cell_row rfl _ _ _ 39 _ (0,0) _ rfl hn9 Tryz.underlying39 rfl (by rw[HO.out.1];exact info34)) rfl ?_
 exact⟨rfl,hB.grown hg9 hB.size (fun k9 hk9=>by cases hk9;omega)⟩
/-- At any place. -/
theorem get22_all (x:Vl) (C:Array Value) (i j:Int) (w:World) (hx:At x C w) (hE:Env w):Calls Tryz.prog 98 #[.agg C,.int .i64 i,.int .i64 j] w (HandsV (getV 3 x i j) w):=by
 by_cases h:i<0∨j<0
 ·have hg:getV 3 x i j=errV 7:=by
   unfold getV
   rw[if_pos (hx.2.2.right 2),if_pos h]
  rw[hg]
  exact(get22_neg x C i j w hx hE h).mono fun _ _ hg=>handsV_plain (plain_err (by decide) (by decide)) hg
 have hi:0≤i:=by omega
 have hj:0≤j:=by omega
 rcases hx.cases with hp|⟨r,c,l,rfl,hr⟩
 ·have hg:getV 3 x i j=x:=by
   unfold getV
   rw[if_pos (hx.2.2.right 2),if_neg h,if_neg (plain_kind hp).1]
  rw[hg]
  have:=plain_cells hx.1 hp
  injection this with this
  rw[this]
  exact(get22_one x i j w hp hE hi hj).mono fun _ _ hg=>handsV_plain hp hg
 ·exact(get_any 1 r c i j l _ w hx.1 (hr 2) hE.1 hi hj).mono fun _ _ hg=>handsV_plain (get_plain (hr 2) hi hj) hg
end Go.Proofs.YtmhfioimgllgeaaGreatDoor
namespace Go.Proofs.YtmhfioimgllgeaaGreatDoor
open Go Go.RowKit Go.Shelf
theorem arr_rc {x:Vl} (h:ArrP x):0≤x.rows∧x.rows≤400∧0≤x.cols∧x.cols≤400:=by
 rcases h with h|⟨hk,h⟩
 ·rcases plain_cases h with e|⟨p,e,_⟩|⟨s,e,_⟩|⟨b,e⟩|⟨n,e,_⟩<;>rw[e]<;>simp[numV,txtV,trV,errV]
 ·unfold rightV at h
  rw[if_pos hk,Bool.and_eq_true]at h
  have h1:=h.1
  unfold dimsB at h1
  have h2:=of_decide_eq_true h1
  omega
/-- The most rows, the most columns. -/
def lR (xs:List Vl):Int:=xs.foldl (fun a x=>max a x.rows) 1
def lC (xs:List Vl):Int:=xs.foldl (fun a x=>max a x.cols) 1
theorem lR_snoc (xs:List Vl) (x:Vl):lR (xs++ [x])=max (lR xs) x.rows:=by simp[lR]
theorem lC_snoc (xs:List Vl) (x:Vl):lC (xs++ [x])=max (lC xs) x.cols:=by simp[lC]
theorem lRC_bd :∀ {xs:List Vl},(∀x∈xs,ArrP x)→1≤lR xs∧lR xs≤400∧1≤lC xs∧lC xs≤400:=by
 intro xs
 unfold lR lC
 have:∀(xs:List Vl) (a b:Int),1≤a→a≤400→1≤b→b≤400→(∀x∈xs,ArrP x)→1≤xs.foldl (fun a x=>max a x.rows) a∧xs.foldl (fun a x=>max a x.rows) a≤400∧1≤xs.foldl (fun a x=>max a x.cols) b∧xs.foldl (fun a x=>max a x.cols) b≤400:=by
  intro xs
  induction xs with
  |nil=>intro a b h1 h2 h3 h4 _;exact⟨h1,h2,h3,h4⟩
  |cons x l ih=>
   intro a b h1 h2 h3 h4 h
   have:=arr_rc (h x (List.mem_cons_self ..))
   exact ih (max a x.rows) (max b x.cols) (by omega) (by omega) (by omega) (by omega) fun y hy=>h y (List.mem_cons_of_mem _ hy)
 exact this xs 1 1 (by omega) (by omega) (by omega) (by omega)
/-- The values at a place of each. -/
def getL (xs:List Vl) (c:Int) (k:Nat):List Vl:=xs.map fun x=>getV 3 x ((k:Int).tdiv c) ((k:Int).tmod c)
def liftL (Y:List Vl→Vl) (xs:List Vl):List Vl:=(List.range (lR xs*lC xs).toNat).map fun k=>Y (getL xs (lC xs) k)
theorem liftL_take (Y:List Vl→Vl) (xs:List Vl) {K:Nat} (h:K<(lR xs*lC xs).toNat):(liftL Y xs).take (K+1)=(liftL Y xs).take K++ [Y (getL xs (lC xs) K)]:=by
 unfold liftL
 have hl:K<((List.range (lR xs*lC xs).toNat).map fun k=>Y (getL xs (lC xs) k)).length:=by simpa using h
 rw[List.take_add_one,List.getElem?_eq_getElem hl]
 simp
theorem arr_get {x:Vl} (h:ArrP x) {i j:Int} (hi:0≤i) (hj:0≤j):plainV (getV 3 x i j)=true:=by
 have hr:=ArrP.right h 2
 unfold getV
 rw[if_pos hr,if_neg (by omega)]
 split
 ·rename_i hk
  have hl:∀y∈x.l,plainV y=true:=by
   have:=flat1_plain h
   unfold flat1 at this
   rwa [if_pos hk]at this
  obtain⟨a,ha⟩:∃a,a=(if x.rows=1 then(0:Int)else i):=⟨_,rfl⟩
  obtain⟨b,hb⟩:∃b,b=(if x.cols=1 then(0:Int)else j):=⟨_,rfl⟩
  rw[←ha,←hb]
  split
  ·show plainV (errV 7)=true
   decide
  ·rw[List.getD_eq_getElem?_getD]
   cases hg:x.l[(a*x.cols+b).toNat]? with
   |none=>rfl
   |some y=>exact hl y (List.mem_of_getElem? hg)
 ·rename_i hk
  rcases h with h|h
  ·exact h
  ·exact absurd h.1 hk
theorem vr_els {w:World} {base g n cap:Nat} {l:List Vl} (h:World.vr w base (.slice (some ⟨g,0,none⟩) n cap) l):g<w.heap.size∧n=l.length∧n≤cap∧cap≤maxLen∧Els l g 0 w:=by
 have h':=h
 obtain⟨hlen,h|⟨g',cap',cur,e,hb,hc,hn,hm,hs,ht⟩⟩:=h
 ·cases h.1
 ·injection e with e1 e2 e3
  injection e1 with e1
  injection e1 with e1
  subst e1 e3
  have hg:=(Array.getElem?_eq_some_iff.1 hc).1
  exact⟨hg,e2,by omega,hm,hg,fun i y hi j u hj=>by rw[Nat.zero_add];exact vr_cells h' hi j u hj⟩
def LiftPost (Y:List Vl→Vl) (xs:List Vl) (w:World) (e:Ending) (w':World):Prop:=if 400<lR xs*lC xs then Gives (.agg (pcs (errV 6))) w e w' else HandsA (lR xs) (lC xs) (liftL Y xs) w e w'
set_option maxRecDepth 100000 in
set_option maxHeartbeats 16000000 in
theorem lift_arr (cs:Array Value) (hcs:OneF cs) (xs:List Vl) (hne:xs≠ []) (hl:xs.length≤20) (L:Value) (w:World) (hA:ArgsAt w L xs) (hE:Env w) (harr:(xs.any fun x=>x.k==5)=true) (Y:List Vl→Vl) (hY:∀zs:List Vl,zs.length=xs.length→(∀z∈zs,plainV z=true)→plainV (Y zs)=true)
 (hlet:∀zs:List Vl,zs.length=xs.length→(∀z∈zs,plainV z=true)→∀W g cap,Below w.heap.size w W→Els zs g 0 W→zs.length≤cap→cap≤maxLen→Calls Tryz.prog 97 #[.agg cs,.slice (some ⟨g,0,none⟩) zs.length cap] W (Gives (.agg (pcs (Y zs))) W)):
 Calls Tryz.prog 48 #[.agg cs,L] w (LiftPost Y xs w):=by
 obtain⟨p,c,rfl,_⟩:=id hA.1
 have HAA:=Lib.hid (show ∀W,Below w.heap.size w W→ArgsAt W (.slice p xs.length c) xs from fun W hW=>hA.below hW)
 have HEN:=Lib.hid (show ∀W,Below w.heap.size w W→Env W from fun W hW=>hE.below hW)
 have HLT:=Lib.hid hlet
 have HYP:=Lib.hid hY
 have HCT:=Lib.hid (show ∀W,Below w.heap.size w W→Calls Tryz.prog 45 #[.slice p xs.length c,.func (.func 96) #[] #[]] W (Gives (.bool true) W)from fun W hW=>by
  have:=contains_any 3 96 enters96 (fun x=>x.k==5) xs _ W (fun x v W2 _ _ h=>isarr_any x 3 v W2 h) (hA.below hW).1
  rwa [harr]at this)
 have HP:=Lib.hid hA.2
 have HCS:=Lib.hid hcs
 have HNE:=Lib.hid hne
 have hXn:0<xs.length:=List.length_pos_iff.2 hne
 have hbd:=lRC_bd hA.2
 clear hlet hY hA hE hcs harr hne
 obtain⟨W,hW⟩:∃W,W=(w.alloc (.cells cs 83)).alloc (.cells vz 39):=⟨_,rfl⟩
 have hbx:World.blk W w.heap.size 83 cs:=by rw[hW];unfold World.blk;rw[heap_alloc_old _ _ (by simp)];exact blk_new w 83 cs
 have hvy:World.vb W (w.heap.size+1) vz:=by rw[hW];exact World.vb_new' _ _ _ (by simp)
 have hB:Below w.heap.size w W:=by rw[hW];exact((Below.refl _ w).alloc (Nat.le_refl _) _).alloc (by simp) _
 have hcl:cs.all (·.oneCell')=true:=HCS.out.2
 go_enter Tryz.func48,Tryz.ntmps48
 go_upto_region 1 with (refine wpList_alloc34 rfl rfl ?_)
 go_simp
 rw[←hW]
 clear hW hcl
 go_wp2_with fail
 go_loopw [5,6,18] (fun s5 s6 i wr=>∃K:Nat,i= .int .i64 (K:Int)∧s5= .int .i64 (lR (xs.take K))∧s6= .int .i64 (lC (xs.take K))∧K≤xs.length∧World.blk wr w.heap.size 83 cs∧World.vb wr (w.heap.size+1) vz∧Below w.heap.size w wr) (fun _ _ i _=>xs.length-(intOf i).toNat)
 case atStart=>exact⟨0,rfl,rfl,rfl,Nat.zero_le _,hbx,hvy,hB⟩
 case round=>
  clear hbx hvy hB
  obtain⟨K,rfl,rfl,rfl,hK,hbx,hvy,hB⟩:=hrel
  by_cases hlt:K<xs.length
  ·have hKI:(K:Int)<(xs.length:Int):=by omega
   obtain⟨x,hxK⟩:∃x,xs[K]? =some x:=⟨_,List.getElem?_eq_getElem hlt⟩
   have hBA:=hB
   obtain⟨p',c',e0,_,_,_,_,H⟩:=(HAA.out wr hBA).1
   injection e0 with e1 e2 e3
   obtain⟨g,off,cx,hp,hg,hcs,hrp,hcell⟩:=H K x hxK
   rw[hp]at e1
   subst e1 e3
   have hone:=hrp.one
   have h6:cx[6]? =some (.int .i64 x.rows):=by obtain⟨L',Bs,Ps,e,_⟩:=hrp;injection e with e;rw[e];rfl
   have h7:cx[7]? =some (.int .i64 x.cols):=by obtain⟨L',Bs,Ps,e,_⟩:=hrp;injection e with e;rw[e];rfl
   have htk:xs.take (K+1)=xs.take K++ [x]:=by rw[List.take_add_one,hxK];rfl
   have HR1:=Lib.hid (show lR (xs.take (K+1))=max (lR (xs.take K)) x.rows by rw[htk,lR_snoc])
   have HC1:=Lib.hid (show lC (xs.take (K+1))=max (lC (xs.take K)) x.cols by rw[htk,lC_snoc])
   have HR6:=Lib.hid h6
   have HR7:=Lib.hid h7
   have HO:=Lib.hid hone
   obtain⟨a,ha⟩:∃a,a=lR (xs.take K):=⟨_,rfl⟩
   obtain⟨b,hb⟩:∃a,a=lC (xs.take K):=⟨_,rfl⟩
   rw[←ha]at HR1⊢
   rw[←hb]at HC1⊢
   clear hxK h6 h7 htk hone hrp hp hg H hBA ha hb
   go_upto_region 5 with (first|refine wpList_load34at rfl rfl rfl hcs hcell ?_|refine wpList_alloc34 rfl rfl ?_|(refine wpList_store34 rfl rfl rfl rfl (World.vb_new' _ _ _ rfl) (by rfl) HO.out ?_;intro w1 hn1 hg1 hz1))
   have c6:=hn1.cell HR6.out
   have c7:=hn1.cell HR7.out
   have hsz:=hB.size
   have hbx:=(blk_but (World.blk.below hbx ((Below.refl _ wr).alloc (Nat.le_refl _) (.cells vz 39)) hbx.lt) hg1 (by have:=hbx.lt;omega))
   have hvy:=(vb_but (hvy.alloc (.cells vz 39)) hg1 (by have:=hvy.lt;omega))
   have hB:=(hB.alloc hsz (.cells vz 39)).grown hg1 (by simp;omega) (fun k hk=>by cases hk;exact hsz)
   clear hcell hg1 hz1 hn1
   go_quiet (fail)
   go_wp2_with fail
   go_roundw
   case rel=>exact⟨K+1,by go_num,by rw[HR1.out],by rw[HC1.out],by omega,hbx,hvy,⟨hB.os,hB.tape,hB.output,hB.size,hB.block⟩⟩
   case measure=>simp[intOf];omega
  ·have hKI:¬(K:Int)<(xs.length:Int):=by omega
   have eK:xs.take K=xs:=List.take_of_length_le (by omega)
   rw[eK]
   have HLK:Hid (∀K:Nat,K<(lR xs*lC xs).toNat→(liftL Y xs).take (K+1)=(liftL Y xs).take K++ [Y (getL xs (lC xs) K)]):=Lib.hid fun K h=>liftL_take Y xs h
   obtain⟨LL,hLL⟩:∃l,l=liftL Y xs:=⟨_,rfl⟩
   have HLN:Hid (LL.length=(lR xs*lC xs).toNat):=Lib.hid (by rw[hLL];unfold liftL;simp)
   have HQL:=Lib.hid hLL
   rw[←hLL]at HLK
   clear hLL eK hlt hK
   obtain⟨r,hr⟩:∃a,a=lR xs:=⟨_,rfl⟩
   obtain⟨d,hd⟩:∃a,a=lC xs:=⟨_,rfl⟩
   rw[←hr]at hbd HLK HLN⊢
   rw[←hd]at hbd HLK HLN⊢
   have HQR:=Lib.hid hr
   have HQC:=Lib.hid hd
   clear hr hd
   obtain⟨hr1,hr2,hd1,hd2⟩:=hbd
   have hm1:1≤r*d:=Int.mul_pos (by omega) (by omega)
   have hm2:r*d≤160000:=by
    have:=Int.mul_le_mul hr2 hd2 (by omega) (by omega:(0:Int)≤400)
    omega
   go_wp2_with fail
   refine(HCT.out _ hB).mono ?_
   rintro e2 w2 ⟨rfl,hB2⟩
   have hbx:=hbx.below hB2 hbx.lt
   have hvy:=hvy.below hB2 hvy.lt
   have hB:=hB.trans (hB2.mono hB.size)
   clear hB2
   by_cases hbig:400<r*d
   ·go_wp2_with (first|(go_at_call 44;refine(fault_any 6 _).mono ?_;rintro e3 w3 ⟨rfl,hB3⟩;have hvy:=hvy.below hB3 hvy.lt;have hB:=hB.trans (hB3.mono hB.size))|(refine wpList_store34 rfl rfl rfl rfl hvy (by rfl) (pcs_one _) ?_;intro w9 hn9 hg9 hz9))
    refine bodyPost_ret (results_cell_row rfl _ _ _ 39 _ (0,0) _ rfl hn9 Tryz.underlying39 rfl info34) rfl ?_
    unfold LiftPost
    rw[←HQR.out,←HQC.out,if_pos hbig]
    exact⟨rfl,hB.grown hg9 hB.size (fun k9 hk9=>by cases hk9;omega)⟩
   ·have hsm:¬(400<r*d):=hbig
    have hBz:=hB.size
    have hyl:=hvy.lt
    go_wp2_with (first|refine wpList_build_arr0 [] rfl rfl rfl rfl ?_|refine wpList_alloc34 rfl rfl ?_|(refine wpList_store34 rfl rfl rfl rfl (World.vb_new _ vz) (by rfl) (vcs_one _ none none none 0 0 0 0 0 0) ?_;intro w1 hn1 hg1 hz1))
    have hb1:Below w2.heap.size w2 w1:=((Below.refl _ w2).alloc (Nat.le_refl _) (.cells vz 39)).grown hg1 (by simp) (fun k hk=>by cases hk;exact Nat.le_refl _)
    obtain⟨bo,hbo⟩:∃b,b=w2.heap.size:=⟨_,rfl⟩
    rw[←hbo]at hn1 hBz hyl⊢
    have hb1:Below bo w2 w1:=by rw[hbo];exact hb1
    have hB1:=hB.trans (hb1.mono hBz)
    have hbx1:=hbx.below hb1 (by have:=hbx.lt;omega)
    have hvy1:=hvy.below hb1 (by have:=hvy.lt;omega)
    have hz1b:bo<w1.heap.size:=hn1.lt
    clear hb1 hbo hg1 hz1 hbx hvy hB
    go_loopw [51] (fun i wr=>∃(K:Nat) (sv:Value),i= .int .i64 (K:Int)∧K≤(r*d).toNat∧Hid (World.blk wr w.heap.size 83 cs)∧Hid (World.vb wr (w.heap.size+1) vz)∧Hid (World.vb wr bo (vcs (arrV r d []) sv nilS nilS))∧Hid (World.vr wr (bo+1) sv (LL.take K))∧Below w.heap.size w wr∧bo<wr.heap.size) (fun i _=>(r*d).toNat-(intOf i).toNat)
    case atStart=>exact⟨0,nilS,rfl,Nat.zero_le _,hbx1,hvy1,hn1,World.vr_nil,hB1,hz1b⟩
    case round=>
     clear hbx1 hvy1 hn1 hB1 hz1b
     obtain⟨K,sv,rfl,hK,HBX,HVY,HVO,HSV,hB,hbz⟩:=hrel
     by_cases hlt:K<(r*d).toNat
     ·have hKI:(K:Int)<r*d:=by omega
      have HT:=Lib.hid (HLK.out K hlt)
      obtain⟨q1,hq1⟩:∃q,q=(K:Int).tdiv d:=⟨_,rfl⟩
      obtain⟨q2,hq2⟩:∃q,q=(K:Int).tmod d:=⟨_,rfl⟩
      have hq1p:0≤q1:=by rw[hq1];exact Int.tdiv_nonneg (by omega) (by omega)
      have hq2p:0≤q2:=by rw[hq2];exact Int.tmod_nonneg _ (by omega)
      have HGL:Hid (getL xs d K=xs.map fun x=>getV 3 x q1 q2):=Lib.hid (by rw[hq1,hq2];rfl)
      have HQ1:=Lib.hid hq1
      have HQ2:=Lib.hid hq2
      have HAG:Hid (∀x∈xs,plainV (getV 3 x q1 q2)=true):=Lib.hid fun x hx=>arr_get (HP.out x hx) hq1p hq2p
      have HBW:Hid (Below w.heap.size w wr):=hB
      have hd0:d≠0:=by omega
      clear hq1 hq2 hlt
      obtain⟨wo,hwo⟩:∃W,W=wr:=⟨_,rfl⟩
      subst hwo
      go_wp2_with fail
      go_loopw [12,56] (fun s j wi=>∃J:Nat,j= .int .i64 (J:Int)∧J≤xs.length∧Hid (World.vr wi wo.heap.size s ((xs.take J).map fun x=>getV 3 x q1 q2))∧Hid (Below wo.heap.size wo wi)) (fun _ j _=>xs.length-(intOf j).toNat)
      case atStart=>exact⟨0,rfl,Nat.zero_le _,World.vr_nil,Below.refl _ _⟩
      case round=>
       obtain⟨J,rfl,hJ,HIN,HBI⟩:=hrel
       obtain⟨wi,hwi⟩:∃W,W=wr:=⟨_,rfl⟩
       subst hwi
       by_cases hJlt:J<xs.length
       ·have hJI:(J:Int)<(xs.length:Int):=by omega
        obtain⟨x,hxJ⟩:∃x,xs[J]? =some x:=⟨_,List.getElem?_eq_getElem hJlt⟩
        have hBi:Below w.heap.size w wi:=HBW.out.trans (HBI.out.mono HBW.out.size)
        obtain⟨p',c',e0,_,_,_,_,H⟩:=(HAA.out wi hBi).1
        injection e0 with e1 e2 e3
        obtain⟨g,off,cx,hp,hg,hcs,hrp,hcell⟩:=H J x hxJ
        rw[hp]at e1
        subst e1 e3
        have hone:=hrp.one
        have hAt:At x cx wi:=⟨hrp,hone,HP.out x (List.mem_of_getElem? hxJ)⟩
        have HTJ:=Lib.hid (show(xs.take (J+1)).map (fun x=>getV 3 x q1 q2)=(xs.take J).map (fun x=>getV 3 x q1 q2)++ [getV 3 x q1 q2] by rw[List.take_add_one,hxJ];simp)
        have HPL:=Lib.hid (HAG.out x (List.mem_of_getElem? hxJ))
        have HLN2:Hid (((xs.take J).map fun x=>getV 3 x q1 q2).length≤2000):=Lib.hid (by rw[List.length_map,List.length_take];omega)
        have HAT:=Lib.hid hAt
        have HO:=Lib.hid hone
        clear hxJ hAt hone hp hg H hrp
        go_upto_region 20 with (first|refine wpList_load34at rfl rfl rfl hcs hcell ?_|refine wpList_alloc34 rfl rfl ?_|(refine wpList_store34 rfl rfl rfl rfl (World.vb_new' _ _ _ rfl) (by rfl) HO.out ?_;intro w4 hn4 hg4 hz4))
        have hb4:Below wi.heap.size wi w4:=((Below.refl _ wi).alloc (Nat.le_refl _) (.cells vz 39)).grown hg4 (by simp) (fun k hk=>by cases hk;exact Nat.le_refl _)
        have HG22:Hid (∀W,Below wi.heap.size wi W→Calls Tryz.prog 98 #[.agg cx,.int .i64 q1,.int .i64 q2] W (Gives (.agg (pcs (getV 3 x q1 q2))) W)):=Lib.hid fun W hW=>by
         refine(get22_all x cx q1 q2 W (HAT.out.below hW) (HEN.out W (hBi.trans (hW.mono hBi.size)))).mono ?_
         rintro e w' ⟨C,rfl,hC,hb⟩
         have:=plain_cells hC.1 HPL.out
         injection this with this
         subst this
         exact⟨rfl,hb⟩
        have HS:=Lib.hid (World.ownsRow.lt HIN.out)
        have HIN4:=Lib.hid (HIN.out.below hb4)
        have HBI4:=Lib.hid (HBI.out.trans (hb4.mono HBI.out.size))
        have hqb:q1≤160000:=by have:=Int.tdiv_le_self d (by omega:(0:Int)≤(K:Int));rw[HQ1.out];omega
        have HW1:Hid (IntKind.i64.wrap ((K:Int) / d)=q1):=Lib.hid (by
         have e:(K:Int) / d=q1:=by rw[HQ1.out,Int.tdiv_eq_ediv_of_nonneg (by omega)]
         rw[e]
         rw[IntKind.wrap_i64];omega)
        clear hcell hg4 hz4 HIN HBI hBi
        clear hcs
        obtain⟨g7,hg7⟩:∃g,g=wi.heap.size:=⟨_,rfl⟩
        rw[←hg7]at hn4⊢
        have HG7:=Lib.hid hg7
        clear hg7
        have hEN:Below w4.heap.size w4 w4:=Below.refl _ _
        refine wp_region_held_drew (S:=fun w9=>World.vb w9 g7 cx) (by kernel_rfl) hn4 (fun hHeld=> ?_)
        refine wpAnyH_take (i:=0) (v:= ?_) rfl (by kernel_rfl) (by kernel_rfl) (by kernel_rfl) (fun _ _ _ h=>h) (Or.inl ⟨by rfl,?_⟩) hHeld ?_
        rotate_left
        ·(intro w9 hSw;(try dsimp only at hSw);go_simp)
         all_goals with_reducible rfl
        try simp only[Act.put,List.setIfInBounds_toArray,List.set_cons_zero,List.set_cons_succ]
        refine wpAnyH_take (i:=1) (v:= ?_) rfl (by kernel_rfl) (by kernel_rfl) (by kernel_rfl) (fun _ _ _ h=>h) (Or.inl ⟨by rfl,?_⟩) hHeld ?_
        rotate_left
        ·(intro w9 hSw;refine yields34 (x:= .tmp 14) (g:=g7) (cs:=cx) ?_ ?_ HO.out.1 hSw<;>rfl)
        try simp only[Act.put]
        refine wpAnyH_take (i:=2) (v:= ?_) rfl (by kernel_rfl) (by kernel_rfl) (by kernel_rfl) (fun _ _ _ h=>h) (Or.inl ⟨by rfl,?_⟩) hHeld ?_
        rotate_left
        ·(intro w9 hSw;(try dsimp only at hSw);go_simp)
         all_goals with_reducible rfl
        try simp only[Act.put]
        refine wpAnyH_take (i:=3) (v:= ?_) rfl (by kernel_rfl) (by kernel_rfl) (by kernel_rfl) (fun _ _ _ h=>h) (Or.inl ⟨by rfl,?_⟩) hHeld ?_
        rotate_left
        ·(intro w9 hSw;(try dsimp only at hSw);go_simp)
         all_goals with_reducible rfl
        try simp only[Act.put]
        refine wpAnyH_take (i:=4) (v:= ?_) rfl (by kernel_rfl) (by kernel_rfl) (by kernel_rfl) (fun _ _ _ h=>h) (Or.inl ⟨by rfl,?_⟩) hHeld ?_
        rotate_left
        ·(intro w9 hSw;(try dsimp only at hSw);go_simp)
         all_goals with_reducible rfl
        try simp only[Act.put]
        refine wpAnyH_take (i:=5) (v:= ?_) rfl (by kernel_rfl) (by kernel_rfl) (by kernel_rfl) (fun _ _ _ h=>h) (Or.inl ⟨by rfl,?_⟩) hHeld ?_
        rotate_left
        ·(intro w9 hSw;(try dsimp only at hSw);go_simp)
         all_goals with_reducible rfl
        try simp only[Act.put]
        refine wpAnyH_take (i:=6) (v:= ?_) rfl (by kernel_rfl) (by kernel_rfl) (by kernel_rfl) (fun _ _ _ h=>h) (Or.inl ⟨by rfl,?_⟩) hHeld ?_
        rotate_left
        ·(intro w9 hSw;(try dsimp only at hSw);go_simp)
         all_goals with_reducible rfl
        try simp only[Act.put]
        refine wpAnyH_take (i:=7) (v:= ?_) rfl (by kernel_rfl) (by kernel_rfl) (by kernel_rfl) (fun _ _ _ h=>h) (Or.inl ⟨by rfl,?_⟩) hHeld ?_
        rotate_left
        ·(intro w9 hSw;(try dsimp only at hSw);go_simp)
         all_goals with_reducible rfl
        try simp only[Act.put]
        have hn4:=hn4.drew
        have HIN4:=Lib.hid HIN4.out.drew
        have HBI4:=Lib.hid HBI4.out.drew
        have hb4:=hb4.drew
        clear hHeld
        refine wpAnyH_ready (rs:= [8]) (by kernel_rfl) (by simp) ?_
        refine(AllReadyH.cons (o:=⟨some 68,_,_,_,_,_⟩) rfl (fun KK hK=> ?_) AllReadyH.nil)
        go_simp
        rw[HW1.out,HQ2.out.symm]
        refine(HG22.out _ hb4).mono ?_
        rintro e2 w5 ⟨rfl,hB5⟩
        have hn5:=hn4.below hB5 hn4.lt
        have HIN5:=Lib.hid (HIN4.out.below hB5)
        have HBI5:=Lib.hid (HBI4.out.trans (hB5.mono HBI4.out.size))
        clear hB5 hn4 hb4
        refine hK.out _ _ hn5 (fun hHeld=> ?_)
        clear hK KK hHeld
        try simp only[Act.put,List.setIfInBounds_toArray,List.set_cons_zero,List.set_cons_succ]
        refine wpAnyH_ready (rs:= [9]) (by kernel_rfl) (by simp) ?_
        refine(AllReadyH.cons (o:=⟨some 69,_,_,_,_,_⟩) rfl (fun KK hK=> ?_) AllReadyH.nil)
        rw[if_pos (by rfl)]
        refine op_bslice34 rfl rfl ?_
        have hgn:=World.vb_new w5 (pcs (getV 3 x q1 q2))
        obtain⟨gn,hgn2⟩:∃gn,gn=w5.heap.size:=⟨_,rfl⟩
        have hn6:=hn5.alloc (.cells (pcs (getV 3 x q1 q2)) 39)
        have HIN6:=Lib.hid (HIN5.out.alloc (.cells (pcs (getV 3 x q1 q2)) 39))
        have HBI6:=Lib.hid (HBI5.out.alloc HBI5.out.size (.cells (pcs (getV 3 x q1 q2)) 39))
        obtain⟨w6,hw6⟩:∃w6,w6=w5.alloc (.cells (pcs (getV 3 x q1 q2)) 39):=⟨_,rfl⟩
        rw[←hw6]at hgn hn6 HIN6 HBI6⊢
        rw[←hgn2]at hgn⊢
        clear hw6 hgn2 hn5
        refine hK.out _ _ hn6 (fun hHeld=> ?_)
        clear hK KK hHeld
        try simp only[Act.put,List.setIfInBounds_toArray,List.set_cons_zero,List.set_cons_succ]
        refine wpAnyH_ready (rs:= [10]) (by kernel_rfl) (by simp) ?_
        refine(AllReadyH.cons (o:=⟨some 70,_,_,_,_,_⟩) rfl (fun KK hK=> ?_) AllReadyH.nil)
        rw[if_pos (by rfl)]
        refine op_pushv _ _ rfl wo.heap.size _ _ (getV 3 x q1 q2) gn HIN6.out HLN2.out rfl rfl hgn HBI6.out.size ?_
        intro v7 w7 hin7 hg7
        obtain⟨pv,nv,cv,rfl⟩:=hin7.shape2
        have hn7:=hn6.grown hg7 (fun e=>by have:=HS.out _ e.symm;have:=HG7.out;omega)
        have hbi7:=HBI6.out.grown hg7 HBI6.out.size (fun k9 hk9=>(HS.out k9 hk9).1)
        clear hg7 hn6
        refine hK.out _ _ hn7 (fun hHeld=> ?_)
        clear hK KK hHeld
        try simp only[Act.put,List.setIfInBounds_toArray,List.set_cons_zero,List.set_cons_succ]
        refine wpAnyH_ready (rs:= [11]) (by kernel_rfl) (by simp) ?_
        refine(AllReadyH.cons (o:=⟨some 12,_,_,_,_,_⟩) rfl (fun KK hK=> ?_) AllReadyH.nil)
        rw[if_pos (by rfl)]
        go_simp
        refine hK.out _ _ hn7 (fun hHeld=> ?_)
        clear hK KK hHeld
        try simp only[Act.put,List.setIfInBounds_toArray,List.set_cons_zero,List.set_cons_succ]
        refine wpAnyH_done (by kernel_rfl) ?_ _
        try simp only[Act.put,List.setIfInBounds_toArray,List.set_cons_zero,List.set_cons_succ]
        go_wp2_with fail
        go_roundw
        case rel=>exact⟨J+1,by go_num,by omega,by rw[HTJ.out];exact hin7,hbi7⟩
        case measure=>simp[intOf];omega
       ·obtain rfl:J=xs.length:=by omega
        have hJI:¬((xs.length:Int)<(xs.length:Int)):=by omega
        have hin:=HIN.out
        rw[List.take_length]at hin
        obtain⟨zs,hzs⟩:∃z,z=xs.map fun x=>getV 3 x q1 q2:=⟨_,rfl⟩
        rw[←hzs]at hin HGL
        have hzl:zs.length=xs.length:=by rw[hzs,List.length_map]
        have hzp:∀z∈zs,plainV z=true:=by rw[hzs];intro z hz;obtain⟨x,hx,rfl⟩:=List.mem_map.1 hz;exact HAG.out x hx
        have hzn:zs≠ []:=by intro e;rw[e]at hzl;simp at hzl;omega
        obtain⟨g12,cap12,rfl⟩:=vr_pos hin hzn
        obtain⟨_,_,h1,h2,hel⟩:=vr_els hin
        have hBi:=HBW.out.trans (HBI.out.mono HBW.out.size)
        have HL97:=Lib.hid (HLT.out zs hzl hzp wi g12 cap12 hBi hel h1 h2)
        have HYZ:=Lib.hid (HYP.out zs hzl hzp)
        rw[HGL.out]at HT
        obtain⟨y,hy⟩:∃y,y=Y zs:=⟨_,rfl⟩
        rw[←hy]at HL97 HYZ HT
        have hy5:(y.k==5)=false:=by simpa using (plain_kind HYZ.out).1
        have hy6:(y.k==6)=false:=by simpa using (plain_kind HYZ.out).2
        have hsz:=HBI.out.size
        have hbx:=HBX.out.below HBI.out HBX.out.lt
        have hvy:=HVY.out.below HBI.out HVY.out.lt
        have hvo:=HVO.out.below HBI.out HVO.out.lt
        have HS:=Lib.hid (World.ownsRow.lt HSV.out)
        have HLN2:Hid ((LL.take K).length≤20000):=Lib.hid (by rw[List.length_take,HLN.out];omega)
        have hsv:=World.vr.below HSV.out HBI.out
        have hbl:=hvo.lt
        clear HIN hin hzs hzl hzp hzn h1 h2 hel hy HGL HAG HBX HVY HVO HSV hB
        have HBi:=Lib.hid hBi
        clear hBi
        go_upto_region 23 with (first|refine wpList_load83 rfl rfl rfl hbx HCS.out.1 ?_|(go_at_call 97;refine HL97.out.mono ?_;rintro e3 w8 ⟨rfl,hB8⟩)|refine wpList_alloc34 rfl rfl ?_|(refine wpList_store34 rfl rfl rfl rfl (World.vb_new' _ _ _ rfl) (by rfl) (pcs_one _) ?_;intro w9 hn9 hg9 hz9))
        have hb9:Below wi.heap.size wi w9:=(hB8.alloc hB8.size _).grown hg9 (by have:=hB8.size;simp;omega) (fun k hk=>by cases hk;exact hB8.size)
        have hbx:=hbx.below hb9 hbx.lt
        have hvy:=hvy.below hb9 hvy.lt
        have hvo:=hvo.below hb9 hbl
        have hsv:=World.vr.below hsv hb9
        have hB9:=HBi.out.trans (hb9.mono HBi.out.size)
        have hbz9:bo<w9.heap.size:=hvo.lt
        have c0:w9.cell? ⟨w8.heap.size,0,none⟩=some (.int .i64 y.k):=hn9.cell rfl
        have c8:w9.cell? ⟨bo,8,none⟩=some sv:=hvo.cell rfl
        have HVO:=Lib.hid hvo
        have HSV:=Lib.hid (show World.vr (w9.alloc (.cells (pcs y) 39)) _ _ _ from hsv.alloc _)
        have HBX:=Lib.hid hbx
        have HVY:=Lib.hid hvy
        have HN9:=Lib.hid hn9
        clear hg9 hz9 hB8 hb9 hvo hsv hbx hvy hn9 HBi HL97 HBI
        go_wp2_with (first|refine wpList_load34 rfl rfl rfl HN9.out (by rfl) ?_|refine wpList_bslF rfl rfl rfl ?_|(refine wpList_pushF rfl rfl HSV.out HLN2.out rfl rfl (World.vb_new _ _) (by simp;omega) ?_;intro v10 w10 hr10 hg10;obtain⟨pv,nv,cv,rfl⟩:=hr10.shape2;have hvo:=(HVO.out.alloc (.cells (pcs y) 39)).grown hg10 (fun e=>by have:=(HS.out _ e.symm).1;omega);have f8:=hvo.frozen 8;have c8:w10.cell? ⟨bo,8,none⟩=some sv:=hvo.cell rfl))
        obtain⟨w11,hw11⟩:∃w,w=w10.setCell ⟨bo,8,none⟩ (.slice pv nv cv):=⟨_,rfl⟩
        rw[←hw11]
        have hB10:=(hB9.alloc hB9.size (.cells (pcs y) 39)).grown hg10 (by have:=hB9.size;simp;omega) (fun k9 hk9=>by have:=(HS.out k9 hk9).1;omega)
        have hne:∀k9,sv.ownBlock=some k9→bo+1≤k9:=fun k9 hk9=>(HS.out k9 hk9).1
        have hvo11:World.vb w11 bo (vcs (arrV r d []) (.slice pv nv cv) nilS nilS):=by rw[hw11];exact hvo.set 8 (.slice pv nv cv)
        have hsv11:World.vr w11 (bo+1) (.slice pv nv cv) (LL.take K++ [y]):=by rw[hw11];exact hr10.grown (g:=bo) (grownBy_setCell _ _ _) (Nat.lt_succ_self _)
        have hbx11:World.blk w11 w.heap.size 83 cs:=by
         rw[hw11]
         unfold World.blk
         rw[heap_setCell_other _ _ _ _ (by simp;omega)]
         have:=HBX.out.below ((Below.refl _ w9).alloc (Nat.le_refl _) (.cells (pcs y) 39)) HBX.out.lt
         unfold World.blk at this
         rw[hg10.block _ (Array.getElem?_eq_some_iff.1 this).1 (fun e=>by have:=hne _ e.symm;omega)]
         exact this
        have hvy11:World.vb w11 (w.heap.size+1) vz:=by
         rw[hw11]
         exact((HVY.out.alloc (.cells (pcs y) 39)).grown hg10 (fun e=>by have:=hne _ e.symm;omega)).other (by simp;omega) _
        have hB11:Below w.heap.size w w11:=by rw[hw11];exact hB10.setCell (by simp;omega) _
        have hbz11:=hvo11.lt
        clear hw11 hvo hB10 hr10 hg10 c8 f8
        go_wp2_with fail
        go_roundw
        case rel=>exact⟨K+1,_,by go_num,by omega,hbx11,hvy11,hvo11,by rw[HT.out];exact hsv11,hB11,hbz11⟩
        case measure=>simp[intOf];omega
     ·have hKI:¬((K:Int)<r*d):=by omega
      have hsv:=HSV.out
      rw[List.take_of_length_le (by rw[HLN.out];omega)]at hsv
      have hvo:=HVO.out
      have hvy:=HVY.out
      have HO1:=Lib.hid (show OneC (vcs (arrV r d []) sv nilS nilS)from vr_one (r:=r) (c:=d) (l:=LL) hsv)
      have hne:∀k9,sv.ownBlock=some k9→bo+1≤k9:=fun k9 hk9=>(World.ownsRow.lt hsv k9 hk9).1
      have HSV:=Lib.hid hsv
      clear HVO HVY HBX hsv
      obtain⟨Co,hCo⟩:∃Co,vcs (arrV r d []) sv nilS nilS=Co:=⟨_,rfl⟩
      rw[hCo]at hvo HO1
      have HCo:=Lib.hid hCo
      clear hCo
      go_wp2_with (first|refine wpList_load34 rfl rfl rfl hvo HO1.out.1 ?_|(refine wpList_store34 rfl rfl rfl rfl hvy (by rfl) HO1.out ?_;intro w9 hn9 hg9 hz9))
      refine bodyPost_ret (results_cell_row rfl _ _ _ 39 _ (0,0) _ rfl hn9 Tryz.underlying39 rfl (by rw[HO1.out.1];exact info34)) rfl ?_
      unfold LiftPost
      rw[←HQR.out,←HQC.out,if_neg (by omega)]
      refine⟨sv,by rw[←HCo.out];rfl,?_,hB.grown hg9 hB.size (fun k9 hk9=>by cases hk9;omega)⟩
      rw[←HQL.out]
      exact(HSV.out.grown hg9 (by omega)).mono (by omega)
end Go.Proofs.YtmhfioimgllgeaaGreatDoor
namespace Go.Proofs.YtmhfioimgllgeaaGreatDoor
open Go Go.RowKit Go.Shelf
section
variable {o : Oper} {a : Act} {w w' : World} {K : Act → World → Prop} {Q : Exit → Act → World → Prop}
theorem op_storev {x y:Operand} {g off:Nat} {z:Vl} (ho:o.op= .store 39 x y) (hx:a.eval x= .pointer (some ⟨g,off,none⟩)) (hy:a.eval y= .agg (pcs z))
 (hs:(storeCells ⟨g,off,none⟩ (pcs z).toList 0).run Tryz.prog w= .ok () w') (h:K (a.put o.dst undef) w'):o.wp Tryz.prog a w K Q:=by
 have h12:(Value.agg (pcs z)).cells.size=12:=rfl
 have hz:=Tryz.sizeOf39 w
 have hcs:(Value.agg (pcs z)).cells=pcs z:=rfl
 unfold Oper.wp execOp
 simp only[ho,hx,hy,Instr.storeAt,Instr.sureAddr,storeVar,Sem.run_bind,Sem.run_pure,Result.andThen_ok,hz,hcs]
 rw[if_neg (by rw[show (pcs z).size=12 from rfl];simp)]
 simp only[Result.andThen_ok,hs]
 exact h
end
set_option maxRecDepth 100000 in
set_option maxHeartbeats 16000000 in
theorem copiedF_arr (r c:Int) (l:List Vl) (base:Nat) (L:Value) (w:World) (hr:World.vr w base L l) (hl:l.length≤1000) (hne:l≠ []):Calls Tryz.prog 47 #[.agg (vcs (arrV r c l) L nilS nilS)] w (HandsA r c l w):=by
 have HC93:=Lib.hid (show ∀W,Calls Tryz.prog 93 #[nilS] W (fun e w'=>e= .returned nilS∧w'=W)from fun W=>(AnyE.slices_Clone_nil Tryz.laysF93 0 0 W).mono fun e w' h=>h)
 have HC94:=Lib.hid (show ∀W,Calls Tryz.prog 94 #[nilS] W (fun e w'=>e= .returned nilS∧w'=W)from fun W=>(AnyE.slices_Clone_nil Tryz.laysF94 0 0 W).mono fun e w' h=>h)
 obtain⟨g1,cap1,rfl⟩:=vr_pos hr hne
 obtain⟨hgl,_,h1,h2,hel⟩:=vr_els hr
 have HEL:=Lib.hid (show ∀W,Below w.heap.size w W→Calls Tryz.prog 92 #[.slice (some ⟨g1,0,none⟩) l.length cap1] W _ from fun W hW=>clone92 l g1 0 cap1 W (hel.below hW) hl hne)
 have HO0:=Lib.hid (show OneC (vcs (arrV r c l) (.slice (some ⟨g1,0,none⟩) l.length cap1) nilS nilS)from vr_one (r:=r) (c:=c) (l:=l) hr)
 obtain⟨C0,hC0⟩:∃C,vcs (arrV r c l) (.slice (some ⟨g1,0,none⟩) l.length cap1) nilS nilS=C:=⟨_,rfl⟩
 have Y8:Hid (C0[8]? =some (.slice (some ⟨g1,0,none⟩) l.length cap1)):=Lib.hid (by rw[←hC0];rfl)
 have YS:Hid (∀v,C0.setIfInBounds 8 v=vcs (arrV r c l) v nilS nilS):=Lib.hid (by intro v;rw[←hC0];rfl)
 rw[hC0]at HO0⊢
 clear hC0 hr hgl h1 h2 hel
 have a90:∀f:Field,([f]:List Field)[0]? =some f:=fun _=>rfl
 have a91:∀f g:Field,([f,g]:List Field)[0]? =some f:=fun _ _=>rfl
 obtain⟨W,hW⟩:∃W,W=(w.alloc (.cells C0 39)).alloc (.cells vz 39):=⟨_,rfl⟩
 have hvx:World.vb W w.heap.size C0:=by rw[hW];exact(World.vb_new w C0).alloc _
 have hvy:World.vb W (w.heap.size+1) vz:=by rw[hW];exact World.vb_new' _ _ _ (by simp)
 have hB:Below w.heap.size w W:=by rw[hW];exact((Below.refl _ w).alloc (Nat.le_refl _) _).alloc (by simp) _
 have hcl:C0.all (·.oneCell')=true:=HO0.out.2
 go_enter Tryz.func47,Tryz.ntmps47
 go_upto_region 1 with (refine wpList_alloc34 rfl rfl ?_)
 go_simp
 rw[←hW]
 clear hW hcl
 have c8:=hvx.cell Y8.out
 go_wp2_with fail
 refine(HEL.out _ hB).mono ?_
 rintro e1 w1 ⟨g2,cap2,rfl,hrow,hg2,hg2l,hB1⟩
 have hvx:=hvx.below hB1 hvx.lt
 have hvy:=hvy.below hB1 hvy.lt
 have hxl:w.heap.size+1<W.heap.size:=by have:=hvy.lt;have:=hB.size;have h9:World.vb W (w.heap.size+1) vz:=by assumption
                                        exact h9.lt
 have hB:=hB.trans (hB1.mono hB.size)
 have f8:=hvx.frozen 8
 clear hB1 c8
 have c8:=hvx.cell Y8.out
 go_upto_region 2 with fail
 obtain⟨W1,hW1⟩:∃W1,W1=w1.setCell ⟨w.heap.size,8,none⟩ (.slice (some ⟨g2,0,none⟩) l.length cap2):=⟨_,rfl⟩
 rw[←hW1]
 have hvx:World.vb W1 w.heap.size (vcs (arrV r c l) (.slice (some ⟨g2,0,none⟩) l.length cap2) nilS nilS):=by
  rw[hW1,←YS.out]
  exact hvx.set 8 _
 have hvy:World.vb W1 (w.heap.size+1) vz:=by rw[hW1];exact hvy.other (by simp) _
 have hB:Below w.heap.size w W1:=by rw[hW1];exact hB.setCell (Nat.le_refl _) _
 have hrow:World.vr W1 W.heap.size (.slice (some ⟨g2,0,none⟩) l.length cap2) l:=by rw[hW1];exact hrow.grown (g:=w.heap.size) (grownBy_setCell _ _ _) (by omega)
 clear hW1 c8 f8
 have HO:Hid (OneC (vcs (arrV r c l) (.slice (some ⟨g2,0,none⟩) l.length cap2) nilS nilS)):=Lib.hid (vr_one (r:=r) (c:=c) (l:=l) hrow)
 obtain⟨C,hC⟩:∃C,vcs (arrV r c l) (.slice (some ⟨g2,0,none⟩) l.length cap2) nilS nilS=C:=⟨_,rfl⟩
 have X10:Hid (C[10]? =some nilS):=Lib.hid (by rw[←hC];rfl)
 have X11:Hid (C[11]? =some nilS):=Lib.hid (by rw[←hC];rfl)
 have HC8:Hid (C[8]? =some (.slice (some ⟨g2,0,none⟩) l.length cap2)):=Lib.hid (by rw[←hC];rfl)
 rw[hC]at HO hvx
 have HCE:=Lib.hid hC
 clear hC
 have c8:=hvx.cell HC8.out
 go_wp2_with fail
 clear c8
 go_loopw [13] (fun i wr=>∃K:Nat,i= .int .i64 (K:Int)∧K≤l.length∧World.vb wr w.heap.size C∧World.vb wr (w.heap.size+1) vz∧World.vr wr W.heap.size (.slice (some ⟨g2,0,none⟩) l.length cap2) l∧Below w.heap.size w wr) (fun i _=>l.length-(intOf i).toNat)
 case atStart=>exact⟨0,rfl,Nat.zero_le _,hvx,hvy,hrow,hB⟩
 case round=>
  clear hvx hvy hrow hB
  obtain⟨K,rfl,hK,hvx,hvy,hrow,hB⟩:=hrel
  by_cases hlt:K<l.length
  ·have hKI:(K:Int)<(l.length:Int):=by omega
   obtain⟨y,hyK⟩:∃y,l[K]? =some y:=⟨_,List.getElem?_eq_getElem hlt⟩
   have HLS:Hid (l.set K y=l):=Lib.hid (by
    obtain⟨h1,h2⟩:=List.getElem?_eq_some_iff.1 hyK
    rw[←h2];exact List.set_getElem_self h1)
   have HYK:=Lib.hid hyK
   have hcy:=vr_cells hrow hyK
   have c8:=hvx.cell HC8.out
   clear hyK
   go_upto_region 5 with fail
   obtain⟨g7,hg7⟩:∃g,g=w.heap.size:=⟨_,rfl⟩
   rw[←hg7]at hvx c8⊢
   have HG7:=Lib.hid hg7
   have HSt:Hid (wr.cell? ⟨g7,8,none⟩=some (.slice (some ⟨g2,0,none⟩) l.length cap2)∧∀j u,(pcs y)[j]? =some u→wr.cell? ⟨g2,K*12+j,none⟩=some u):=Lib.hid ⟨c8,hcy⟩
   clear hg7 c8 hcy
   refine wp_region_held_drew (S:=fun w9=>w9.cell? ⟨g7,8,none⟩=some (.slice (some ⟨g2,0,none⟩) l.length cap2)∧∀j u,(pcs y)[j]? =some u→w9.cell? ⟨g2,K*12+j,none⟩=some u) (by kernel_rfl) HSt.out (fun hHeld=> ?_)
   refine wpAnyH_take (i:=0) (v:= ?_) rfl (by kernel_rfl) (by kernel_rfl) (by kernel_rfl) (fun _ _ _ h=>h) (Or.inl ⟨by rfl,?_⟩) hHeld ?_
   rotate_left
   ·(intro w9 hSw;(try dsimp only at hSw);go_simp)
    all_goals with_reducible rfl
   try simp only[Act.put,List.setIfInBounds_toArray]
   refine wpAnyH_take (i:=1) (v:= ?_) rfl (by kernel_rfl) (by kernel_rfl) (by kernel_rfl) (fun _ _ _ h=>h) (Or.inl ⟨by rfl,?_⟩) hHeld ?_
   rotate_left
   ·(intro w9 hSw;have c8:=hSw.1;clear hSw;go_simp)
    all_goals with_reducible rfl
   try simp only[Act.put]
   refine wpAnyH_take (i:=2) (v:= ?_) rfl (by kernel_rfl) (by kernel_rfl) (by kernel_rfl) (fun _ _ _ h=>h) (Or.inl ⟨by rfl,?_⟩) hHeld ?_
   rotate_left
   ·(intro w9 hSw;(try dsimp only at hSw);go_simp)
    all_goals with_reducible rfl
   try simp only[Act.put]
   refine wpAnyH_take (i:=3) (v:= ?_) rfl (by kernel_rfl) (by kernel_rfl) (by kernel_rfl) (fun _ _ _ h=>h) (Or.inl ⟨by rfl,?_⟩) hHeld ?_
   rotate_left
   ·(intro w9 hSw;(try dsimp only at hSw);go_simp)
    all_goals with_reducible rfl
   try simp only[Act.put]
   refine wpAnyH_take (i:=4) (v:= ?_) rfl (by kernel_rfl) (by kernel_rfl) (by kernel_rfl) (fun _ _ _ h=>h) (Or.inl ⟨by rfl,?_⟩) hHeld ?_
   rotate_left
   ·(intro w9 hSw;have c8:=hSw.1;clear hSw;go_simp)
    all_goals with_reducible rfl
   try simp only[Act.put]
   refine wpAnyH_take (i:=5) (v:= ?_) rfl (by kernel_rfl) (by kernel_rfl) (by kernel_rfl) (fun _ _ _ h=>h) (Or.inl ⟨by rfl,?_⟩) hHeld ?_
   rotate_left
   ·(intro w9 hSw;(try dsimp only at hSw);go_simp)
    all_goals with_reducible rfl
   try simp only[Act.put]
   refine wpAnyH_take (i:=6) (v:= ?_) rfl (by kernel_rfl) (by kernel_rfl) (by kernel_rfl) (fun _ _ _ h=>h) (Or.inl ⟨by rfl,?_⟩) hHeld ?_
   rotate_left
   ·(intro w9 hSw;(try dsimp only at hSw);go_simp)
    all_goals with_reducible rfl
   try simp only[Act.put]
   refine wpAnyH_take (i:=7) (v:= ?_) rfl (by kernel_rfl) (by kernel_rfl) (by kernel_rfl) (fun _ _ _ h=>h) (Or.inl ⟨by rfl,?_⟩) hHeld ?_
   rotate_left
   ·(intro w9 hSw;refine yields34a (x:= .tmp 22) (g:=g2) (off:=K*12) (cs:=pcs y) ?_ ?_ ?_ hSw.2<;>rfl)
   try simp only[Act.put]
   have hvx:=hvx.drew
   have hvy:=hvy.drew
   have hrow:=hrow.drew
   have hB:=hB.drew
   have HS2:=Lib.hid (show wr.drew.cell? ⟨g7,8,none⟩=some (.slice (some ⟨g2,0,none⟩) l.length cap2)∧∀j u,(pcs y)[j]? =some u→wr.drew.cell? ⟨g2,K*12+j,none⟩=some u from HSt.out)
   clear hHeld HSt
   refine wpAnyH_ready (rs:= [8]) (by kernel_rfl) (by simp) ?_
   refine(AllReadyH.cons (o:=⟨some 24,_,_,_,_,_⟩) rfl (fun KK hK=> ?_) AllReadyH.nil)
   ·go_simp
    refine(copiedF_plain y _).mono ?_
    rintro e2 w5 ⟨rfl,hB5⟩
    have hvx:=hvx.below hB5 hvx.lt
    have hvy:=hvy.below hB5 hvy.lt
    have hrow:=World.vr.below hrow hB5
    have hB:=hB.trans (hB5.mono hB.size)
    clear hB5 HS2
    refine hK.out _ _ ⟨hvx.cell HC8.out,fun j u hj=>vr_cells hrow HYK.out j u hj⟩ (fun hHeld=> ?_)
    clear hK KK hHeld
    try simp only[Act.put,List.setIfInBounds_toArray,List.set_cons_zero,List.set_cons_succ]
    refine wpAnyH_ready (rs:= [9]) (by kernel_rfl) (by simp) ?_
    refine(AllReadyH.cons (o:=⟨some 25,_,_,_,_,_⟩) rfl (fun KK hK=> ?_) AllReadyH.nil)
    ·rw[if_pos (by rfl)]
     go_simp
     refine hK.out _ _ ⟨hvx.cell HC8.out,fun j u hj=>vr_cells hrow HYK.out j u hj⟩ (fun hHeld=> ?_)
     clear hK KK hHeld
     try simp only[Act.put,List.setIfInBounds_toArray,List.set_cons_zero,List.set_cons_succ]
     refine wpAnyH_ready (rs:= [10]) (by kernel_rfl) (by simp) ?_
     refine(AllReadyH.cons (o:=⟨none,_,_,_,_,_⟩) rfl (fun KK hK=> ?_) AllReadyH.nil)
     ·rw[if_pos (by rfl)]
      obtain⟨g3,cap3,e3,hb3,hl3,hrun,hrow6⟩:=vr_store hrow hlt y
      injection e3 with e3 _ e4
      injection e3 with e3
      injection e3 with e3
      subst e3 e4
      refine op_storev rfl rfl rfl hrun ?_
      have hgr:=grown_setCells g2 (pcs y).toList (K*12) w5
      obtain⟨w6,hw6⟩:∃w,w=w5.setCells g2 (K*12) (pcs y).toList:=⟨_,rfl⟩
      rw[←hw6]at hgr hrow6⊢
      rw[HLS.out]at hrow6
      have hvx:=vb_but hvx hgr (by have:=HG7.out;omega)
      have hvy:=vb_but hvy hgr (by omega)
      have hB:=hB.grown hgr hB.size (fun k9 hk9=>by cases hk9;omega)
      clear hrun hw6 hrow hgr
      refine hK.out _ _ ⟨hvx.cell HC8.out,fun j u hj=>vr_cells hrow6 HYK.out j u hj⟩ (fun hHeld=> ?_)
      clear hK KK hHeld
      try simp only[Act.put]
      refine wpAnyH_done (by kernel_rfl) ?_ _
      try simp only[Act.put,List.setIfInBounds_toArray,List.set_cons_zero,List.set_cons_succ]
      obtain rfl:g7=w.heap.size:=HG7.out
      go_wp2_with fail
      go_roundw
      case rel=>exact⟨K+1,by go_num,by omega,hvx,hvy,hrow6,hB⟩
      case measure=>simp[intOf];omega
  ·obtain rfl:K=l.length:=by omega
   have hKI:¬((l.length:Int)<(l.length:Int)):=by omega
   have c11:=hvx.cell X11.out
   have f11:=hvx.frozen 11
   go_wp2_with fail
   refine(HC93.out _).mono ?_
   rintro e1 w2 ⟨rfl,rfl⟩
   go_upto_region 8 with fail
   obtain⟨W2,hW2⟩:∃W1,W1=w2.setCell ⟨w.heap.size,11,none⟩ nilS:=⟨_,rfl⟩
   rw[←hW2]
   have hrow:World.vr W2 W.heap.size (.slice (some ⟨g2,0,none⟩) l.length cap2) l:=by rw[hW2];exact hrow.grown (g:=w.heap.size) (grownBy_setCell _ _ _) (by omega)
   have hvx:World.vb W2 w.heap.size C:=by
    rw[hW2]
    have:=hvx.set 11 nilS
    rwa [set_same' X11.out]at this
   have hvy:World.vb W2 (w.heap.size+1) vz:=by rw[hW2];exact hvy.other (by simp) _
   have hB:Below w.heap.size w W2:=by rw[hW2];exact hB.setCell (Nat.le_refl _) _
   clear hW2 c11 f11
   have c10:=hvx.cell X10.out
   have f10:=hvx.frozen 10
   go_wp2_with fail
   refine(HC94.out _).mono ?_
   rintro e1 w3 ⟨rfl,rfl⟩
   go_upto_region 9 with fail
   obtain⟨W3,hW3⟩:∃W1,W1=w3.setCell ⟨w.heap.size,10,none⟩ nilS:=⟨_,rfl⟩
   rw[←hW3]
   have hrow:World.vr W3 W.heap.size (.slice (some ⟨g2,0,none⟩) l.length cap2) l:=by rw[hW3];exact hrow.grown (g:=w.heap.size) (grownBy_setCell _ _ _) (by omega)
   have hvx:World.vb W3 w.heap.size C:=by
    rw[hW3]
    have:=hvx.set 10 nilS
    rwa [set_same' X10.out]at this
   have hvy:World.vb W3 (w.heap.size+1) vz:=by rw[hW3];exact hvy.other (by simp) _
   have hB:Below w.heap.size w W3:=by rw[hW3];exact hB.setCell (Nat.le_refl _) _
   clear hW3 c10 f10
   have c10:=hvx.cell X10.out
   go_wp2_with fail
   refine wp_loop_rounds 1 ?_
   rw[rounds_succ]
   go_wp2_with (first|refine wpList_load34 rfl rfl rfl hvx HO.out.1 ?_|(refine wpList_store34 rfl rfl rfl rfl hvy (by rfl) HO.out ?_;intro w9 hn9 hg9 hz9))
   refine bodyPost_ret (results_cell_row rfl _ _ _ 39 _ (0,0) _ rfl hn9 Tryz.underlying39 rfl (by rw[HO.out.1];exact info34)) rfl ?_
   exact⟨_,by rw[←HCE.out],(hrow.grown hg9 (by omega)).mono (by omega),hB.grown hg9 hB.size (fun k9 hk9=>by cases hk9;omega)⟩
end Go.Proofs.YtmhfioimgllgeaaGreatDoor
namespace Go.Proofs.YtmhfioimgllgeaaGreatDoor
open Go Go.RowKit Go.Shelf Go.Maps
set_option maxRecDepth 100000 in
set_option maxHeartbeats 8000000 in
theorem call_arr (s:ByteArray) (hs:s.size≤1000) (M E:Int) (e:Ent) (he:look (tabAll M E) (upL s.data.toList)=some e) (hh:e.how≠ []) (d:Ds) (hd:e.one=some d) (xs:List Vl) (L:Value) (w:World) (hA:ArgsAt w L xs) (hE:Env w)
 (hl0:e.least≤(xs.length:Int)) (hl1:(xs.length:Int)≤e.most) (r c:Int) (l:List Vl) (hll:l.length≤1000) (hln:l≠ [])
 (hlift:∀(cs:Array Value) (W:World) (gf:Nat) (ps:Array Value),OneF cs→cs[2]? =some (.string (mk e.how))→cs[3]? =some (fnV gf ps)→d.At W (fnV gf ps)→Below w.heap.size w W→Calls Tryz.prog 48 #[.agg cs,L] W (HandsA r c l W)):
 Calls Tryz.prog 18 #[.string s,L,.agg #[.int .i64 M,.int .i64 E]] w (HandsA r c l w):=by
 obtain⟨p0,c0,rfl,_⟩:=id hA.1
 have HLF:=Lib.hid hlift
 have HAR:=Lib.hid (show ∀W,Below w.heap.size w W→Calls Tryz.prog 45 #[.slice p0 xs.length c0,.func (.func 46) #[] #[]] W (Gives (.bool false) W)from fun W hW=>allright xs _ W (hA.below hW) (hE.below hW))
 have HLK:=Lib.hid he
 have HH:=Lib.hid hh
 have HD:=Lib.hid hd
 clear hlift hA hE he hh hd
 obtain⟨W,hW⟩:∃W,W=(w.alloc (.cells #[.int .i64 M,.int .i64 E] 34)).alloc (.cells vz 39):=⟨_,rfl⟩
 have hdc:World.dec W w.heap.size M E:=by rw[hW];exact(World.dec_new w M E _ rfl).alloc _
 have hvy:World.vb W (w.heap.size+1) vz:=by rw[hW];exact World.vb_new' _ _ _ (by simp)
 have hB:Below w.heap.size w W:=by rw[hW];exact((Below.refl _ w).alloc (Nat.le_refl _) _).alloc (by simp) _
 go_enter Tryz.func18,Tryz.ntmps18
 go_upto_region 1 with (refine wpList_alloc34 rfl rfl ?_)
 go_simp
 rw[←hW]
 clear hW
 have d0:=hdc.c0
 have d1:=hdc.c1
 go_wp2_with fail
 refine(funs_any M E _).mono ?_
 rintro e1 w1 ⟨b,rfl,hT,hB1⟩
 have hvy:=hvy.below hB1 hvy.lt
 have hB:=hB.trans (hB1.mono hB.size)
 clear hB1 hdc d0 d1
 go_wp2_with fail
 refine(upper_any s _ (by omega)).mono ?_
 rintro e2 w2 ⟨rfl,hB2⟩
 have hT:=hT.below hB2
 have hvy:=hvy.below hB2 hvy.lt
 have hB:=hB.trans (hB2.mono hB.size)
 clear hB2
 obtain⟨v,hv,hrun⟩:=hT.look (s:=upS s) (by show(upL s.data.toList).length≤1000;unfold upL;rw[List.length_map];exact hs) HLK.out
 obtain⟨cs,hcv,hcs⟩:=ent_form hv
 obtain⟨va,vb,hv2,hv3,hv4⟩:=hv
 rw[HD.out]at hv3
 obtain⟨gf,ps,rfl⟩:=Ds.At.form hv3
 subst hcv
 injection hv2 with hv2
 have Q0:=Lib.hid (show cs[0]? =some (.int .i64 e.least) by rw[hv2];rfl)
 have Q1:=Lib.hid (show cs[1]? =some (.int .i64 e.most) by rw[hv2];rfl)
 have Q2:=Lib.hid (show cs[2]? =some (.string (mk e.how)) by rw[hv2];rfl)
 have Q3:=Lib.hid (show cs[3]? =some (fnV gf ps) by rw[hv2];rfl)
 have HV:=Lib.hid (show d.At w2 (fnV gf ps)from hv3)
 have HCS:=Lib.hid hcs
 clear hcs hT hv2 hv3 hv4
 go_upto_region 2 with (first|refine wpList_alloc83 rfl rfl ?_|(refine wpList_store83 rfl rfl rfl rfl (blk_new' _ _ _ _ rfl) (by rfl) HCS.out ?_;intro w3 hn3 hg3 hz3))
 have hb3:Below w2.heap.size w2 w3:=((Below.refl _ w2).alloc (Nat.le_refl _) (.cells fz 83)).grown hg3 (by simp) (fun k hk=>by cases hk;exact Nat.le_refl _)
 have HV:=Lib.hid (HV.out.below hb3)
 have hvy:=hvy.below hb3 hvy.lt
 have hB:=hB.trans (hb3.mono hB.size)
 have c0:=hn3.cell Q0.out
 have c1:=hn3.cell Q1.out
 have c2:=hn3.cell Q2.out
 clear hrun hg3 hz3 hb3
 have t1:¬((xs.length:Int)<e.least):=by omega
 have t2:¬(e.most<(xs.length:Int)):=by omega
 go_wp2_with fail
 refine(HAR.out _ hB).mono ?_
 rintro e4 w4 ⟨rfl,hB4⟩
 have HV:=Lib.hid (HV.out.below hB4)
 have hvy:=hvy.below hB4 hvy.lt
 have hn4:=hn3.below hB4 hn3.lt
 have hB:=hB.trans (hB4.mono hB.size)
 have c2:=hn4.cell Q2.out
 clear hB4
 have HL:=Lib.hid (HLF.out cs w4 gf ps HCS.out Q2.out Q3.out HV.out hB)
 have hnb:(mk e.how).toList.isEmpty=false:=by
  rw[ByteArray.toList_eq]
  show(mk e.how).data.toList.isEmpty=false
  show e.how.isEmpty=false
  cases h:e.how with
  |nil=>exact absurd h HH.out
  |cons x l=>rfl
 go_wp2_with (refine wpList_load83 rfl rfl rfl hn4 HCS.out.1 ?_)
 refine HL.out.mono ?_
 rintro e5 w5 ⟨L5,rfl,hr5,hB5⟩
 have hvy:=hvy.below hB5 hvy.lt
 have hB:=hB.trans (hB5.mono hB.size)
 clear hB5
 have HCP:=Lib.hid (copiedF_arr r c l _ L5 w5 hr5 hll hln)
 have HO5:Hid (OneC (vcs (arrV r c l) L5 nilS nilS)):=Lib.hid (vr_one (r:=r) (c:=c) (l:=l) hr5)
 clear hr5
 obtain⟨C5,hC5⟩:∃C,C=vcs (arrV r c l) L5 nilS nilS:=⟨_,rfl⟩
 rw[←hC5]at HO5 HCP⊢
 clear hC5
 go_wp2_with fail
 refine HCP.out.mono ?_
 rintro e6 w6 ⟨L6,rfl,hr6,hB6⟩
 have hb6:=hvy.lt
 have hvy:=hvy.below hB6 hvy.lt
 have hB:=hB.trans (hB6.mono hB.size)
 clear hB6
 have HO6:Hid (OneC (vcs (arrV r c l) L6 nilS nilS)):=Lib.hid (vr_one (r:=r) (c:=c) (l:=l) hr6)
 obtain⟨C6,hC6⟩:∃C,C=vcs (arrV r c l) L6 nilS nilS:=⟨_,rfl⟩
 rw[←hC6]at HO6⊢
 have HC6:=Lib.hid hC6
 clear hC6
 go_wp2_with (refine wpList_store34 rfl rfl rfl rfl hvy (by rfl) HO6.out ?_;intro w9 hn9 hg9 hz9)
 refine bodyPost_ret (results_cell_row rfl _ _ _ 39 _ (0,0) _ rfl hn9 Tryz.underlying39 rfl (by rw[HO6.out.1];exact info34)) rfl ?_
 exact⟨L6,by rw[HC6.out],(hr6.grown hg9 hb6).mono (Nat.le_trans (by omega) (Nat.le_of_lt hb6)),hB.grown hg9 hB.size (fun k9 hk9=>by cases hk9;omega)⟩
end Go.Proofs.YtmhfioimgllgeaaGreatDoor
