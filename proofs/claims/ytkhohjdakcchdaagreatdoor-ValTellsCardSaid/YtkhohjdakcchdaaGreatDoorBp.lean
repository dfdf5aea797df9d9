/- Merged: Mkg, Get. -/
import Derived.Test.YtkhohjdakcchdaaGreatDoorBm
import Derived.Test.YtkhohjdakcchdaaGreatDoorBn
namespace Go.Proofs.YtkhohjdakcchdaaGreatDoor
open Go Go.RowKit Go.Shelf
theorem vsC_each {l:List Vl} {P:Nat→Value→Prop} (h:∀i x j u,l[i]? =some x→(pcs x)[j]? =some u→P (i*12+j) u):∀k u,(vsC l)[k]? =some u→P k u:=by
 intro k u hk
 have hlt:k<l.length*12:=by rw[←vsC_len];exact(List.getElem?_eq_some_iff.1 hk).1
 have hi:k / 12<l.length:=by omega
 obtain⟨x,hx⟩:∃x,l[k / 12]? =some x:=⟨_,List.getElem?_eq_getElem hi⟩
 have hj:k%12<(pcs x).size:=Nat.mod_lt _ (by decide)
 have hu:=vsC_at l (k / 12) (k%12) hx (Array.getElem?_eq_getElem hj)
 rw[show k / 12*12+k%12=k by omega,hk]at hu
 injection hu with hu
 have:=h (k / 12) x (k%12) u hx (by rw[hu];exact Array.getElem?_eq_getElem hj)
 rwa [show k / 12*12+k%12=k by omega]at this
def ClonePost (l:List Vl) (w:World) (e:Ending) (w':World):Prop:=∃L,e= .returned L∧World.vr w' w.heap.size L l∧(l= []→L=nilS)∧Below w.heap.size w w'
theorem sizeOf34' (w:World):(Go.sizeOf 34).run Tryz.prog w= .ok 12 w:=by kernel_rfl
set_option maxRecDepth 100000 in
theorem clone_any (n:Nat) (l:List Vl) (L:Value) (w:World) (hp:∀x∈l,plainV x=true) (hl:VsAt (Rp w w.heap.size (n+1)) w w.heap.size L l):Calls Tryz.prog 58 #[L] w (ClonePost l w):=by
 obtain⟨p,c,rfl,l1,l2,l3,l4,HL⟩:=hl
 by_cases h0:l= []
 ·rw[l4 h0]
  refine(AnyE.slices_Clone_nil Tryz.laysE58 0 0 w).mono ?_
  rintro e w' ⟨rfl,rfl⟩
  subst h0
  exact⟨nilS,rfl,World.vr_nil,fun _=>rfl,Below.refl _ _⟩
 ·obtain⟨g,off,hpe⟩:∃g off,p=some ⟨g,off,none⟩:=by
   cases l with
   |nil=>exact absurd rfl h0
   |cons x l=>
    obtain⟨g,off,_,e,_⟩:=HL 0 x rfl
    exact⟨g,off,e⟩
  subst hpe
  obtain⟨i0,hi,hz0,hz1,hz2⟩:=info_parts info34b
  refine(AnyE.slices_Clone Tryz.laysE58 i0 (.agg vz) 12 152 hi hz0 hz1 hz2 rfl (by decide) sizeOf34' g off l.length c (vsC l) w (vsC_len l) (by unfold maxLen;omega) (by omega) ?_ (vsC_one l)).mono ?_
  ·refine vsC_each fun i x j u hx hj=> ?_
   obtain⟨g',off',cs,e,_,_,hr,hc⟩:=HL i x hx
   injection e with e
   injection e with e1 e2 _
   subst e1 e2
   have:=plain_cells hr (hp x (List.mem_of_getElem? hx))
   injection this with this
   subst this
   have:=hc j u hj
   rwa [Nat.add_assoc]at this
  ·rintro e w' ⟨v',rfl,hown,_,hB⟩
   exact⟨v',rfl,hown,fun e=>absurd e h0,hB⟩
def MadePost (r c:Int) (l:List Vl) (w:World) (e:Ending) (w':World):Prop:=∃L,e= .returned (.tuple #[.agg (vcs (arrV r c l) L nilS nilS),.int .i64 0])∧World.vr w' w.heap.size L l∧Below w.heap.size w w'
set_option maxRecDepth 100000 in
set_option maxHeartbeats 4000000 in
theorem make_ok (n:Nat) (r c:Int) (l:List Vl) (L:Value) (w:World) (hp:∀x∈l,plainV x=true) (hl:VsAt (Rp w w.heap.size (n+1)) w w.heap.size L l) (hr:rightV 1 (arrV r c l)=true) (hT:Lib.Utf8Tabs 0 1 w):
 Calls Tryz.prog 19 #[.int .i64 r,.int .i64 c,L] w (MadePost r c l w):=by
 have HCl:=Lib.hid (show ∀W,Below w.heap.size w W→w.heap.size≤W.heap.size→Calls Tryz.prog 58 #[L] W (ClonePost l W)from fun W hW hz=>clone_any n l L W hp (hl.imp (fun p9 hp9=>hW.cell hp9) hz (fun y9 v9 h9=>h9.below hW hz)))
 have HRT:=Lib.hid (show ∀W L' D,Below w.heap.size w W→World.vr W D L' l→Calls Tryz.prog 27 #[.agg (vcs (arrV r c l) L' nilS nilS)] W (Gives (.bool true) W)from fun W L' D hW hown=>by
  have:=right27_any 0 (arrV r c l) _ W (rp_of_vr hown hr (Nat.le_refl _)) (.arr hp) (tabs_below hT hW)
  rw[show rightV 2 (arrV r c l)=true from right_arr.2 (right_arr.1 hr)]at this
  exact this)
 obtain⟨pL,kL,rfl,_,_⟩:=hl.shape
 clear hp hl hr hT
 generalize l.length=m at HCl⊢
 go_enter Tryz.func19,Tryz.ntmps19
 go_wp2_with (refine wpList_alloc34 rfl rfl ?_)
 refine(HCl.out _ ((Below.refl _ w).alloc (Nat.le_refl _) _) (by simp)).mono ?_
 rintro e2 w2 ⟨L',rfl,hown,_,hB2⟩
 have hvy:=(World.vb_new w vz).below hB2 (by simp)
 have hB:=((Below.refl _ w).alloc (Nat.le_refl _) (.cells vz 34)).trans (hB2.mono (by simp))
 rw[World.size_alloc]at hown
 clear hB2
 obtain⟨p',n',k',rfl⟩:=hown.shape2
 have hO:=vr_one (r:=r) (c:=c) hown
 obtain⟨Co,hCo⟩:∃Co,vcs (arrV r c l) (.slice p' n' k') nilS nilS=Co:=⟨_,rfl⟩
 have HBD:=Lib.hid (show ∀W,(Instr.build 34 #[(0,.int .i64 5),(5,.int .i64 r),(6,.int .i64 c),(7,.slice p' n' k')]).run Tryz.prog W= .ok (.agg Co) W from fun W=>by rw[←hCo];exact build_arr r c l p' n' k' W)
 rw[hCo]at hO
 have HO:=Lib.hid hO
 have HCo:=Lib.hid hCo
 clear hO hCo
 have hlt2:=hvy.lt
 go_wp2_with (first|(refine wpList_build_arrC HBD.out rfl rfl rfl rfl rfl ?_)|refine wpList_alloc34 rfl rfl ?_|(refine wpList_store34 rfl rfl rfl rfl (World.vb_new _ vz) (by rfl) HO.out ?_;intro w3 hn3 hg3 hz3;have hvy:=(hvy.alloc (.cells vz 34)).grown hg3 (by intro e9;injection e9 with e9;omega);have hown:=World.vr.grown' (hown.alloc (.cells vz 34)) hg3 (fun k9 hk9=>by have:=(World.ownsRow.lt hown k9 hk9).2;omega);have hB:=(hB.alloc hB.size (.cells vz 34)).grown hg3 (by have:=hB.size;simp;omega) (fun k9 hk9=>by cases hk9;exact hB.size))|refine wpList_load34 rfl rfl rfl hn3 HO.out.1 ?_)
 rw[←HCo.out]
 refine(HRT.out _ _ _ hB hown).mono ?_
 rintro e4 w4 ⟨rfl,hB4⟩
 have hn4:=hn3.below hB4 hn3.lt
 have hvy:=hvy.below hB4 hvy.lt
 have hown:=hown.below hB4
 have hB:=hB.trans (hB4.mono hB.size)
 clear hB4 hn3
 rw[HCo.out]
 go_wp2_with (first|refine wpList_load34 rfl rfl rfl hn4 HO.out.1 ?_|(refine wpList_store34 rfl rfl rfl rfl hvy (by rfl) HO.out ?_;intro w9 hn9 hg9 hz9))
 refine bodyPost_ret (results_vl_tmp rfl _ _ _ _ rfl hn9 HO.out.1) rfl ?_
 exact⟨_,by rw[←HCo.out];rfl,(hown.grown hg9 (by omega)).mono (by omega),hB.grown hg9 hB.size (fun k9 hk9=>by cases hk9;omega)⟩
end Go.Proofs.YtkhohjdakcchdaaGreatDoor
namespace Go.Proofs.YtkhohjdakcchdaaGreatDoor
open Go Go.RowKit Go.Shelf
set_option maxRecDepth 100000 in
set_option maxHeartbeats 8000000 in
theorem get_rc (n:Nat) (r c i j:Int) (l:List Vl) (v:Value) (w:World) (hv:Rp w w.heap.size (n+2) (arrV r c l) v) (hr:rightV (n+2) (arrV r c l)=true) (hT:Lib.Utf8Tabs 0 1 w) (hi:0≤i) (hj:0≤j) (hr1:r=1) (hc1:c=1):
 Calls Tryz.prog 22 #[v,.int .i64 i,.int .i64 j] w (Gives (.agg (pcs (getV (n+2) (arrV r c l) i j))) w):=by
 have hdim:=(right_arr.1 hr).1
 have hpl:=(right_arr.1 hr).2
 have hG:=get_arr hr hi hj
 have ha:atI r i=0:=by unfold atI;rw[if_pos hr1]
 have hb:atI c j=0:=by unfold atI;rw[if_pos hc1]
 rw[ha,hb]at hG
 have HR:=Lib.hid (show ∀W,Below w.heap.size w W→w.heap.size≤W.heap.size→Calls Tryz.prog 27 #[v] W (Gives (.bool true) W)from fun W hW hz=>by
  have:=right27_any n _ v W (hv.below hW hz) (.arr hpl) (tabs_below hT hW)
  rw[hr]at this;exact this)
 obtain⟨p,k,rfl,hl,hok⟩:=arr_cells hv
 obtain⟨Y,hY⟩:∃Y,getV (n+2) (arrV r c l) i j=Y:=⟨_,rfl⟩
 rw[hY]at hG⊢
 have HLK:Hid (∀q:Nat,q<l.length→∃g0 off,p=some ⟨g0,off,none⟩∧∀W,Below w.heap.size w W→∀jj u,(pcs (l.getD q {}))[jj]? =some u→W.cell? ⟨g0,off+q*12+jj,none⟩=some u):=Lib.hid fun q hq=>by
  obtain⟨p',c',e,_,_,_,_,H⟩:=hl
  injection e with e1 _ _
  have hx:l[q]? =some (l.getD q {}):=by rw[List.getD_eq_getElem?_getD,List.getElem?_eq_getElem hq];rfl
  obtain⟨g0,off,cs,e2,hg0,hs,hr0,hc0⟩:=H q _ hx
  have:=plain_cells hr0 (hpl _ (List.mem_of_getElem? hx))
  injection this with this
  subst this
  exact⟨g0,off,e1.trans e2,fun W hW jj u hj=>(hW.cell (p:=⟨g0,_,none⟩) hg0).trans (hc0 jj u hj)⟩
 obtain⟨CA,hCA⟩:∃C,vcs (arrV r c l) (.slice p l.length k) nilS nilS=C:=⟨_,rfl⟩
 have hO:OneC CA:=by rw[←hCA];exact vcs_one _ _ _ _ _ _ _ _ _ _
 have x0:CA[0]? =some (.int .i64 5):=by rw[←hCA];rfl
 have x6:CA[6]? =some (.int .i64 r):=by rw[←hCA];rfl
 have x7:CA[7]? =some (.int .i64 c):=by rw[←hCA];rfl
 have x8:CA[8]? =some (.slice p l.length k):=by rw[←hCA];rfl
 rw[hCA]at HR⊢
 have HO:=Lib.hid hO
 have XS:=Lib.hid (And.intro x0 (And.intro x6 (And.intro x7 x8)))
 have HG:=Lib.hid hG
 have HD:=Lib.hid hdim
 have HHR:=Lib.hid hr
 have fi:¬i<0:=by omega
 have fj:¬j<0:=by omega
 have f1:(r==1)=true:=by simpa using hr1
 have f2:(c==1)=true:=by simpa using hc1
 have hlb:l.length≤400:=by omega
 clear hCA hO x0 x6 x7 x8 hv hT hpl hdim hl hok hG hY hr ha hb
 go_enter Tryz.func22,Tryz.ntmps22
 go_wp2_with (first|refine wpList_alloc34 rfl rfl ?_|refine wpList_load34 rfl rfl rfl ((World.vb_new w CA).alloc _) HO.out.1 ?_)
 obtain⟨W,hW⟩:∃W,W=(w.alloc (.cells CA 34)).alloc (.cells vz 34):=⟨_,rfl⟩
 rw[←hW]
 have hvx:World.vb W w.heap.size CA:=by rw[hW];exact(World.vb_new w CA).alloc _
 have hvy:World.vb W (w.heap.size+1) vz:=by rw[hW];exact World.vb_new' _ _ _ (by simp)
 have hB:Below w.heap.size w W:=by rw[hW];exact((Below.refl _ w).alloc (Nat.le_refl _) _).alloc (by simp) _
 clear hW
 refine(HR.out _ hB hB.size).mono ?_
 rintro e2 w2 ⟨rfl,hB2⟩
 have hvx:=hvx.below hB2 hvx.lt
 have hvy:=hvy.below hB2 hvy.lt
 have hB:=hB.trans (hB2.mono hB.size)
 clear hB2 HR
 have c0:=hvx.cell XS.out.1
 have c6:=hvx.cell XS.out.2.1
 have c7:=hvx.cell XS.out.2.2.1
 have c8:=hvx.cell XS.out.2.2.2
 have hq1:¬(r≤0∨c≤0):=by have:=HD.out;omega
 have hlt:=at_lt (r:=r) (c:=c) (i:=0) (j:=0) (by omega) (by omega) (by
  unfold atI
  rw[if_pos hr1,if_pos hc1]
  exact hq1)
 have hai:atI r 0=0∧atI c 0=0:=by unfold atI;exact⟨if_pos hr1,if_pos hc1⟩
 rw[hai.1,hai.2]at hlt
 obtain⟨q,hq⟩:∃q:Nat,(0*c+0).toNat=q:=⟨_,rfl⟩
 have hqK:0*c+0=(q:Int):=by omega
 have hql:q<l.length:=by have:=HD.out;omega
 have HN:Hid (Y=l.getD q {}):=by show _=_;rw[HG.out,if_neg hq1,hq]
 obtain⟨g0,off,rfl,hcl⟩:=HLK.out q hql
 have HCL:=Lib.hid hcl
 have hO2:=pcs_one (l.getD q {})
 obtain⟨C2,hC2⟩:∃C2,pcs (l.getD q {})=C2:=⟨_,rfl⟩
 rw[hC2]at HCL hO2
 have HO2:=Lib.hid hO2
 have HC2:=Lib.hid hC2
 have hqlI:(0:Int)<(l.length:Int):=by omega
 have hm0:0≤0*c:=Int.mul_nonneg (by omega) (by have:=HD.out;omega)
 have hm1:0*c≤400:=by omega
 have hdr:=HD.out
 clear hcl hO2 hC2 hq1 hlt hai hq
 have hrI:¬r≤0:=by omega
 have hcI:¬c≤0:=by omega
 have hq0:q=0:=by omega
 clear hqK hm0 hm1
 subst hq0
 clear hdr
 go_wp2_with (first|refine wpList_load34at rfl rfl rfl HO2.out.1 (HCL.out _ hB) ?_|(refine wpList_store34 rfl rfl rfl rfl hvy (by rfl) HO2.out ?_;intro w9 hn9 hg9 hz9))
 refine bodyPost_ret (results_cell_row rfl _ _ _ 34 _ (0,0) _ rfl hn9 Tryz.underlying34 rfl (by rw[HO2.out.1];exact info34)) rfl ?_
 exact⟨by rw[HN.out,HC2.out],hB.grown hg9 hB.size (fun k9 hk9=>by cases hk9;omega)⟩
set_option maxRecDepth 100000 in
set_option maxHeartbeats 8000000 in
theorem get_r (n:Nat) (r c i j:Int) (l:List Vl) (v:Value) (w:World) (hv:Rp w w.heap.size (n+2) (arrV r c l) v) (hr:rightV (n+2) (arrV r c l)=true) (hT:Lib.Utf8Tabs 0 1 w) (hi:0≤i) (hj:0≤j) (hr1:r=1) (hc1:¬c=1):
 Calls Tryz.prog 22 #[v,.int .i64 i,.int .i64 j] w (Gives (.agg (pcs (getV (n+2) (arrV r c l) i j))) w):=by
 have hdim:=(right_arr.1 hr).1
 have hpl:=(right_arr.1 hr).2
 have hG:=get_arr hr hi hj
 have ha:atI r i=0:=by unfold atI;rw[if_pos hr1]
 have hb:atI c j=j:=by unfold atI;rw[if_neg hc1]
 rw[ha,hb]at hG
 have HR:=Lib.hid (show ∀W,Below w.heap.size w W→w.heap.size≤W.heap.size→Calls Tryz.prog 27 #[v] W (Gives (.bool true) W)from fun W hW hz=>by
  have:=right27_any n _ v W (hv.below hW hz) (.arr hpl) (tabs_below hT hW)
  rw[hr]at this;exact this)
 obtain⟨p,k,rfl,hl,hok⟩:=arr_cells hv
 obtain⟨Y,hY⟩:∃Y,getV (n+2) (arrV r c l) i j=Y:=⟨_,rfl⟩
 rw[hY]at hG⊢
 have HLK:Hid (∀q:Nat,q<l.length→∃g0 off,p=some ⟨g0,off,none⟩∧∀W,Below w.heap.size w W→∀jj u,(pcs (l.getD q {}))[jj]? =some u→W.cell? ⟨g0,off+q*12+jj,none⟩=some u):=Lib.hid fun q hq=>by
  obtain⟨p',c',e,_,_,_,_,H⟩:=hl
  injection e with e1 _ _
  have hx:l[q]? =some (l.getD q {}):=by rw[List.getD_eq_getElem?_getD,List.getElem?_eq_getElem hq];rfl
  obtain⟨g0,off,cs,e2,hg0,hs,hr0,hc0⟩:=H q _ hx
  have:=plain_cells hr0 (hpl _ (List.mem_of_getElem? hx))
  injection this with this
  subst this
  exact⟨g0,off,e1.trans e2,fun W hW jj u hj=>(hW.cell (p:=⟨g0,_,none⟩) hg0).trans (hc0 jj u hj)⟩
 obtain⟨CA,hCA⟩:∃C,vcs (arrV r c l) (.slice p l.length k) nilS nilS=C:=⟨_,rfl⟩
 have hO:OneC CA:=by rw[←hCA];exact vcs_one _ _ _ _ _ _ _ _ _ _
 have x0:CA[0]? =some (.int .i64 5):=by rw[←hCA];rfl
 have x6:CA[6]? =some (.int .i64 r):=by rw[←hCA];rfl
 have x7:CA[7]? =some (.int .i64 c):=by rw[←hCA];rfl
 have x8:CA[8]? =some (.slice p l.length k):=by rw[←hCA];rfl
 rw[hCA]at HR⊢
 have HO:=Lib.hid hO
 have XS:=Lib.hid (And.intro x0 (And.intro x6 (And.intro x7 x8)))
 have HG:=Lib.hid hG
 have HD:=Lib.hid hdim
 have HHR:=Lib.hid hr
 have fi:¬i<0:=by omega
 have fj:¬j<0:=by omega
 have f1:(r==1)=true:=by simpa using hr1
 have f2:(c==1)=false:=by simpa using hc1
 have hlb:l.length≤400:=by omega
 clear hCA hO x0 x6 x7 x8 hv hT hpl hdim hl hok hG hY hr ha hb
 go_enter Tryz.func22,Tryz.ntmps22
 go_wp2_with (first|refine wpList_alloc34 rfl rfl ?_|refine wpList_load34 rfl rfl rfl ((World.vb_new w CA).alloc _) HO.out.1 ?_)
 obtain⟨W,hW⟩:∃W,W=(w.alloc (.cells CA 34)).alloc (.cells vz 34):=⟨_,rfl⟩
 rw[←hW]
 have hvx:World.vb W w.heap.size CA:=by rw[hW];exact(World.vb_new w CA).alloc _
 have hvy:World.vb W (w.heap.size+1) vz:=by rw[hW];exact World.vb_new' _ _ _ (by simp)
 have hB:Below w.heap.size w W:=by rw[hW];exact((Below.refl _ w).alloc (Nat.le_refl _) _).alloc (by simp) _
 clear hW
 refine(HR.out _ hB hB.size).mono ?_
 rintro e2 w2 ⟨rfl,hB2⟩
 have hvx:=hvx.below hB2 hvx.lt
 have hvy:=hvy.below hB2 hvy.lt
 have hB:=hB.trans (hB2.mono hB.size)
 clear hB2 HR
 have c0:=hvx.cell XS.out.1
 have c6:=hvx.cell XS.out.2.1
 have c7:=hvx.cell XS.out.2.2.1
 have c8:=hvx.cell XS.out.2.2.2
 by_cases h2:c≤j
 ·have HN:Hid (Y=errV 7):=by show _=_;rw[HG.out,if_pos (by omega)]
  have hd1:=HD.out
  go_wp2_with fail
  refine(err_any 7 _).mono ?_
  rintro e3 w3 ⟨rfl,hB3⟩
  have hvy:=hvy.below hB3 hvy.lt
  have hB:=hB.trans (hB3.mono hB.size)
  clear hB3
  go_wp2_with (refine wpList_store34 rfl rfl rfl rfl hvy (by rfl) (pcs_one _) ?_;intro w9 hn9 hg9 hz9)
  refine bodyPost_ret (results_cell_row rfl _ _ _ 34 _ (0,0) _ rfl hn9 Tryz.underlying34 rfl info34) rfl ?_
  exact⟨by rw[HN.out],hB.grown hg9 hB.size (fun k9 hk9=>by cases hk9;omega)⟩
 have hq1:¬(r≤0∨c≤j):=by have:=HD.out;omega
 have hlt:=at_lt (r:=r) (c:=c) (i:=0) (j:=j) (by omega) (by omega) (by
  unfold atI
  rw[if_pos hr1,if_neg hc1]
  exact hq1)
 have hai:atI r 0=0∧atI c j=j:=by unfold atI;exact⟨if_pos hr1,if_neg hc1⟩
 rw[hai.1,hai.2]at hlt
 obtain⟨q,hq⟩:∃q:Nat,(0*c+j).toNat=q:=⟨_,rfl⟩
 have hqI:0*c+j=(q:Int):=by omega
 have hql:q<l.length:=by have:=HD.out;omega
 have HN:Hid (Y=l.getD q {}):=by show _=_;rw[HG.out,if_neg hq1,hq]
 obtain⟨g0,off,rfl,hcl⟩:=HLK.out q hql
 have HCL:=Lib.hid hcl
 have hO2:=pcs_one (l.getD q {})
 obtain⟨C2,hC2⟩:∃C2,pcs (l.getD q {})=C2:=⟨_,rfl⟩
 rw[hC2]at HCL hO2
 have HO2:=Lib.hid hO2
 have HC2:=Lib.hid hC2
 have hqlI:(q:Int)<(l.length:Int):=by omega
 have hm0:0≤0*c:=Int.mul_nonneg (by omega) (by have:=HD.out;omega)
 have hm1:0*c≤400:=by omega
 have hdr:=HD.out
 clear hcl hO2 hC2 hq1 hlt hai hq
 have hqI:j=(q:Int):=by omega
 have hrI:¬r≤0:=by omega
 have hcI:¬c≤j:=by omega
 clear hdr
 go_wp2_with (first|refine wpList_load34at rfl rfl rfl HO2.out.1 (HCL.out _ hB) ?_|(refine wpList_store34 rfl rfl rfl rfl hvy (by rfl) HO2.out ?_;intro w9 hn9 hg9 hz9))
 refine bodyPost_ret (results_cell_row rfl _ _ _ 34 _ (0,0) _ rfl hn9 Tryz.underlying34 rfl (by rw[HO2.out.1];exact info34)) rfl ?_
 exact⟨by rw[HN.out,HC2.out],hB.grown hg9 hB.size (fun k9 hk9=>by cases hk9;omega)⟩
set_option maxRecDepth 100000 in
set_option maxHeartbeats 8000000 in
theorem get_c (n:Nat) (r c i j:Int) (l:List Vl) (v:Value) (w:World) (hv:Rp w w.heap.size (n+2) (arrV r c l) v) (hr:rightV (n+2) (arrV r c l)=true) (hT:Lib.Utf8Tabs 0 1 w) (hi:0≤i) (hj:0≤j) (hr1:¬r=1) (hc1:c=1):
 Calls Tryz.prog 22 #[v,.int .i64 i,.int .i64 j] w (Gives (.agg (pcs (getV (n+2) (arrV r c l) i j))) w):=by
 have hdim:=(right_arr.1 hr).1
 have hpl:=(right_arr.1 hr).2
 have hG:=get_arr hr hi hj
 have ha:atI r i=i:=by unfold atI;rw[if_neg hr1]
 have hb:atI c j=0:=by unfold atI;rw[if_pos hc1]
 rw[ha,hb]at hG
 have HR:=Lib.hid (show ∀W,Below w.heap.size w W→w.heap.size≤W.heap.size→Calls Tryz.prog 27 #[v] W (Gives (.bool true) W)from fun W hW hz=>by
  have:=right27_any n _ v W (hv.below hW hz) (.arr hpl) (tabs_below hT hW)
  rw[hr]at this;exact this)
 obtain⟨p,k,rfl,hl,hok⟩:=arr_cells hv
 obtain⟨Y,hY⟩:∃Y,getV (n+2) (arrV r c l) i j=Y:=⟨_,rfl⟩
 rw[hY]at hG⊢
 have HLK:Hid (∀q:Nat,q<l.length→∃g0 off,p=some ⟨g0,off,none⟩∧∀W,Below w.heap.size w W→∀jj u,(pcs (l.getD q {}))[jj]? =some u→W.cell? ⟨g0,off+q*12+jj,none⟩=some u):=Lib.hid fun q hq=>by
  obtain⟨p',c',e,_,_,_,_,H⟩:=hl
  injection e with e1 _ _
  have hx:l[q]? =some (l.getD q {}):=by rw[List.getD_eq_getElem?_getD,List.getElem?_eq_getElem hq];rfl
  obtain⟨g0,off,cs,e2,hg0,hs,hr0,hc0⟩:=H q _ hx
  have:=plain_cells hr0 (hpl _ (List.mem_of_getElem? hx))
  injection this with this
  subst this
  exact⟨g0,off,e1.trans e2,fun W hW jj u hj=>(hW.cell (p:=⟨g0,_,none⟩) hg0).trans (hc0 jj u hj)⟩
 obtain⟨CA,hCA⟩:∃C,vcs (arrV r c l) (.slice p l.length k) nilS nilS=C:=⟨_,rfl⟩
 have hO:OneC CA:=by rw[←hCA];exact vcs_one _ _ _ _ _ _ _ _ _ _
 have x0:CA[0]? =some (.int .i64 5):=by rw[←hCA];rfl
 have x6:CA[6]? =some (.int .i64 r):=by rw[←hCA];rfl
 have x7:CA[7]? =some (.int .i64 c):=by rw[←hCA];rfl
 have x8:CA[8]? =some (.slice p l.length k):=by rw[←hCA];rfl
 rw[hCA]at HR⊢
 have HO:=Lib.hid hO
 have XS:=Lib.hid (And.intro x0 (And.intro x6 (And.intro x7 x8)))
 have HG:=Lib.hid hG
 have HD:=Lib.hid hdim
 have HHR:=Lib.hid hr
 have fi:¬i<0:=by omega
 have fj:¬j<0:=by omega
 have f1:(r==1)=false:=by simpa using hr1
 have f2:(c==1)=true:=by simpa using hc1
 have hlb:l.length≤400:=by omega
 clear hCA hO x0 x6 x7 x8 hv hT hpl hdim hl hok hG hY hr ha hb
 go_enter Tryz.func22,Tryz.ntmps22
 go_wp2_with (first|refine wpList_alloc34 rfl rfl ?_|refine wpList_load34 rfl rfl rfl ((World.vb_new w CA).alloc _) HO.out.1 ?_)
 obtain⟨W,hW⟩:∃W,W=(w.alloc (.cells CA 34)).alloc (.cells vz 34):=⟨_,rfl⟩
 rw[←hW]
 have hvx:World.vb W w.heap.size CA:=by rw[hW];exact(World.vb_new w CA).alloc _
 have hvy:World.vb W (w.heap.size+1) vz:=by rw[hW];exact World.vb_new' _ _ _ (by simp)
 have hB:Below w.heap.size w W:=by rw[hW];exact((Below.refl _ w).alloc (Nat.le_refl _) _).alloc (by simp) _
 clear hW
 refine(HR.out _ hB hB.size).mono ?_
 rintro e2 w2 ⟨rfl,hB2⟩
 have hvx:=hvx.below hB2 hvx.lt
 have hvy:=hvy.below hB2 hvy.lt
 have hB:=hB.trans (hB2.mono hB.size)
 clear hB2 HR
 have c0:=hvx.cell XS.out.1
 have c6:=hvx.cell XS.out.2.1
 have c7:=hvx.cell XS.out.2.2.1
 have c8:=hvx.cell XS.out.2.2.2
 by_cases h1:r≤i
 ·have HN:Hid (Y=errV 7):=by show _=_;rw[HG.out,if_pos (by omega)]
  go_wp2_with fail
  refine(err_any 7 _).mono ?_
  rintro e3 w3 ⟨rfl,hB3⟩
  have hvy:=hvy.below hB3 hvy.lt
  have hB:=hB.trans (hB3.mono hB.size)
  clear hB3
  go_wp2_with (refine wpList_store34 rfl rfl rfl rfl hvy (by rfl) (pcs_one _) ?_;intro w9 hn9 hg9 hz9)
  refine bodyPost_ret (results_cell_row rfl _ _ _ 34 _ (0,0) _ rfl hn9 Tryz.underlying34 rfl info34) rfl ?_
  exact⟨by rw[HN.out],hB.grown hg9 hB.size (fun k9 hk9=>by cases hk9;omega)⟩
 have hq1:¬(r≤i∨c≤0):=by have:=HD.out;omega
 have hlt:=at_lt (r:=r) (c:=c) (i:=i) (j:=0) (by omega) (by omega) (by
  unfold atI
  rw[if_neg hr1,if_pos hc1]
  exact hq1)
 have hai:atI r i=i∧atI c 0=0:=by unfold atI;exact⟨if_neg hr1,if_pos hc1⟩
 rw[hai.1,hai.2]at hlt
 obtain⟨q,hq⟩:∃q:Nat,(i*c+0).toNat=q:=⟨_,rfl⟩
 have hqI:i*c+0=(q:Int):=by omega
 have hql:q<l.length:=by have:=HD.out;omega
 have HN:Hid (Y=l.getD q {}):=by show _=_;rw[HG.out,if_neg hq1,hq]
 obtain⟨g0,off,rfl,hcl⟩:=HLK.out q hql
 have HCL:=Lib.hid hcl
 have hO2:=pcs_one (l.getD q {})
 obtain⟨C2,hC2⟩:∃C2,pcs (l.getD q {})=C2:=⟨_,rfl⟩
 rw[hC2]at HCL hO2
 have HO2:=Lib.hid hO2
 have HC2:=Lib.hid hC2
 have hqlI:(q:Int)<(l.length:Int):=by omega
 have hm0:0≤i*c:=Int.mul_nonneg (by omega) (by have:=HD.out;omega)
 have hm1:i*c≤400:=by omega
 have hdr:=HD.out
 clear hcl hO2 hC2 hq1 hlt hai hq
 obtain⟨m1,hm⟩:∃m1,i*c=m1:=⟨_,rfl⟩
 rw[hm]at hqI hm0 hm1
 have hiq:i=(q:Int):=by rw[hc1]at hm;omega
 clear hqI hm
 have hrI:¬r≤i:=by omega
 have hcI:¬c≤0:=by omega
 clear hdr
 go_wp2_with (first|refine wpList_load34at rfl rfl rfl HO2.out.1 (HCL.out _ hB) ?_|(refine wpList_store34 rfl rfl rfl rfl hvy (by rfl) HO2.out ?_;intro w9 hn9 hg9 hz9))
 refine bodyPost_ret (results_cell_row rfl _ _ _ 34 _ (0,0) _ rfl hn9 Tryz.underlying34 rfl (by rw[HO2.out.1];exact info34)) rfl ?_
 exact⟨by rw[HN.out,HC2.out],hB.grown hg9 hB.size (fun k9 hk9=>by cases hk9;omega)⟩
set_option maxRecDepth 100000 in
set_option maxHeartbeats 8000000 in
theorem get_n (n:Nat) (r c i j:Int) (l:List Vl) (v:Value) (w:World) (hv:Rp w w.heap.size (n+2) (arrV r c l) v) (hr:rightV (n+2) (arrV r c l)=true) (hT:Lib.Utf8Tabs 0 1 w) (hi:0≤i) (hj:0≤j) (hr1:¬r=1) (hc1:¬c=1):
 Calls Tryz.prog 22 #[v,.int .i64 i,.int .i64 j] w (Gives (.agg (pcs (getV (n+2) (arrV r c l) i j))) w):=by
 have hdim:=(right_arr.1 hr).1
 have hpl:=(right_arr.1 hr).2
 have hG:=get_arr hr hi hj
 have ha:atI r i=i:=by unfold atI;rw[if_neg hr1]
 have hb:atI c j=j:=by unfold atI;rw[if_neg hc1]
 rw[ha,hb]at hG
 have HR:=Lib.hid (show ∀W,Below w.heap.size w W→w.heap.size≤W.heap.size→Calls Tryz.prog 27 #[v] W (Gives (.bool true) W)from fun W hW hz=>by
  have:=right27_any n _ v W (hv.below hW hz) (.arr hpl) (tabs_below hT hW)
  rw[hr]at this;exact this)
 obtain⟨p,k,rfl,hl,hok⟩:=arr_cells hv
 obtain⟨Y,hY⟩:∃Y,getV (n+2) (arrV r c l) i j=Y:=⟨_,rfl⟩
 rw[hY]at hG⊢
 have HLK:Hid (∀q:Nat,q<l.length→∃g0 off,p=some ⟨g0,off,none⟩∧∀W,Below w.heap.size w W→∀jj u,(pcs (l.getD q {}))[jj]? =some u→W.cell? ⟨g0,off+q*12+jj,none⟩=some u):=Lib.hid fun q hq=>by
  obtain⟨p',c',e,_,_,_,_,H⟩:=hl
  injection e with e1 _ _
  have hx:l[q]? =some (l.getD q {}):=by rw[List.getD_eq_getElem?_getD,List.getElem?_eq_getElem hq];rfl
  obtain⟨g0,off,cs,e2,hg0,hs,hr0,hc0⟩:=H q _ hx
  have:=plain_cells hr0 (hpl _ (List.mem_of_getElem? hx))
  injection this with this
  subst this
  exact⟨g0,off,e1.trans e2,fun W hW jj u hj=>(hW.cell (p:=⟨g0,_,none⟩) hg0).trans (hc0 jj u hj)⟩
 obtain⟨CA,hCA⟩:∃C,vcs (arrV r c l) (.slice p l.length k) nilS nilS=C:=⟨_,rfl⟩
 have hO:OneC CA:=by rw[←hCA];exact vcs_one _ _ _ _ _ _ _ _ _ _
 have x0:CA[0]? =some (.int .i64 5):=by rw[←hCA];rfl
 have x6:CA[6]? =some (.int .i64 r):=by rw[←hCA];rfl
 have x7:CA[7]? =some (.int .i64 c):=by rw[←hCA];rfl
 have x8:CA[8]? =some (.slice p l.length k):=by rw[←hCA];rfl
 rw[hCA]at HR⊢
 have HO:=Lib.hid hO
 have XS:=Lib.hid (And.intro x0 (And.intro x6 (And.intro x7 x8)))
 have HG:=Lib.hid hG
 have HD:=Lib.hid hdim
 have HHR:=Lib.hid hr
 have fi:¬i<0:=by omega
 have fj:¬j<0:=by omega
 have f1:(r==1)=false:=by simpa using hr1
 have f2:(c==1)=false:=by simpa using hc1
 have hlb:l.length≤400:=by omega
 clear hCA hO x0 x6 x7 x8 hv hT hpl hdim hl hok hG hY hr ha hb
 go_enter Tryz.func22,Tryz.ntmps22
 go_wp2_with (first|refine wpList_alloc34 rfl rfl ?_|refine wpList_load34 rfl rfl rfl ((World.vb_new w CA).alloc _) HO.out.1 ?_)
 obtain⟨W,hW⟩:∃W,W=(w.alloc (.cells CA 34)).alloc (.cells vz 34):=⟨_,rfl⟩
 rw[←hW]
 have hvx:World.vb W w.heap.size CA:=by rw[hW];exact(World.vb_new w CA).alloc _
 have hvy:World.vb W (w.heap.size+1) vz:=by rw[hW];exact World.vb_new' _ _ _ (by simp)
 have hB:Below w.heap.size w W:=by rw[hW];exact((Below.refl _ w).alloc (Nat.le_refl _) _).alloc (by simp) _
 clear hW
 refine(HR.out _ hB hB.size).mono ?_
 rintro e2 w2 ⟨rfl,hB2⟩
 have hvx:=hvx.below hB2 hvx.lt
 have hvy:=hvy.below hB2 hvy.lt
 have hB:=hB.trans (hB2.mono hB.size)
 clear hB2 HR
 have c0:=hvx.cell XS.out.1
 have c6:=hvx.cell XS.out.2.1
 have c7:=hvx.cell XS.out.2.2.1
 have c8:=hvx.cell XS.out.2.2.2
 by_cases h1:r≤i
 ·have HN:Hid (Y=errV 7):=by show _=_;rw[HG.out,if_pos (by omega)]
  go_wp2_with fail
  refine(err_any 7 _).mono ?_
  rintro e3 w3 ⟨rfl,hB3⟩
  have hvy:=hvy.below hB3 hvy.lt
  have hB:=hB.trans (hB3.mono hB.size)
  clear hB3
  go_wp2_with (refine wpList_store34 rfl rfl rfl rfl hvy (by rfl) (pcs_one _) ?_;intro w9 hn9 hg9 hz9)
  refine bodyPost_ret (results_cell_row rfl _ _ _ 34 _ (0,0) _ rfl hn9 Tryz.underlying34 rfl info34) rfl ?_
  exact⟨by rw[HN.out],hB.grown hg9 hB.size (fun k9 hk9=>by cases hk9;omega)⟩
 by_cases h2:c≤j
 ·have HN:Hid (Y=errV 7):=by show _=_;rw[HG.out,if_pos (by omega)]
  have hd1:=HD.out
  go_wp2_with fail
  refine(err_any 7 _).mono ?_
  rintro e3 w3 ⟨rfl,hB3⟩
  have hvy:=hvy.below hB3 hvy.lt
  have hB:=hB.trans (hB3.mono hB.size)
  clear hB3
  go_wp2_with (refine wpList_store34 rfl rfl rfl rfl hvy (by rfl) (pcs_one _) ?_;intro w9 hn9 hg9 hz9)
  refine bodyPost_ret (results_cell_row rfl _ _ _ 34 _ (0,0) _ rfl hn9 Tryz.underlying34 rfl info34) rfl ?_
  exact⟨by rw[HN.out],hB.grown hg9 hB.size (fun k9 hk9=>by cases hk9;omega)⟩
 have hq1:¬(r≤i∨c≤j):=by have:=HD.out;omega
 have hlt:=at_lt (r:=r) (c:=c) (i:=i) (j:=j) (by omega) (by omega) (by
  unfold atI
  rw[if_neg hr1,if_neg hc1]
  exact hq1)
 have hai:atI r i=i∧atI c j=j:=by unfold atI;exact⟨if_neg hr1,if_neg hc1⟩
 rw[hai.1,hai.2]at hlt
 obtain⟨q,hq⟩:∃q:Nat,(i*c+j).toNat=q:=⟨_,rfl⟩
 have hqI:i*c+j=(q:Int):=by omega
 have hql:q<l.length:=by have:=HD.out;omega
 have HN:Hid (Y=l.getD q {}):=by show _=_;rw[HG.out,if_neg hq1,hq]
 obtain⟨g0,off,rfl,hcl⟩:=HLK.out q hql
 have HCL:=Lib.hid hcl
 have hO2:=pcs_one (l.getD q {})
 obtain⟨C2,hC2⟩:∃C2,pcs (l.getD q {})=C2:=⟨_,rfl⟩
 rw[hC2]at HCL hO2
 have HO2:=Lib.hid hO2
 have HC2:=Lib.hid hC2
 have hqlI:(q:Int)<(l.length:Int):=by omega
 have hm0:0≤i*c:=Int.mul_nonneg (by omega) (by have:=HD.out;omega)
 have hm1:i*c≤400:=by omega
 have hdr:=HD.out
 clear hcl hO2 hC2 hq1 hlt hai hq
 obtain⟨m1,hm⟩:∃m1,i*c=m1:=⟨_,rfl⟩
 rw[hm]at hqI hm0 hm1
 have hrI:¬r≤i:=by omega
 have hcI:¬c≤j:=by omega
 clear hdr
 go_wp2_with (first|refine wpList_load34at rfl rfl rfl HO2.out.1 (HCL.out _ hB) ?_|(refine wpList_store34 rfl rfl rfl rfl hvy (by rfl) HO2.out ?_;intro w9 hn9 hg9 hz9))
 refine bodyPost_ret (results_cell_row rfl _ _ _ 34 _ (0,0) _ rfl hn9 Tryz.underlying34 rfl (by rw[HO2.out.1];exact info34)) rfl ?_
 exact⟨by rw[HN.out,HC2.out],hB.grown hg9 hB.size (fun k9 hk9=>by cases hk9;omega)⟩
theorem get_any (n:Nat) (r c i j:Int) (l:List Vl) (v:Value) (w:World) (hv:Rp w w.heap.size (n+2) (arrV r c l) v) (hr:rightV (n+2) (arrV r c l)=true) (hT:Lib.Utf8Tabs 0 1 w) (hi:0≤i) (hj:0≤j):
 Calls Tryz.prog 22 #[v,.int .i64 i,.int .i64 j] w (Gives (.agg (pcs (getV (n+2) (arrV r c l) i j))) w):=by
 by_cases hr1:r=1
 ·by_cases hc1:c=1
  ·exact get_rc n r c i j l v w hv hr hT hi hj hr1 hc1
  ·exact get_r n r c i j l v w hv hr hT hi hj hr1 hc1
 ·by_cases hc1:c=1
  ·exact get_c n r c i j l v w hv hr hT hi hj hr1 hc1
  ·exact get_n n r c i j l v w hv hr hT hi hj hr1 hc1
end Go.Proofs.YtkhohjdakcchdaaGreatDoor
