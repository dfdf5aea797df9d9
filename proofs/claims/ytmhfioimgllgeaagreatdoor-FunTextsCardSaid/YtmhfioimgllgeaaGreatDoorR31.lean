/- val.Make at what is no array; val.Get at arrays. (By genGet2.py.) -/
import Derived.Test.YtmhfioimgllgeaaGreatDoorR26
import Derived.Test.YtmhfioimgllgeaaGreatDoorR28
import Derived.Test.YtmhfioimgllgeaaGreatDoorR24
namespace Go.Proofs.YtmhfioimgllgeaaGreatDoor
open Go Go.RowKit Go.Shelf
set_option maxRecDepth 100000 in
set_option maxHeartbeats 8000000 in
theorem get_rc (n:Nat) (r c i j:Int) (l:List Vl) (v:Value) (w:World) (hv:Rp w w.heap.size (n+2) (arrV r c l) v) (hr:rightV (n+2) (arrV r c l)=true) (hT:Lib.Utf8Tabs 2 3 w) (hi:0≤i) (hj:0≤j) (hr1:r=1) (hc1:c=1):
 Calls Tryz.prog 98 #[v,.int .i64 i,.int .i64 j] w (Gives (.agg (pcs (getV (n+2) (arrV r c l) i j))) w):=by
 have hdim:=(right_arr.1 hr).1
 have hpl:=(right_arr.1 hr).2
 have hG:=get_arr hr hi hj
 have ha:atI r i=0:=by unfold atI;rw[if_pos hr1]
 have hb:atI c j=0:=by unfold atI;rw[if_pos hc1]
 rw[ha,hb]at hG
 have HR:=Lib.hid (show ∀W,Below w.heap.size w W→w.heap.size≤W.heap.size→Calls Tryz.prog 19 #[v] W (Gives (.bool true) W)from fun W hW hz=>by
  have:=right27_any n _ v W (hv.below hW hz) (.arr hpl) (tabs_below hT hW)
  rw[hr]at this;exact this)
 obtain⟨p,k,rfl,hl,hok⟩:=arr_cells hv
 obtain⟨Y,hY⟩:∃Y,getV (n+2) (arrV r c l) i j=Y:=⟨_,rfl⟩
 rw[hY]at hG⊢
 have HLK:Hid (∀q:Nat,q<l.length→∃g0 off,p=some ⟨g0,off,none⟩∧∀W,Below w.heap.size w W→∀jj u,(pcs (l.getD q {}))[jj]? =some u→W.cell? ⟨g0,off+q*12+jj,none⟩=some u):=Lib.hid fun q hq=>by
  obtain⟨p',c',e,_,_,_,_,H⟩:=hl
  injection e with e1 _ _
  have hx:l[q]? =some (l.getD q {}):=by rw[List.getD_eq_getElem?_getD,List.getElem?_eq_getElem hq];rfl
  obtain⟨g0,off,cs,e2,hg0,hs,hr0,hc0⟩:=H q _ hx
  have:=plain_cells hr0 (hpl _ (List.mem_of_getElem? hx))
  injection this with this
  subst this
  exact⟨g0,off,e1.trans e2,fun W hW jj u hj=>(hW.cell (p:=⟨g0,_,none⟩) hg0).trans (hc0 jj u hj)⟩
 obtain⟨CA,hCA⟩:∃C,vcs (arrV r c l) (.slice p l.length k) nilS nilS=C:=⟨_,rfl⟩
 have hO:OneC CA:=by rw[←hCA];exact vcs_one _ _ _ _ _ _ _ _ _ _
 have x0:CA[0]? =some (.int .i64 5):=by rw[←hCA];rfl
 have x6:CA[6]? =some (.int .i64 r):=by rw[←hCA];rfl
 have x7:CA[7]? =some (.int .i64 c):=by rw[←hCA];rfl
 have x8:CA[8]? =some (.slice p l.length k):=by rw[←hCA];rfl
 rw[hCA]at HR⊢
 have HO:=Lib.hid hO
 have XS:=Lib.hid (And.intro x0 (And.intro x6 (And.intro x7 x8)))
 have HG:=Lib.hid hG
 have HD:=Lib.hid hdim
 have HHR:=Lib.hid hr
 have fi:¬i<0:=by omega
 have fj:¬j<0:=by omega
 have f1:(r==1)=true:=by simpa using hr1
 have f2:(c==1)=true:=by simpa using hc1
 have hlb:l.length≤400:=by omega
 clear hCA hO x0 x6 x7 x8 hv hT hpl hdim hl hok hG hY hr ha hb
 go_enter Tryz.func98,Tryz.ntmps98
 go_wp2_with (first|refine wpList_alloc34 rfl rfl ?_|refine wpList_load34 rfl rfl rfl ((World.vb_new w CA).alloc _) HO.out.1 ?_)
 obtain⟨W,hW⟩:∃W,W=(w.alloc (.cells CA 39)).alloc (.cells vz 39):=⟨_,rfl⟩
 rw[←hW]
 have hvx:World.vb W w.heap.size CA:=by rw[hW];exact(World.vb_new w CA).alloc _
 have hvy:World.vb W (w.heap.size+1) vz:=by rw[hW];exact World.vb_new' _ _ _ (by simp)
 have hB:Below w.heap.size w W:=by rw[hW];exact((Below.refl _ w).alloc (Nat.le_refl _) _).alloc (by simp) _
 clear hW
 refine(HR.out _ hB hB.size).mono ?_
 rintro e2 w2 ⟨rfl,hB2⟩
 have hvx:=hvx.below hB2 hvx.lt
 have hvy:=hvy.below hB2 hvy.lt
 have hB:=hB.trans (hB2.mono hB.size)
 clear hB2 HR
 have c0:=hvx.cell XS.out.1
 have c6:=hvx.cell XS.out.2.1
 have c7:=hvx.cell XS.out.2.2.1
 have c8:=hvx.cell XS.out.2.2.2
 have hq1:¬(r≤0∨c≤0):=by have:=HD.out;omega
 have hlt:=at_lt (r:=r) (c:=c) (i:=0) (j:=0) (by omega) (by omega) (by
  unfold atI
  rw[if_pos hr1,if_pos hc1]
  exact hq1)
 have hai:atI r 0=0∧atI c 0=0:=by unfold atI;exact⟨if_pos hr1,if_pos hc1⟩
 rw[hai.1,hai.2]at hlt
 obtain⟨q,hq⟩:∃q:Nat,(0*c+0).toNat=q:=⟨_,rfl⟩
 have hqK:0*c+0=(q:Int):=by omega
 have hql:q<l.length:=by have:=HD.out;omega
 have HN:Hid (Y=l.getD q {}):=by show _=_;rw[HG.out,if_neg hq1,hq]
 obtain⟨g0,off,rfl,hcl⟩:=HLK.out q hql
 have HCL:=Lib.hid hcl
 have hO2:=pcs_one (l.getD q {})
 obtain⟨C2,hC2⟩:∃C2,pcs (l.getD q {})=C2:=⟨_,rfl⟩
 rw[hC2]at HCL hO2
 have HO2:=Lib.hid hO2
 have HC2:=Lib.hid hC2
 have hqlI:(0:Int)<(l.length:Int):=by omega
 have hm0:0≤0*c:=Int.mul_nonneg (by omega) (by have:=HD.out;omega)
 have hm1:0*c≤400:=by omega
 have hdr:=HD.out
 clear hcl hO2 hC2 hq1 hlt hai hq
 have hrI:¬r≤0:=by omega
 have hcI:¬c≤0:=by omega
 have hq0:q=0:=by omega
 clear hqK hm0 hm1
 subst hq0
 clear hdr
 go_wp2_with (first|refine wpList_load34at rfl rfl rfl HO2.out.1 (HCL.out _ hB) ?_|(refine wpList_store34 rfl rfl rfl rfl hvy (by rfl) HO2.out ?_;intro w9 hn9 hg9 hz9))
 refine bodyPost_ret (results_cell_row rfl _ _ _ 39 _ (0,0) _ rfl hn9 Tryz.underlying39 rfl (by rw[HO2.out.1];exact info34)) rfl ?_
 exact⟨by rw[HN.out,HC2.out],hB.grown hg9 hB.size (fun k9 hk9=>by cases hk9;omega)⟩
set_option maxRecDepth 100000 in
set_option maxHeartbeats 8000000 in
theorem get_r (n:Nat) (r c i j:Int) (l:List Vl) (v:Value) (w:World) (hv:Rp w w.heap.size (n+2) (arrV r c l) v) (hr:rightV (n+2) (arrV r c l)=true) (hT:Lib.Utf8Tabs 2 3 w) (hi:0≤i) (hj:0≤j) (hr1:r=1) (hc1:¬c=1):
 Calls Tryz.prog 98 #[v,.int .i64 i,.int .i64 j] w (Gives (.agg (pcs (getV (n+2) (arrV r c l) i j))) w):=by
 have hdim:=(right_arr.1 hr).1
 have hpl:=(right_arr.1 hr).2
 have hG:=get_arr hr hi hj
 have ha:atI r i=0:=by unfold atI;rw[if_pos hr1]
 have hb:atI c j=j:=by unfold atI;rw[if_neg hc1]
 rw[ha,hb]at hG
 have HR:=Lib.hid (show ∀W,Below w.heap.size w W→w.heap.size≤W.heap.size→Calls Tryz.prog 19 #[v] W (Gives (.bool true) W)from fun W hW hz=>by
  have:=right27_any n _ v W (hv.below hW hz) (.arr hpl) (tabs_below hT hW)
  rw[hr]at this;exact this)
 obtain⟨p,k,rfl,hl,hok⟩:=arr_cells hv
 obtain⟨Y,hY⟩:∃Y,getV (n+2) (arrV r c l) i j=Y:=⟨_,rfl⟩
 rw[hY]at hG⊢
 have HLK:Hid (∀q:Nat,q<l.length→∃g0 off,p=some ⟨g0,off,none⟩∧∀W,Below w.heap.size w W→∀jj u,(pcs (l.getD q {}))[jj]? =some u→W.cell? ⟨g0,off+q*12+jj,none⟩=some u):=Lib.hid fun q hq=>by
  obtain⟨p',c',e,_,_,_,_,H⟩:=hl
  injection e with e1 _ _
  have hx:l[q]? =some (l.getD q {}):=by rw[List.getD_eq_getElem?_getD,List.getElem?_eq_getElem hq];rfl
  obtain⟨g0,off,cs,e2,hg0,hs,hr0,hc0⟩:=H q _ hx
  have:=plain_cells hr0 (hpl _ (List.mem_of_getElem? hx))
  injection this with this
  subst this
  exact⟨g0,off,e1.trans e2,fun W hW jj u hj=>(hW.cell (p:=⟨g0,_,none⟩) hg0).trans (hc0 jj u hj)⟩
 obtain⟨CA,hCA⟩:∃C,vcs (arrV r c l) (.slice p l.length k) nilS nilS=C:=⟨_,rfl⟩
 have hO:OneC CA:=by rw[←hCA];exact vcs_one _ _ _ _ _ _ _ _ _ _
 have x0:CA[0]? =some (.int .i64 5):=by rw[←hCA];rfl
 have x6:CA[6]? =some (.int .i64 r):=by rw[←hCA];rfl
 have x7:CA[7]? =some (.int .i64 c):=by rw[←hCA];rfl
 have x8:CA[8]? =some (.slice p l.length k):=by rw[←hCA];rfl
 rw[hCA]at HR⊢
 have HO:=Lib.hid hO
 have XS:=Lib.hid (And.intro x0 (And.intro x6 (And.intro x7 x8)))
 have HG:=Lib.hid hG
 have HD:=Lib.hid hdim
 have HHR:=Lib.hid hr
 have fi:¬i<0:=by omega
 have fj:¬j<0:=by omega
 have f1:(r==1)=true:=by simpa using hr1
 have f2:(c==1)=false:=by simpa using hc1
 have hlb:l.length≤400:=by omega
 clear hCA hO x0 x6 x7 x8 hv hT hpl hdim hl hok hG hY hr ha hb
 go_enter Tryz.func98,Tryz.ntmps98
 go_wp2_with (first|refine wpList_alloc34 rfl rfl ?_|refine wpList_load34 rfl rfl rfl ((World.vb_new w CA).alloc _) HO.out.1 ?_)
 obtain⟨W,hW⟩:∃W,W=(w.alloc (.cells CA 39)).alloc (.cells vz 39):=⟨_,rfl⟩
 rw[←hW]
 have hvx:World.vb W w.heap.size CA:=by rw[hW];exact(World.vb_new w CA).alloc _
 have hvy:World.vb W (w.heap.size+1) vz:=by rw[hW];exact World.vb_new' _ _ _ (by simp)
 have hB:Below w.heap.size w W:=by rw[hW];exact((Below.refl _ w).alloc (Nat.le_refl _) _).alloc (by simp) _
 clear hW
 refine(HR.out _ hB hB.size).mono ?_
 rintro e2 w2 ⟨rfl,hB2⟩
 have hvx:=hvx.below hB2 hvx.lt
 have hvy:=hvy.below hB2 hvy.lt
 have hB:=hB.trans (hB2.mono hB.size)
 clear hB2 HR
 have c0:=hvx.cell XS.out.1
 have c6:=hvx.cell XS.out.2.1
 have c7:=hvx.cell XS.out.2.2.1
 have c8:=hvx.cell XS.out.2.2.2
 by_cases h2:c≤j
 ·have HN:Hid (Y=errV 7):=by show _=_;rw[HG.out,if_pos (by omega)]
  have hd1:=HD.out
  go_wp2_with fail
  refine(err_any 7 _).mono ?_
  rintro e3 w3 ⟨rfl,hB3⟩
  have hvy:=hvy.below hB3 hvy.lt
  have hB:=hB.trans (hB3.mono hB.size)
  clear hB3
  go_wp2_with (refine wpList_store34 rfl rfl rfl rfl hvy (by rfl) (pcs_one _) ?_;intro w9 hn9 hg9 hz9)
  refine bodyPost_ret (results_cell_row rfl _ _ _ 39 _ (0,0) _ rfl hn9 Tryz.underlying39 rfl info34) rfl ?_
  exact⟨by rw[HN.out],hB.grown hg9 hB.size (fun k9 hk9=>by cases hk9;omega)⟩
 have hq1:¬(r≤0∨c≤j):=by have:=HD.out;omega
 have hlt:=at_lt (r:=r) (c:=c) (i:=0) (j:=j) (by omega) (by omega) (by
  unfold atI
  rw[if_pos hr1,if_neg hc1]
  exact hq1)
 have hai:atI r 0=0∧atI c j=j:=by unfold atI;exact⟨if_pos hr1,if_neg hc1⟩
 rw[hai.1,hai.2]at hlt
 obtain⟨q,hq⟩:∃q:Nat,(0*c+j).toNat=q:=⟨_,rfl⟩
 have hqI:0*c+j=(q:Int):=by omega
 have hql:q<l.length:=by have:=HD.out;omega
 have HN:Hid (Y=l.getD q {}):=by show _=_;rw[HG.out,if_neg hq1,hq]
 obtain⟨g0,off,rfl,hcl⟩:=HLK.out q hql
 have HCL:=Lib.hid hcl
 have hO2:=pcs_one (l.getD q {})
 obtain⟨C2,hC2⟩:∃C2,pcs (l.getD q {})=C2:=⟨_,rfl⟩
 rw[hC2]at HCL hO2
 have HO2:=Lib.hid hO2
 have HC2:=Lib.hid hC2
 have hqlI:(q:Int)<(l.length:Int):=by omega
 have hm0:0≤0*c:=Int.mul_nonneg (by omega) (by have:=HD.out;omega)
 have hm1:0*c≤400:=by omega
 have hdr:=HD.out
 clear hcl hO2 hC2 hq1 hlt hai hq
 have hqI:j=(q:Int):=by omega
 have hrI:¬r≤0:=by omega
 have hcI:¬c≤j:=by omega
 clear hdr
 go_wp2_with (first|refine wpList_load34at rfl rfl rfl HO2.out.1 (HCL.out _ hB) ?_|(refine wpList_store34 rfl rfl rfl rfl hvy (by rfl) HO2.out ?_;intro w9 hn9 hg9 hz9))
 refine bodyPost_ret (results_cell_row rfl _ _ _ 39 _ (0,0) _ rfl hn9 Tryz.underlying39 rfl (by rw[HO2.out.1];exact info34)) rfl ?_
 exact⟨by rw[HN.out,HC2.out],hB.grown hg9 hB.size (fun k9 hk9=>by cases hk9;omega)⟩
set_option maxRecDepth 100000 in
set_option maxHeartbeats 8000000 in
theorem get_c (n:Nat) (r c i j:Int) (l:List Vl) (v:Value) (w:World) (hv:Rp w w.heap.size (n+2) (arrV r c l) v) (hr:rightV (n+2) (arrV r c l)=true) (hT:Lib.Utf8Tabs 2 3 w) (hi:0≤i) (hj:0≤j) (hr1:¬r=1) (hc1:c=1):
 Calls Tryz.prog 98 #[v,.int .i64 i,.int .i64 j] w (Gives (.agg (pcs (getV (n+2) (arrV r c l) i j))) w):=by
 have hdim:=(right_arr.1 hr).1
 have hpl:=(right_arr.1 hr).2
 have hG:=get_arr hr hi hj
 have ha:atI r i=i:=by unfold atI;rw[if_neg hr1]
 have hb:atI c j=0:=by unfold atI;rw[if_pos hc1]
 rw[ha,hb]at hG
 have HR:=Lib.hid (show ∀W,Below w.heap.size w W→w.heap.size≤W.heap.size→Calls Tryz.prog 19 #[v] W (Gives (.bool true) W)from fun W hW hz=>by
  have:=right27_any n _ v W (hv.below hW hz) (.arr hpl) (tabs_below hT hW)
  rw[hr]at this;exact this)
 obtain⟨p,k,rfl,hl,hok⟩:=arr_cells hv
 obtain⟨Y,hY⟩:∃Y,getV (n+2) (arrV r c l) i j=Y:=⟨_,rfl⟩
 rw[hY]at hG⊢
 have HLK:Hid (∀q:Nat,q<l.length→∃g0 off,p=some ⟨g0,off,none⟩∧∀W,Below w.heap.size w W→∀jj u,(pcs (l.getD q {}))[jj]? =some u→W.cell? ⟨g0,off+q*12+jj,none⟩=some u):=Lib.hid fun q hq=>by
  obtain⟨p',c',e,_,_,_,_,H⟩:=hl
  injection e with e1 _ _
  have hx:l[q]? =some (l.getD q {}):=by rw[List.getD_eq_getElem?_getD,List.getElem?_eq_getElem hq];rfl
  obtain⟨g0,off,cs,e2,hg0,hs,hr0,hc0⟩:=H q _ hx
  have:=plain_cells hr0 (hpl _ (List.mem_of_getElem? hx))
  injection this with this
  subst this
  exact⟨g0,off,e1.trans e2,fun W hW jj u hj=>(hW.cell (p:=⟨g0,_,none⟩) hg0).trans (hc0 jj u hj)⟩
 obtain⟨CA,hCA⟩:∃C,vcs (arrV r c l) (.slice p l.length k) nilS nilS=C:=⟨_,rfl⟩
 have hO:OneC CA:=by rw[←hCA];exact vcs_one _ _ _ _ _ _ _ _ _ _
 have x0:CA[0]? =some (.int .i64 5):=by rw[←hCA];rfl
 have x6:CA[6]? =some (.int .i64 r):=by rw[←hCA];rfl
 have x7:CA[7]? =some (.int .i64 c):=by rw[←hCA];rfl
 have x8:CA[8]? =some (.slice p l.length k):=by rw[←hCA];rfl
 rw[hCA]at HR⊢
 have HO:=Lib.hid hO
 have XS:=Lib.hid (And.intro x0 (And.intro x6 (And.intro x7 x8)))
 have HG:=Lib.hid hG
 have HD:=Lib.hid hdim
 have HHR:=Lib.hid hr
 have fi:¬i<0:=by omega
 have fj:¬j<0:=by omega
 have f1:(r==1)=false:=by simpa using hr1
 have f2:(c==1)=true:=by simpa using hc1
 have hlb:l.length≤400:=by omega
 clear hCA hO x0 x6 x7 x8 hv hT hpl hdim hl hok hG hY hr ha hb
 go_enter Tryz.func98,Tryz.ntmps98
 go_wp2_with (first|refine wpList_alloc34 rfl rfl ?_|refine wpList_load34 rfl rfl rfl ((World.vb_new w CA).alloc _) HO.out.1 ?_)
 obtain⟨W,hW⟩:∃W,W=(w.alloc (.cells CA 39)).alloc (.cells vz 39):=⟨_,rfl⟩
 rw[←hW]
 have hvx:World.vb W w.heap.size CA:=by rw[hW];exact(World.vb_new w CA).alloc _
 have hvy:World.vb W (w.heap.size+1) vz:=by rw[hW];exact World.vb_new' _ _ _ (by simp)
 have hB:Below w.heap.size w W:=by rw[hW];exact((Below.refl _ w).alloc (Nat.le_refl _) _).alloc (by simp) _
 clear hW
 refine(HR.out _ hB hB.size).mono ?_
 rintro e2 w2 ⟨rfl,hB2⟩
 have hvx:=hvx.below hB2 hvx.lt
 have hvy:=hvy.below hB2 hvy.lt
 have hB:=hB.trans (hB2.mono hB.size)
 clear hB2 HR
 have c0:=hvx.cell XS.out.1
 have c6:=hvx.cell XS.out.2.1
 have c7:=hvx.cell XS.out.2.2.1
 have c8:=hvx.cell XS.out.2.2.2
 by_cases h1:r≤i
 ·have HN:Hid (Y=errV 7):=by show _=_;rw[HG.out,if_pos (by omega)]
  go_wp2_with fail
  refine(err_any 7 _).mono ?_
  rintro e3 w3 ⟨rfl,hB3⟩
  have hvy:=hvy.below hB3 hvy.lt
  have hB:=hB.trans (hB3.mono hB.size)
  clear hB3
  go_wp2_with (refine wpList_store34 rfl rfl rfl rfl hvy (by rfl) (pcs_one _) ?_;intro w9 hn9 hg9 hz9)
  refine bodyPost_ret (results_cell_row rfl _ _ _ 39 _ (0,0) _ rfl hn9 Tryz.underlying39 rfl info34) rfl ?_
  exact⟨by rw[HN.out],hB.grown hg9 hB.size (fun k9 hk9=>by cases hk9;omega)⟩
 have hq1:¬(r≤i∨c≤0):=by have:=HD.out;omega
 have hlt:=at_lt (r:=r) (c:=c) (i:=i) (j:=0) (by omega) (by omega) (by
  unfold atI
  rw[if_neg hr1,if_pos hc1]
  exact hq1)
 have hai:atI r i=i∧atI c 0=0:=by unfold atI;exact⟨if_neg hr1,if_pos hc1⟩
 rw[hai.1,hai.2]at hlt
 obtain⟨q,hq⟩:∃q:Nat,(i*c+0).toNat=q:=⟨_,rfl⟩
 have hqI:i*c+0=(q:Int):=by omega
 have hql:q<l.length:=by have:=HD.out;omega
 have HN:Hid (Y=l.getD q {}):=by show _=_;rw[HG.out,if_neg hq1,hq]
 obtain⟨g0,off,rfl,hcl⟩:=HLK.out q hql
 have HCL:=Lib.hid hcl
 have hO2:=pcs_one (l.getD q {})
 obtain⟨C2,hC2⟩:∃C2,pcs (l.getD q {})=C2:=⟨_,rfl⟩
 rw[hC2]at HCL hO2
 have HO2:=Lib.hid hO2
 have HC2:=Lib.hid hC2
 have hqlI:(q:Int)<(l.length:Int):=by omega
 have hm0:0≤i*c:=Int.mul_nonneg (by omega) (by have:=HD.out;omega)
 have hm1:i*c≤400:=by omega
 have hdr:=HD.out
 clear hcl hO2 hC2 hq1 hlt hai hq
 obtain⟨m1,hm⟩:∃m1,i*c=m1:=⟨_,rfl⟩
 rw[hm]at hqI hm0 hm1
 have hiq:i=(q:Int):=by rw[hc1]at hm;omega
 clear hqI hm
 have hrI:¬r≤i:=by omega
 have hcI:¬c≤0:=by omega
 clear hdr
 go_wp2_with (first|refine wpList_load34at rfl rfl rfl HO2.out.1 (HCL.out _ hB) ?_|(refine wpList_store34 rfl rfl rfl rfl hvy (by rfl) HO2.out ?_;intro w9 hn9 hg9 hz9))
 refine bodyPost_ret (results_cell_row rfl _ _ _ 39 _ (0,0) _ rfl hn9 Tryz.underlying39 rfl (by rw[HO2.out.1];exact info34)) rfl ?_
 exact⟨by rw[HN.out,HC2.out],hB.grown hg9 hB.size (fun k9 hk9=>by cases hk9;omega)⟩
set_option maxRecDepth 100000 in
set_option maxHeartbeats 8000000 in
theorem get_n (n:Nat) (r c i j:Int) (l:List Vl) (v:Value) (w:World) (hv:Rp w w.heap.size (n+2) (arrV r c l) v) (hr:rightV (n+2) (arrV r c l)=true) (hT:Lib.Utf8Tabs 2 3 w) (hi:0≤i) (hj:0≤j) (hr1:¬r=1) (hc1:¬c=1):
 Calls Tryz.prog 98 #[v,.int .i64 i,.int .i64 j] w (Gives (.agg (pcs (getV (n+2) (arrV r c l) i j))) w):=by
 have hdim:=(right_arr.1 hr).1
 have hpl:=(right_arr.1 hr).2
 have hG:=get_arr hr hi hj
 have ha:atI r i=i:=by unfold atI;rw[if_neg hr1]
 have hb:atI c j=j:=by unfold atI;rw[if_neg hc1]
 rw[ha,hb]at hG
 have HR:=Lib.hid (show ∀W,Below w.heap.size w W→w.heap.size≤W.heap.size→Calls Tryz.prog 19 #[v] W (Gives (.bool true) W)from fun W hW hz=>by
  have:=right27_any n _ v W (hv.below hW hz) (.arr hpl) (tabs_below hT hW)
  rw[hr]at this;exact this)
 obtain⟨p,k,rfl,hl,hok⟩:=arr_cells hv
 obtain⟨Y,hY⟩:∃Y,getV (n+2) (arrV r c l) i j=Y:=⟨_,rfl⟩
 rw[hY]at hG⊢
 have HLK:Hid (∀q:Nat,q<l.length→∃g0 off,p=some ⟨g0,off,none⟩∧∀W,Below w.heap.size w W→∀jj u,(pcs (l.getD q {}))[jj]? =some u→W.cell? ⟨g0,off+q*12+jj,none⟩=some u):=Lib.hid fun q hq=>by
  obtain⟨p',c',e,_,_,_,_,H⟩:=hl
  injection e with e1 _ _
  have hx:l[q]? =some (l.getD q {}):=by rw[List.getD_eq_getElem?_getD,List.getElem?_eq_getElem hq];rfl
  obtain⟨g0,off,cs,e2,hg0,hs,hr0,hc0⟩:=H q _ hx
  have:=plain_cells hr0 (hpl _ (List.mem_of_getElem? hx))
  injection this with this
  subst this
  exact⟨g0,off,e1.trans e2,fun W hW jj u hj=>(hW.cell (p:=⟨g0,_,none⟩) hg0).trans (hc0 jj u hj)⟩
 obtain⟨CA,hCA⟩:∃C,vcs (arrV r c l) (.slice p l.length k) nilS nilS=C:=⟨_,rfl⟩
 have hO:OneC CA:=by rw[←hCA];exact vcs_one _ _ _ _ _ _ _ _ _ _
 have x0:CA[0]? =some (.int .i64 5):=by rw[←hCA];rfl
 have x6:CA[6]? =some (.int .i64 r):=by rw[←hCA];rfl
 have x7:CA[7]? =some (.int .i64 c):=by rw[←hCA];rfl
 have x8:CA[8]? =some (.slice p l.length k):=by rw[←hCA];rfl
 rw[hCA]at HR⊢
 have HO:=Lib.hid hO
 have XS:=Lib.hid (And.intro x0 (And.intro x6 (And.intro x7 x8)))
 have HG:=Lib.hid hG
 have HD:=Lib.hid hdim
 have HHR:=Lib.hid hr
 have fi:¬i<0:=by omega
 have fj:¬j<0:=by omega
 have f1:(r==1)=false:=by simpa using hr1
 have f2:(c==1)=false:=by simpa using hc1
 have hlb:l.length≤400:=by omega
 clear hCA hO x0 x6 x7 x8 hv hT hpl hdim hl hok hG hY hr ha hb
 go_enter Tryz.func98,Tryz.ntmps98
 go_wp2_with (first|refine wpList_alloc34 rfl rfl ?_|refine wpList_load34 rfl rfl rfl ((World.vb_new w CA).alloc _) HO.out.1 ?_)
 obtain⟨W,hW⟩:∃W,W=(w.alloc (.cells CA 39)).alloc (.cells vz 39):=⟨_,rfl⟩
 rw[←hW]
 have hvx:World.vb W w.heap.size CA:=by rw[hW];exact(World.vb_new w CA).alloc _
 have hvy:World.vb W (w.heap.size+1) vz:=by rw[hW];exact World.vb_new' _ _ _ (by simp)
 have hB:Below w.heap.size w W:=by rw[hW];exact((Below.refl _ w).alloc (Nat.le_refl _) _).alloc (by simp) _
 clear hW
 refine(HR.out _ hB hB.size).mono ?_
 rintro e2 w2 ⟨rfl,hB2⟩
 have hvx:=hvx.below hB2 hvx.lt
 have hvy:=hvy.below hB2 hvy.lt
 have hB:=hB.trans (hB2.mono hB.size)
 clear hB2 HR
 have c0:=hvx.cell XS.out.1
 have c6:=hvx.cell XS.out.2.1
 have c7:=hvx.cell XS.out.2.2.1
 have c8:=hvx.cell XS.out.2.2.2
 by_cases h1:r≤i
 ·have HN:Hid (Y=errV 7):=by show _=_;rw[HG.out,if_pos (by omega)]
  go_wp2_with fail
  refine(err_any 7 _).mono ?_
  rintro e3 w3 ⟨rfl,hB3⟩
  have hvy:=hvy.below hB3 hvy.lt
  have hB:=hB.trans (hB3.mono hB.size)
  clear hB3
  go_wp2_with (refine wpList_store34 rfl rfl rfl rfl hvy (by rfl) (pcs_one _) ?_;intro w9 hn9 hg9 hz9)
  refine bodyPost_ret (results_cell_row rfl _ _ _ 39 _ (0,0) _ rfl hn9 Tryz.underlying39 rfl info34) rfl ?_
  exact⟨by rw[HN.out],hB.grown hg9 hB.size (fun k9 hk9=>by cases hk9;omega)⟩
 by_cases h2:c≤j
 ·have HN:Hid (Y=errV 7):=by show _=_;rw[HG.out,if_pos (by omega)]
  have hd1:=HD.out
  go_wp2_with fail
  refine(err_any 7 _).mono ?_
  rintro e3 w3 ⟨rfl,hB3⟩
  have hvy:=hvy.below hB3 hvy.lt
  have hB:=hB.trans (hB3.mono hB.size)
  clear hB3
  go_wp2_with (refine wpList_store34 rfl rfl rfl rfl hvy (by rfl) (pcs_one _) ?_;intro w9 hn9 hg9 hz9)
  refine bodyPost_ret (results_cell_row rfl _ _ _ 39 _ (0,0) _ rfl hn9 Tryz.underlying39 rfl info34) rfl ?_
  exact⟨by rw[HN.out],hB.grown hg9 hB.size (fun k9 hk9=>by cases hk9;omega)⟩
 have hq1:¬(r≤i∨c≤j):=by have:=HD.out;omega
 have hlt:=at_lt (r:=r) (c:=c) (i:=i) (j:=j) (by omega) (by omega) (by
  unfold atI
  rw[if_neg hr1,if_neg hc1]
  exact hq1)
 have hai:atI r i=i∧atI c j=j:=by unfold atI;exact⟨if_neg hr1,if_neg hc1⟩
 rw[hai.1,hai.2]at hlt
 obtain⟨q,hq⟩:∃q:Nat,(i*c+j).toNat=q:=⟨_,rfl⟩
 have hqI:i*c+j=(q:Int):=by omega
 have hql:q<l.length:=by have:=HD.out;omega
 have HN:Hid (Y=l.getD q {}):=by show _=_;rw[HG.out,if_neg hq1,hq]
 obtain⟨g0,off,rfl,hcl⟩:=HLK.out q hql
 have HCL:=Lib.hid hcl
 have hO2:=pcs_one (l.getD q {})
 obtain⟨C2,hC2⟩:∃C2,pcs (l.getD q {})=C2:=⟨_,rfl⟩
 rw[hC2]at HCL hO2
 have HO2:=Lib.hid hO2
 have HC2:=Lib.hid hC2
 have hqlI:(q:Int)<(l.length:Int):=by omega
 have hm0:0≤i*c:=Int.mul_nonneg (by omega) (by have:=HD.out;omega)
 have hm1:i*c≤400:=by omega
 have hdr:=HD.out
 clear hcl hO2 hC2 hq1 hlt hai hq
 obtain⟨m1,hm⟩:∃m1,i*c=m1:=⟨_,rfl⟩
 rw[hm]at hqI hm0 hm1
 have hrI:¬r≤i:=by omega
 have hcI:¬c≤j:=by omega
 clear hdr
 go_wp2_with (first|refine wpList_load34at rfl rfl rfl HO2.out.1 (HCL.out _ hB) ?_|(refine wpList_store34 rfl rfl rfl rfl hvy (by rfl) HO2.out ?_;intro w9 hn9 hg9 hz9))
 refine bodyPost_ret (results_cell_row rfl _ _ _ 39 _ (0,0) _ rfl hn9 Tryz.underlying39 rfl (by rw[HO2.out.1];exact info34)) rfl ?_
 exact⟨by rw[HN.out,HC2.out],hB.grown hg9 hB.size (fun k9 hk9=>by cases hk9;omega)⟩
theorem get_any (n:Nat) (r c i j:Int) (l:List Vl) (v:Value) (w:World) (hv:Rp w w.heap.size (n+2) (arrV r c l) v) (hr:rightV (n+2) (arrV r c l)=true) (hT:Lib.Utf8Tabs 2 3 w) (hi:0≤i) (hj:0≤j):
 Calls Tryz.prog 98 #[v,.int .i64 i,.int .i64 j] w (Gives (.agg (pcs (getV (n+2) (arrV r c l) i j))) w):=by
 by_cases hr1:r=1
 ·by_cases hc1:c=1
  ·exact get_rc n r c i j l v w hv hr hT hi hj hr1 hc1
  ·exact get_r n r c i j l v w hv hr hT hi hj hr1 hc1
 ·by_cases hc1:c=1
  ·exact get_c n r c i j l v w hv hr hT hi hj hr1 hc1
  ·exact get_n n r c i j l v w hv hr hT hi hj hr1 hc1
end Go.Proofs.YtmhfioimgllgeaaGreatDoor
