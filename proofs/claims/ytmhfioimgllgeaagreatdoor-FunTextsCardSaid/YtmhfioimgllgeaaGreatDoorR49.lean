/- Merged: Sm2, Exs, Fcl, Dcn, Dct. -/
import Derived.Test.YtmhfioimgllgeaaGreatDoorR01
import Derived.Test.YtmhfioimgllgeaaGreatDoorR43
import Derived.Test.YtmhfioimgllgeaaGreatDoorR21
import Derived.Test.YtmhfioimgllgeaaGreatDoorR46
import Derived.Test.YtmhfioimgllgeaaGreatDoorR44
import Derived.Test.YtmhfioimgllgeaaGreatDoorR22
import Derived.Test.YtmhfioimgllgeaaGreatDoorR15
import Derived.Test.YtmhfioimgllgeaaGreatDoorR08
import Derived.Test.YtmhfioimgllgeaaGreatDoorR37
import Derived.Test.YtmhfioimgllgeaaGreatDoorR12
import Derived.Test.YtmhfioimgllgeaaGreatDoorR05
import Derived.Test.YtmhfioimgllgeaaGreatDoorR35
import Derived.Deep.DeepCutAuto
import Derived.RegionTactic
import Derived.ChangeAlike
namespace Go.Proofs.YtmhfioimgllgeaaGreatDoor
open Go Go.RowKit Go.Shelf Go.Maps
set_option maxHeartbeats 1000000 in
theorem text24_any (s:ByteArray) (w:World):Calls Tryz.prog 24 #[.string s] w (Gives (.agg (pcs (txtV s))) w):=by
 go_enter Tryz.func24,Tryz.ntmps24
 go_wp2_with (first|refine wpList_alloc34 rfl rfl ?_|refine wpList_build_txt rfl rfl (by rfl) ?_|(refine wpList_store34 rfl rfl rfl rfl (World.vb_new' _ _ _ (by simp)) (by rfl) (pcs_one _) ?_;intro w1 hn1 hg1 hz1))
 refine bodyPost_ret (results_cell_row rfl _ _ _ 39 _ (0,0) _ rfl hn1 Tryz.underlying39 rfl info34) rfl ?_
 exact⟨rfl,(((Below.refl _ w).alloc (Nat.le_refl _) _)).grown hg1 (by simp) (fun k hk=>by cases hk;simp)⟩
set_option maxRecDepth 100000 in
set_option maxHeartbeats 2000000 in
theorem num23_any (n:Int) (w:World) (h0: -9223372036854775808≤n) (h1:n≤9223372036854775807):Calls Tryz.prog 23 #[.int .i64 n] w (Gives (.agg (pcs (numV (ofD n).1))) w):=by
 have HD:=Lib.hid (rof_any n (w.alloc (.cells vz 39)) h0 h1)
 generalize ofD n=p at HD⊢
 clear h0 h1
 obtain⟨⟨M,E⟩,r⟩:=p
 go_enter Tryz.func23,Tryz.ntmps23
 go_wp2_with (refine wpList_alloc34 rfl rfl ?_)
 refine HD.out.mono ?_
 rintro e w1 ⟨rfl,hB1⟩
 have hz:(w.alloc (.cells vz 39)).heap.size=w.heap.size+1:=by simp
 have hvy:World.vb w1 w.heap.size vz:=(World.vb_new w vz).below hB1 (by rw[hz];omega)
 have hB:Below w.heap.size w w1:=((Below.refl _ w).alloc (Nat.le_refl _) _).trans (hB1.mono (by rw[hz];omega))
 clear hB1 hz
 simp only[decV]
 go_upto_region 2 with (refine wpList_storeD rfl rfl rfl rfl (World.dec_new _ _ _ _ rfl) ?_;intro w3 hn3 hg3 hz3)
 have hvy:World.vb w3 w.heap.size vz:=vb_but (hvy.alloc _) hg3 (by have:=hvy.lt;omega)
 have hB:Below w.heap.size w w3:=(hB.alloc hB.size _).grown hg3 (by have:=hB.size;simp;omega) (fun k hk=>by cases hk;exact hB.size)
 have d0:=hn3.c0
 have d1:=hn3.c1
 clear hg3 hz3
 go_wp2_with (first|refine wpList_build_num rfl rfl (by rfl) ?_|(refine wpList_store34 rfl rfl rfl rfl hvy (by rfl) (pcs_one _) ?_;intro w9 hn9 hg9 hz9))
 refine bodyPost_ret (results_cell_row rfl _ _ _ 39 _ (0,0) _ rfl hn9 Tryz.underlying39 rfl info34) rfl ?_
 exact⟨rfl,hB.grown hg9 hB.size (fun k9 hk9=>by cases hk9;omega)⟩
theorem fz_one :OneF fz:=⟨rfl,by simp[fz,Value.oneCell']⟩
theorem results_tmp3 {fn:Func} {a b c:Tmp} (h:fn.results= #[.tmp a,.tmp b,.tmp c]) (tmps:Array Value) (w:World):(results fn tmps).run Tryz.prog w= .ok (.tuple #[tmps.getD a undef,tmps.getD b undef,tmps.getD c undef]) w:=by
 simp only[results,h]
 simp
set_option maxRecDepth 100000 in
set_option maxHeartbeats 4000000 in
theorem known_any (s:ByteArray) (hs:s.size≤1000) (w:World):Calls Tryz.prog 15 #[.string s] w (Gives (match look (tabAll 0 0) (upL s.data.toList)with|some e=> .tuple #[.int .i64 e.least,.int .i64 e.most,.bool true]|none=> .tuple #[.int .i64 0,.int .i64 0,.bool false]) w):=by
 obtain⟨o,ho⟩:∃o,o=look (tabAll 0 0) (upL s.data.toList):=⟨_,rfl⟩
 rw[←ho]
 have HO:=Lib.hid ho
 clear ho
 go_enter Tryz.func15,Tryz.ntmps15
 go_wp2_with fail
 refine(funs_any 0 0 _).mono ?_
 rintro e1 w1 ⟨b,rfl,hT,hB1⟩
 go_wp2_with fail
 refine(upper_any s _ (by omega)).mono ?_
 rintro e2 w2 ⟨rfl,hB2⟩
 have hT:=hT.below hB2
 have hB:=hB1.trans (hB2.mono hB1.size)
 clear hB1 hB2
 have hus:(upS s).size≤1000:=by show(upL s.data.toList).length≤1000;unfold upL;rw[List.length_map];exact hs
 have HE:look (tabAll 0 0) (upS s).data.toList=o:=HO.out.symm
 cases o with
 |none=>
  have hrun:=hT.miss hus HE
  clear hT HE hus
  go_upto_region 2 with (first|refine wpList_alloc83 rfl rfl ?_|(refine wpList_store83 rfl rfl rfl rfl (blk_new' _ _ _ _ rfl) (by rfl) fz_one ?_;intro w3 hn3 hg3 hz3))
  have hB3:Below w.heap.size w w3:=(hB.alloc hB.size (.cells fz 83)).grown hg3 (by have:=hB.size;simp;omega) (fun k hk=>by cases hk;exact hB.size)
  have c0:w3.cell? ⟨w2.heap.size,0,none⟩=some (.int .i64 0):=hn3.cell rfl
  have c1:w3.cell? ⟨w2.heap.size,1,none⟩=some (.int .i64 0):=hn3.cell rfl
  clear hrun hg3 hz3 hn3
  go_quiet (fail)
  go_wp2_with fail
  refine bodyPost_ret (results_tmp3 rfl _ _) rfl ?_
  exact⟨rfl,⟨hB3.os,hB3.tape,hB3.output,hB3.size,hB3.block⟩⟩
 |some e=>
  obtain⟨v,hv,hrun⟩:=hT.look hus HE
  obtain⟨cs,hcv,hcs⟩:=ent_form hv
  obtain⟨va,vb,hv2,hv3,hv4⟩:=hv
  subst hcv
  injection hv2 with hv2
  have Q0:=Lib.hid (show cs[0]? =some (.int .i64 e.least) by rw[hv2];rfl)
  have Q1:=Lib.hid (show cs[1]? =some (.int .i64 e.most) by rw[hv2];rfl)
  have HCS:=Lib.hid hcs
  clear hT HE hus hcs hv2 hv3 hv4
  go_upto_region 2 with (first|refine wpList_alloc83 rfl rfl ?_|(refine wpList_store83 rfl rfl rfl rfl (blk_new' _ _ _ _ rfl) (by rfl) HCS.out ?_;intro w3 hn3 hg3 hz3))
  have hB3:Below w.heap.size w w3:=(hB.alloc hB.size (.cells fz 83)).grown hg3 (by have:=hB.size;simp;omega) (fun k hk=>by cases hk;exact hB.size)
  have c0:=hn3.cell Q0.out
  have c1:=hn3.cell Q1.out
  clear hrun hg3 hz3 hn3
  go_quiet (fail)
  go_wp2_with fail
  refine bodyPost_ret (results_tmp3 rfl _ _) rfl ?_
  exact⟨rfl,⟨hB3.os,hB3.tape,hB3.output,hB3.size,hB3.block⟩⟩
set_option maxHeartbeats 2000000 in
theorem now_any (M E:Int) (h:RightP (M,E)) (L:Value) (b:Nat) (w:World) (hb:World.dec w b M E):Calls Tryz.prog 188 #[L,.pointer (some ⟨b,0,none⟩)] w (Gives (.agg (pcs (numV (M,E)))) w):=by
 have hr:=rightB_P.2 h
 have HR:=Lib.hid (fun W=>right_any M E W (by have:=h.1;simp only at this;omega) (by have:=h.2.1;simp only at this;omega))
 rw[hr]at HR
 have hB0:Below w.heap.size w (w.alloc (.cells vz 39)):=(Below.refl _ w).alloc (Nat.le_refl _) _
 have hv0:World.vb (w.alloc (.cells vz 39)) w.heap.size vz:=World.vb_new w vz
 have hb0:=hb.below hB0 hb.lt
 clear h hr
 go_enter Tryz.func188,Tryz.ntmps188
 go_wp2_with (first|refine wpList_alloc34 rfl rfl ?_|refine wpList_loadDat rfl rfl rfl rfl (dec_cells hb0) ?_|(go_at_call 58;refine(HR.out _).mono ?_;rintro e w1 ⟨rfl,hB1⟩;have hv1:=hv0.below hB1 hv0.lt;have hb1:=hb0.below hB1 hb0.lt;have hB1:=hB0.trans (hB1.mono hB0.size))|refine wpList_loadDat rfl rfl rfl rfl (dec_cells hb1) ?_|(go_at_call 119;refine(num_any M E _).mono ?_;rintro e w2 ⟨rfl,hB2⟩;have hv2:=hv1.below hB2 hv1.lt;have hB2:=hB1.trans (hB2.mono hB1.size))|(refine wpList_store34 rfl rfl rfl rfl hv2 (by rfl) (pcs_one _) ?_;intro w9 hn9 hg9 hz9))
 refine bodyPost_ret (results_cell_row rfl _ _ _ 39 _ (0,0) _ rfl hn9 Tryz.underlying39 rfl info34) rfl ?_
 exact⟨rfl,hB2.grown hg9 hB2.size (fun k9 hk9=>by cases hk9;omega)⟩
set_option maxRecDepth 100000 in
set_option maxHeartbeats 8000000 in
theorem call_miss (s:ByteArray) (hs:s.size≤1000) (M E:Int) (he:look (tabAll M E) (upL s.data.toList)=none) (L:Value) (w:World):Calls Tryz.prog 18 #[.string s,L,.agg #[.int .i64 M,.int .i64 E]] w (Gives (.agg (pcs (errV 5))) w):=by
 have HLK:=Lib.hid he
 clear he
 obtain⟨W,hW⟩:∃W,W=(w.alloc (.cells #[.int .i64 M,.int .i64 E] 34)).alloc (.cells vz 39):=⟨_,rfl⟩
 have hdc:World.dec W w.heap.size M E:=by rw[hW];exact(World.dec_new w M E _ rfl).alloc _
 have hvy:World.vb W (w.heap.size+1) vz:=by rw[hW];exact World.vb_new' _ _ _ (by simp)
 have hB:Below w.heap.size w W:=by rw[hW];exact((Below.refl _ w).alloc (Nat.le_refl _) _).alloc (by simp) _
 go_enter Tryz.func18,Tryz.ntmps18
 go_upto_region 1 with (refine wpList_alloc34 rfl rfl ?_)
 go_simp
 rw[←hW]
 clear hW
 have d0:=hdc.c0
 have d1:=hdc.c1
 go_wp2_with fail
 refine(funs_any M E _).mono ?_
 rintro e1 w1 ⟨b,rfl,hT,hB1⟩
 have hvy:=hvy.below hB1 hvy.lt
 have hB:=hB.trans (hB1.mono hB.size)
 clear hB1 hdc d0 d1
 go_wp2_with fail
 refine(upper_any s _ (by omega)).mono ?_
 rintro e2 w2 ⟨rfl,hB2⟩
 have hT:=hT.below hB2
 have hvy:=hvy.below hB2 hvy.lt
 have hB:=hB.trans (hB2.mono hB.size)
 clear hB2
 have hrun:=hT.miss (s:=upS s) (by show(upL s.data.toList).length≤1000;unfold upL;rw[List.length_map];exact hs) HLK.out
 clear hT
 go_upto_region 2 with (first|refine wpList_alloc83 rfl rfl ?_|(refine wpList_store83 rfl rfl rfl rfl (blk_new' _ _ _ _ rfl) (by rfl) fz_one ?_;intro w3 hn3 hg3 hz3))
 have hb3:Below w2.heap.size w2 w3:=((Below.refl _ w2).alloc (Nat.le_refl _) (.cells fz 83)).grown hg3 (by simp) (fun k hk=>by cases hk;exact Nat.le_refl _)
 have hvy:=hvy.below hb3 hvy.lt
 have hB:=hB.trans (hb3.mono hB.size)
 clear hrun hg3 hz3 hb3
 go_wp2_with (first|(go_at_call 44;refine(fault_any 5 _).mono ?_;rintro e w4 ⟨rfl,hB4⟩;have hvy:=hvy.below hB4 hvy.lt;have hB:=hB.trans (hB4.mono hB.size))|(refine wpList_store34 rfl rfl rfl rfl hvy (by rfl) (pcs_one _) ?_;intro w9 hn9 hg9 hz9))
 refine bodyPost_ret (results_cell_row rfl _ _ _ 39 _ (0,0) _ rfl hn9 Tryz.underlying39 rfl info34) rfl ?_
 exact⟨rfl,hB.grown hg9 hB.size (fun k9 hk9=>by cases hk9;omega)⟩
set_option maxRecDepth 100000 in
set_option maxHeartbeats 8000000 in
theorem call_few (s:ByteArray) (hs:s.size≤1000) (M E:Int) (e:Ent) (he:look (tabAll M E) (upL s.data.toList)=some e) (p:Option Addr) (n c:Nat) (w:World) (hl0:(n:Int)<e.least):Calls Tryz.prog 18 #[.string s,.slice p n c,.agg #[.int .i64 M,.int .i64 E]] w (Gives (.agg (pcs (errV 3))) w):=by
 have HLK:=Lib.hid he
 clear he
 obtain⟨W,hW⟩:∃W,W=(w.alloc (.cells #[.int .i64 M,.int .i64 E] 34)).alloc (.cells vz 39):=⟨_,rfl⟩
 have hdc:World.dec W w.heap.size M E:=by rw[hW];exact(World.dec_new w M E _ rfl).alloc _
 have hvy:World.vb W (w.heap.size+1) vz:=by rw[hW];exact World.vb_new' _ _ _ (by simp)
 have hB:Below w.heap.size w W:=by rw[hW];exact((Below.refl _ w).alloc (Nat.le_refl _) _).alloc (by simp) _
 go_enter Tryz.func18,Tryz.ntmps18
 go_upto_region 1 with (refine wpList_alloc34 rfl rfl ?_)
 go_simp
 rw[←hW]
 clear hW
 have d0:=hdc.c0
 have d1:=hdc.c1
 go_wp2_with fail
 refine(funs_any M E _).mono ?_
 rintro e1 w1 ⟨b,rfl,hT,hB1⟩
 have hvy:=hvy.below hB1 hvy.lt
 have hB:=hB.trans (hB1.mono hB.size)
 clear hB1 hdc d0 d1
 go_wp2_with fail
 refine(upper_any s _ (by omega)).mono ?_
 rintro e2 w2 ⟨rfl,hB2⟩
 have hT:=hT.below hB2
 have hvy:=hvy.below hB2 hvy.lt
 have hB:=hB.trans (hB2.mono hB.size)
 clear hB2
 obtain⟨v,hv,hrun⟩:=hT.look (s:=upS s) (by show(upL s.data.toList).length≤1000;unfold upL;rw[List.length_map];exact hs) HLK.out
 obtain⟨cs,hcv,hcs⟩:=ent_form hv
 obtain⟨va,vb,hv2,hv3,hv4⟩:=hv
 subst hcv
 injection hv2 with hv2
 have Q0:=Lib.hid (show cs[0]? =some (.int .i64 e.least) by rw[hv2];rfl)
 have HCS:=Lib.hid hcs
 clear hcs hT hv2 hv3 hv4
 go_upto_region 2 with (first|refine wpList_alloc83 rfl rfl ?_|(refine wpList_store83 rfl rfl rfl rfl (blk_new' _ _ _ _ rfl) (by rfl) HCS.out ?_;intro w3 hn3 hg3 hz3))
 have hb3:Below w2.heap.size w2 w3:=((Below.refl _ w2).alloc (Nat.le_refl _) (.cells fz 83)).grown hg3 (by simp) (fun k hk=>by cases hk;exact Nat.le_refl _)
 have hvy:=hvy.below hb3 hvy.lt
 have hB:=hB.trans (hb3.mono hB.size)
 have c0:=hn3.cell Q0.out
 clear hrun hg3 hz3 hb3
 go_wp2_with (first|(go_at_call 44;refine(fault_any 3 _).mono ?_;rintro e w4 ⟨rfl,hB4⟩;have hvy:=hvy.below hB4 hvy.lt;have hB:=hB.trans (hB4.mono hB.size))|(refine wpList_store34 rfl rfl rfl rfl hvy (by rfl) (pcs_one _) ?_;intro w9 hn9 hg9 hz9))
 refine bodyPost_ret (results_cell_row rfl _ _ _ 39 _ (0,0) _ rfl hn9 Tryz.underlying39 rfl info34) rfl ?_
 exact⟨rfl,hB.grown hg9 hB.size (fun k9 hk9=>by cases hk9;omega)⟩
end Go.Proofs.YtmhfioimgllgeaaGreatDoor
namespace Go.Proofs.YtmhfioimgllgeaaGreatDoor
open Go Go.RowKit Go.Shelf
def badI (how:List UInt8) (xs:List Vl):Option (UInt8×Vl):=(xs.mapIdx fun i x=>(how.getD i 0,x)).find? fun p=>badL p.1 p.2
def letV (how:List UInt8) (f:List Vl→Vl) (xs:List Vl):Vl:=match badI how xs with
 |some p=>convL p.1 p.2
 |none=>f (inL how xs xs.length)
theorem badI_none {how:List UInt8} {xs:List Vl} (h:badI how xs=none):∀i x,xs[i]? =some x→badL (how.getD i 0) x=false:=by
 intro i x hx
 have h2:=List.find?_eq_none.1 h (how.getD i 0,x) (by
  obtain⟨hi,e⟩:=List.getElem?_eq_some_iff.1 hx
  rw[List.mem_mapIdx]
  exact⟨i,hi,by rw[e]⟩)
 simpa using h2
theorem badI_none' {how:List UInt8} {xs:List Vl} (h:∀i x,xs[i]? =some x→badL (how.getD i 0) x=false):badI how xs=none:=by
 unfold badI
 rw[List.find?_eq_none]
 intro p hp
 obtain⟨i,hi,e⟩:=List.mem_mapIdx.1 hp
 have:=h i _ (List.getElem?_eq_getElem hi)
 rw[←e]
 simpa using this
theorem badI_some {how:List UInt8} {xs:List Vl} {i:Nat} {x:Vl} (hx:xs[i]? =some x) (hb:badL (how.getD i 0) x=true) (hf:∀j z,j<i→xs[j]? =some z→badL (how.getD j 0) z=false):badI how xs=some (how.getD i 0,x):=by
 unfold badI
 obtain⟨hi,e⟩:=List.getElem?_eq_some_iff.1 hx
 rw[List.find?_eq_some_iff_getElem]
 refine⟨hb,i,by simpa using hi,by simp[e],fun j hj=> ?_⟩
 have hjl:j<xs.length:=by omega
 have:=hf j _ hj (List.getElem?_eq_getElem hjl)
 simpa using this
theorem letters_gen (cs:Array Value) (hcs:OneF cs) (how:List UInt8) (h2:cs[2]? =some (.string (mk how))) (gf:Nat) (ps:Array Value) (h3:cs[3]? =some (fnV gf ps)) (eg:∀args w,(callFunc gf args).run Tryz.prog w= .ok (.enter gf args) w)
 (xs:List Vl) (hx:∀x∈xs,plainV x=true) (hne:xs≠ []) (hlen:xs.length≤how.length) (hl:xs.length≤1000) (hasc:∀c∈how,c=110∨c=116∨c=98∨c=118) (g off c:Nat) (w:World) (hE:Els xs g off w) (he:Env w) (f:List Vl→Vl)
 (hone:badI how xs=none→∀(W:World) (base g' cap:Nat),Below w.heap.size w W→World.vr W base (.slice (some ⟨g',0,none⟩) xs.length cap) (inL how xs xs.length)→g'<W.heap.size→Calls Tryz.prog gf (#[.slice (some ⟨g',0,none⟩) xs.length cap]++ps) W (Gives (.agg (pcs (f (inL how xs xs.length)))) W)):
 Calls Tryz.prog 97 #[.agg cs,.slice (some ⟨g,off,none⟩) xs.length c] w (Gives (.agg (pcs (letV how f xs))) w):=
 letters_any cs hcs how h2 gf ps h3 eg xs hx hne hlen hl hasc g off c w hE he (letV how f xs)
  (fun hb W base g' cap hW hr hg=>by
   have e:=badI_none' hb
   have e2:letV how f xs=f (inL how xs xs.length):=by unfold letV;rw[e]
   rw[e2];exact hone e W base g' cap hW hr hg)
  (fun i x hi hb hf=>by
   unfold letV;rw[badI_some hi hb hf])
theorem numT_kind {x:Vl} (h:plainV x=true) (hb:badL 110 x=false):∃p,numT x=numV p∧RightP p:=by
 rcases plain_cases h with e|⟨p,e,hr⟩|⟨s,e,_⟩|⟨b,e⟩|⟨n,e,_⟩<;>subst e
 ·exact⟨(0,0),rfl,right_nought⟩
 ·exact⟨p,rfl,hr⟩
 ·have e:numT (txtV s)=if(readD s.data.toList).2=0 then numV (readD s.data.toList).1 else errV 3:=rfl
  by_cases h0:(readD s.data.toList).2=0
  ·rw[if_pos h0]at e
   refine⟨_,e,?_⟩
   rcases read_three s.data.toList with ⟨p,hp,hr⟩|e|e
   ·rw[hp];exact hr
   ·rw[e]at h0;exact absurd h0 (by decide)
   ·rw[e]at h0;exact absurd h0 (by decide)
  ·rw[if_neg h0]at e
   have:badL 110 (txtV s)=((numT (txtV s)).k==4):=rfl
   rw[this,e]at hb
   exact absurd hb (by decide)
 ·refine⟨(truI b,0),rfl,?_⟩
  cases b
  ·exact right_nought
  ·unfold RightP truI;decide
 ·exact absurd hb (by have:badL 110 (errV n)=true:=rfl;rw[this];simp)
theorem nearR (s:Bool) (D:Nat) (m:Bool):RightP (near s D m).1:=nearF_right s D m 19 (-9) (by omega) (by omega)
theorem roundD_right (M E n:Int):RightP (roundD M E n).1:=by
 unfold roundD
 split
 ·split
  ·exact nearR _ _ _
  ·exact right_nought
 ·exact right_nought
theorem rdV_plain (p q:Int×Int):plainV (rdV p q)=true:=by
 unfold rdV
 split
 ·exact toldV_plain (roundD_right _ _ _)
 ·decide
theorem letV_plain {how:List UInt8} {f:List Vl→Vl} (hf:∀zs,plainV (f zs)=true) {xs:List Vl} (hx:∀x∈xs,plainV x=true):plainV (letV how f xs)=true:=by
 unfold letV
 split
 ·rename_i p hp
  have:=List.mem_of_find?_eq_some hp
  obtain⟨i,hi,e⟩:=List.mem_mapIdx.1 this
  rw[←e]
  exact convL_plain (hx _ (List.getElem_mem _))
 ·exact hf _
/-- What is told by number letters alone. -/
theorem inL_nums {n:Nat} {xs:List Vl} (hx:∀x∈xs,plainV x=true) (hn:xs.length≤n) (hb:badI (List.replicate n 110) xs=none):∀z∈inL (List.replicate n 110) xs xs.length,∃p,z=numV p∧RightP p:=by
 intro z hz
 unfold inL at hz
 obtain⟨i,hi,e⟩:=List.mem_mapIdx.1 hz
 have hb:=badI_none hb i _ (List.getElem?_eq_getElem hi)
 have hd:(List.replicate n (110:UInt8)).getD i 0=110:=by
  rw[List.getD_eq_getElem?_getD,List.getElem?_replicate,if_pos (by omega)];rfl
 rw[hd]at hb
 obtain⟨p,hp,hr⟩:=numT_kind (hx _ (List.getElem_mem hi)) hb
 refine⟨p,?_,hr⟩
 rw[←e,if_pos hi,hd,←hp];rfl
theorem eg236 :∀args w,(callFunc 236 args).run Tryz.prog w= .ok (.enter 236 args) w:=enters_of Tryz.func236 (by kernel_rfl) rfl
theorem eg127 :∀args w,(callFunc 127 args).run Tryz.prog w= .ok (.enter 127 args) w:=enters_of Tryz.func127 (by kernel_rfl) rfl
theorem eg243 :∀args w,(callFunc 243 args).run Tryz.prog w= .ok (.enter 243 args) w:=enters_of Tryz.func243 (by kernel_rfl) rfl
theorem eg155 :∀args w,(callFunc 155 args).run Tryz.prog w= .ok (.enter 155 args) w:=enters_of Tryz.func155 (by kernel_rfl) rfl
theorem eg253 :∀args w,(callFunc 253 args).run Tryz.prog w= .ok (.enter 253 args) w:=enters_of Tryz.func253 (by kernel_rfl) rfl
theorem eg188 :∀args w,(callFunc 188 args).run Tryz.prog w= .ok (.enter 188 args) w:=enters_of Tryz.func188 (by kernel_rfl) rfl
theorem Ds.At.c_inv {w:World} {g gf:Nat} {d:Ds} {ps:Array Value} (h:(Ds.c g d).At w (fnV gf ps)):gf=g∧∃p u,ps= #[p]∧Bx w p u∧d.At w u:=by
 obtain⟨p,u,e,h1,h2⟩:=h
 injection e with e1 _ e3
 injection e1 with e1
 exact⟨e1,p,u,e3,h1,h2⟩
/-- SUM by its name. -/
theorem call_sum (s:ByteArray) (hs:s.size≤1000) (hup:upL s.data.toList= [83,85,77]) (M E:Int) (xs:List Vl) (L:Value) (w:World) (hA:ArgsAt w L xs) (hn1:1≤xs.length) (hn:xs.length≤20) (hE:Env w):
 Calls Tryz.prog 18 #[.string s,L,.agg #[.int .i64 M,.int .i64 E]] w (Gives (.agg (pcs (gathV sumV xs))) w):=by
 refine call_all s hs M E {least:=1,most:=20,all:=some (.c 253 (.f 164))} (by rw[hup];kernel_rfl) rfl (.c 253 (.f 164)) rfl xs L w hA hE (by show(1:Int)≤_;omega) (by show _≤(20:Int);omega) _ ?_
 intro W gf ps hW hd
 obtain⟨rfl,p,u,rfl,hb,hu⟩:=hd.c_inv
 have hu:u= .func (.func 164) #[] #[]:=hu
 subst hu
 exact⟨eg253,gathered_any 164 enters164 sumV sum_any xs L p W (hA.below hW) (by omega) (hE.below hW) hb⟩
/-- NOW by its name. -/
theorem call_now (M E:Int) (hr:RightP (M,E)) (w:World) (hE:Env w):Calls Tryz.prog 18 #[.string (mk [78,79,87]),nilS,.agg #[.int .i64 M,.int .i64 E]] w (Gives (.agg (pcs (numV (M,E)))) w):=by
 refine call_all _ (by decide) M E {least:=0,most:=0,all:=some (.n 188 M E)} (by kernel_rfl) rfl (.n 188 M E) rfl [] nilS w ⟨VsAt.nil,fun x hx=>by cases hx⟩ hE (Int.le_refl 0) (Int.le_refl 0) _ ?_
 intro W gf ps hW hd
 obtain⟨b,e,hb⟩:=hd
 injection e with e1 _ e3
 injection e1 with e1
 subst e1 e3
 exact⟨eg188,now_any M E hr nilS b W hb⟩
/-- MID by its name, at a text and two numbers. -/
theorem call_mid (t:ByteArray) (ht:txtOk t=true) (p q:Int×Int) (hp:RightP p) (hq:RightP q) (g off c:Nat) (hc:3≤c) (hm:c≤maxLen) (w:World) (hEl:Els [txtV t,numV p,numV q] g off w) (hE:Env w) (hal:∀x∈ [txtV t,numV p,numV q],plainV x=true):
 Calls Tryz.prog 18 #[.string (mk [77,73,68]),.slice (some ⟨g,off,none⟩) 3 c,.agg #[.int .i64 0,.int .i64 0]] w (Gives (.agg (pcs (midV t (numV p) (numV q)))) w):=by
 refine call_one _ (by decide) 0 0 {least:=3,most:=3,how:= [116,110,110],one:=some (.c 243 (.f 155))} (by kernel_rfl) (by decide) (by decide) (.c 243 (.f 155)) rfl [txtV t,numV p,numV q] hal (by simp) (by show 3≤1000;omega) (by show 3≤3;omega) g off c hc hm w hEl hE (by show(3:Int)≤3;omega) (by show(3:Int)≤3;omega) _ ?_ ?_ ?_
 ·intro _ W gf ps hW hd base g' cap hr hg
  obtain⟨rfl,pp,u,rfl,hb,hu⟩:=hd.c_inv
  have hu:u= .func (.func 155) #[] #[]:=hu
  subst hu
  exact texts1_any 155 eg155 _ [txtV t,numV p,numV q] base g' cap pp W (fun b S W2 hB2 hS hL=>mid_any t ht (txtV t) (numV p) (numV q) hp hq b base g' cap S W2 hS hL ((hE.below hW).below hB2)) hr hg (by show 3≤100;omega) hb
 ·intro W gf ps hd
  obtain⟨rfl,_⟩:=hd.c_inv
  exact eg243
 ·intro i x hx hb _
  exfalso
  match i,hx with
  |0,hx=>have e:txtV t=x:=by simpa using hx
         subst e;exact absurd hb (by have:badL 116 (txtV t)=false:=rfl;show ¬badL 116 (txtV t)=true;rw[this];simp)
  |1,hx=>have e:numV p=x:=by simpa using hx
         subst e;exact absurd hb (by have:badL 110 (numV p)=false:=rfl;show ¬badL 110 (numV p)=true;rw[this];simp)
  |2,hx=>have e:numV q=x:=by simpa using hx
         subst e;exact absurd hb (by have:badL 110 (numV q)=false:=rfl;show ¬badL 110 (numV q)=true;rw[this];simp)
  |i+3,hx=>simp at hx
/-- ROUND by its name, where an array is told. -/
theorem call_round (s:ByteArray) (hs:s.size≤1000) (hup:upL s.data.toList= [82,79,85,78,68]) (xs:List Vl) (L:Value) (w:World) (hA:ArgsAt w L xs) (hn1:1≤xs.length) (hn:xs.length≤2) (hE:Env w) (harr:(xs.any fun x=>x.k==5)=true) (hsm:lR xs*lC xs≤400):
 Calls Tryz.prog 18 #[.string s,L,.agg #[.int .i64 0,.int .i64 0]] w (HandsA (lR xs) (lC xs) (liftL (letV [110,110] fun zs=>roundV (zs.map dcs)) xs) w):=by
 have hbd:=lRC_bd hA.2
 have hpos:1≤lR xs*lC xs:=Int.mul_pos (by omega) (by omega)
 have hll:(liftL (letV [110,110] fun zs=>roundV (zs.map dcs)) xs).length=(lR xs*lC xs).toNat:=by unfold liftL;simp
 refine call_arr s hs 0 0 {least:=1,most:=2,how:= [110,110],one:=some (.c 236 (.f 127))} (by rw[hup];kernel_rfl) (by decide) (.c 236 (.f 127)) rfl xs L w hA hE (by show(1:Int)≤_;omega) (by show _≤(2:Int);omega) _ _ _ (by omega) (by intro e;rw[e]at hll;simp at hll;omega) ?_
 intro cs W gf ps hcs h2 h3 hd hW
 obtain⟨rfl,pp,u,rfl,hb,hu⟩:=hd.c_inv
 have hu:u= .func (.func 127) #[] #[]:=hu
 subst hu
 refine(lift_arr cs hcs xs (by intro e;rw[e]at hn1;simp at hn1) (by omega) L W (hA.below hW) (hE.below hW) harr (letV [110,110] fun zs=>roundV (zs.map dcs)) (fun zs _ hz=>letV_plain (fun zs=>rdV_plain _ _) hz) ?_).mono (fun e w' h=>by unfold LiftPost at h;rw[if_neg (by omega)]at h;exact h)
 intro zs hzl hz W2 g cap hW2 hel hcl hcm
 refine letters_gen cs hcs [110,110] h2 236 #[pp] h3 eg236 zs hz (by intro e;rw[e]at hzl;simp at hzl;omega) (by show zs.length≤2;omega) (by omega) (by decide) g 0 cap W2 hel ((hE.below hW).below hW2) _ ?_
 intro hbad W3 base g' cap' hW3 hr hg
 have hin:=inL_nums (n:=2) hz (by omega) hbad
 have hil:(inL [110,110] zs zs.length).length=zs.length:=inL_len _ _ _
 have hr:World.vr W3 base (.slice (some ⟨g',0,none⟩) (inL [110,110] zs zs.length).length cap') (inL [110,110] zs zs.length):=by rw[hil];exact hr
 have:=nums1_any 127 eg127 (roundV ((inL [110,110] zs zs.length).map dcs)) (inL [110,110] zs zs.length) (fun b v W4 hb4 hd4=>round_any127 _ (by intro e;have:=congrArg List.length e;rw[List.length_map,hil]at this;have h0:zs.length=0:=this;omega) (by rw[List.length_map,hil];omega) (fun p hp=>by
  obtain⟨z,hzm,rfl⟩:=List.mem_map.1 hp
  obtain⟨q,rfl,hq⟩:=hin z hzm
  exact hq) b v W4 hd4 hb4) base g' cap' pp W3 hr hg (by rw[hil];omega) (hb.below (hW2.trans (hW3.mono hW2.size)))
 rw[hil]at this
 exact this
end Go.Proofs.YtmhfioimgllgeaaGreatDoor
namespace Go.Proofs.YtmhfioimgllgeaaGreatDoor
open Go Go.RowKit Go.Shelf
theorem eg191 :∀args w,(callFunc 191 args).run Tryz.prog w= .ok (.enter 191 args) w:=enters_of Tryz.func191 (by kernel_rfl) rfl
theorem args_els {xs:List Vl} {g c n:Nat} {w:World} (hn:n=xs.length) (h:Els xs g 0 w) (hx:∀x∈xs,plainV x=true) (hl:n≤1000) (hc:n≤c) (hm:c≤maxLen) (hne:xs≠ []):ArgsAt w (.slice (some ⟨g,0,none⟩) n c) xs:=by
 subst hn
 exact⟨els_vsAt h hx hl hc hm hne 2,fun x h=> .inl (hx x h)⟩
end Go.Proofs.YtmhfioimgllgeaaGreatDoor
namespace Go.Proofs.YtmhfioimgllgeaaGreatDoor
open Go Go.RowKit Go.Shelf
theorem eg161 :∀args w,(callFunc 161 args).run Tryz.prog w= .ok (.enter 161 args) w:=enters_of Tryz.func161 (by kernel_rfl) rfl
end Go.Proofs.YtmhfioimgllgeaaGreatDoor
namespace Go.Proofs.YtmhfioimgllgeaaGreatDoor
open Go Go.RowKit Go.Shelf
set_option maxRecDepth 100000 in
set_option maxHeartbeats 4000000 in
theorem exact161 (s t:ByteArray) (bv:Bool) (hbv:(s.toList==t.toList)=bv) (b:Nat) (S L:Value) (w:World) (hS:World.sr w b S [s,t]):Calls Tryz.prog 161 #[S,L] w (Gives (.agg (pcs (trV bv))) w):=by
 obtain⟨p,c,rfl,_,hp⟩:=hS.slice
 obtain⟨gs,rfl,hgs,hcs⟩:=hp (by simp)
 obtain⟨W,hW⟩:∃W,W=w.alloc (.cells vz 39):=⟨_,rfl⟩
 have hB0:Below w.heap.size w W:=by rw[hW];exact(Below.refl _ w).alloc (Nat.le_refl _) _
 have hv0:World.vb W w.heap.size vz:=by rw[hW];exact World.vb_new w vz
 have hB0:Below w.heap.size w W.drew:=hB0.drew
 have hv0:World.vb W.drew w.heap.size vz:=World.vb.drew hv0
 have c0:W.drew.cell? ⟨gs,0,none⟩=some (.string s):=(hB0.cell (p:=⟨gs,0,none⟩) hgs).trans (hcs 0 s rfl)
 have c1:W.drew.cell? ⟨gs,1,none⟩=some (.string t):=(hB0.cell (p:=⟨gs,1,none⟩) hgs).trans (hcs 1 t rfl)
 clear hS hp hcs
 go_enter Tryz.func161,Tryz.ntmps161
 go_upto_region 1 with (refine wpList_alloc34 rfl rfl ?_)
 rw[←hW]
 clear hW
 refine wp_region_still_tail 7 (by kernel_rfl) (by kernel_rfl) ?_
 change wpStill _ _ W.drew _ _ _
 simp only[List.take_succ_cons,List.take_zero,List.drop_succ_cons,List.drop_zero]
 iterate 7 still_step
 refine wpStill_nil ?_
 change wpList _ _ _ _ _ W.drew
 clear c0 c1
 go_wp2_with (first|(go_at_call 137;refine(truthF_any _ _).mono ?_;rintro e w1 ⟨rfl,hB1⟩;have hvy:=hv0.below hB1 hv0.lt;have hB:=hB0.trans (hB1.mono hB0.size))|(refine wpList_store34 rfl rfl rfl rfl hvy (by rfl) (pcs_one _) ?_;intro w9 hn9 hg9 hz9))
 refine bodyPost_ret (results_cell_row rfl _ _ _ 39 _ (0,0) _ rfl hn9 Tryz.underlying39 rfl info34) rfl ?_
 exact⟨by rw[←hbv],hB.grown hg9 hB.size (fun k9 hk9=>by cases hk9;omega)⟩
end Go.Proofs.YtmhfioimgllgeaaGreatDoor
