/- Merged: Cal, Cao, Flt, Nmb, Fol, Sum, Nm1. -/
import Derived.Test.YtmhfioimgllgeaaGreatDoorR01
import Derived.Test.YtmhfioimgllgeaaGreatDoorR41
import Derived.Test.YtmhfioimgllgeaaGreatDoorR40
import Derived.Test.YtmhfioimgllgeaaGreatDoorR32
import Derived.StillTail
import Derived.StillTactics
import Derived.Test.YtmhfioimgllgeaaGreatDoorR37
namespace Go.Proofs.YtmhfioimgllgeaaGreatDoor
open Go Go.RowKit Go.Shelf Go.Maps
/-- Values that a function is handed: plain ones and arrays. -/
def ArgsAt (w:World) (L:Value) (xs:List Vl):Prop:=VsAt (Rp w w.heap.size 3) w w.heap.size L xs∧∀x∈xs,ArrP x
theorem ArgsAt.below {w W:World} {L:Value} {xs:List Vl} (h:ArgsAt w L xs) (hb:Below w.heap.size w W):ArgsAt W L xs:=
 ⟨h.1.imp (fun _ hp=>hb.cell hp) hb.size (fun _ _ hr=>hr.below hb hb.size),h.2⟩
set_option maxRecDepth 100000 in
theorem Tb.look {w:World} {b n:Nat} {t:List UInt8→Option Ent} (h:Tb w b n t) {s:ByteArray} (hs:s.size≤1000) {e:Ent} (he:t s.data.toList=some e):
 ∃v,e.At w v∧(Instr.lookup 74 (.map (some b)) (.string s) true).run Tryz.prog w= .ok (.tuple #[v,.bool true]) w:=by
 obtain⟨D,h1,h2⟩:=h
 have hk:=Go.WideMaps.keyOf_string_mk Tryz.underlying9 (s:=s) (by unfold maxLen;omega)
 obtain⟨v,ps,hrun,hv⟩:=h1.look_ok keyed9 Tryz.underlying74 (zero83 w) (zd:= .held (.agg fz)) (zp:= []) rfl hk
 have:=h2 s.data.toList
 rw[he]at this
 obtain⟨v',h3,h4⟩:=this
 rw[h3]at hv
 rw[has_true_of_atKey h3]at hrun
 have:v=v':=by unfold RV at hv;injection hv with hv;injection hv with hv;injection hv
 subst this
 exact⟨v,h4,hrun⟩
set_option maxRecDepth 100000 in
theorem Tb.miss {w:World} {b n:Nat} {t:List UInt8→Option Ent} (h:Tb w b n t) {s:ByteArray} (hs:s.size≤1000) (he:t s.data.toList=none):
 (Instr.lookup 74 (.map (some b)) (.string s) true).run Tryz.prog w= .ok (.tuple #[.agg fz,.bool false]) w:=by
 obtain⟨D,h1,h2⟩:=h
 have hk:=Go.WideMaps.keyOf_string_mk Tryz.underlying9 (s:=s) (by unfold maxLen;omega)
 obtain⟨v,ps,hrun,hv⟩:=h1.look_ok keyed9 Tryz.underlying74 (zero83 w) (zd:= .held (.agg fz)) (zp:= []) rfl hk
 have:=h2 s.data.toList
 rw[he]at this
 rw[this]at hv
 rw[has_false_of_atKey this]at hrun
 have:v= .agg fz:=by unfold RV at hv;injection hv with hv;injection hv with hv;injection hv
 subst this
 exact hrun
set_option maxHeartbeats 1000000 in
theorem call1_any (x:Vl) (v:Value) (w:World) (h:Rp w w.heap.size 3 x v) (ha:ArrP x) (he:Env w):Calls Tryz.prog 46 #[v] w (Gives (.bool false) w):=by
 obtain⟨L,Bs,Ps,rfl,_⟩:=id h
 have hO:=h.one
 obtain⟨C,hC⟩:∃C,vcs x L Bs Ps=C:=⟨_,rfl⟩
 rw[hC]at hO h⊢
 have hvx:World.vb (w.alloc (.cells C 39)) w.heap.size C:=World.vb_new w C
 have HR:=Lib.hid (show Calls Tryz.prog 19 #[.agg C] (w.alloc (.cells C 39)) (Gives (.bool true) (w.alloc (.cells C 39)))from
  right27 (At.below ⟨h,hO,ha⟩ ((Below.refl _ w).alloc (Nat.le_refl _) _)) (he.below ((Below.refl _ w).alloc (Nat.le_refl _) _)))
 have hcl:C.all (·.oneCell')=true:=hO.2
 have HO:=Lib.hid hO
 clear h hC ha he hO
 go_enter Tryz.func46,Tryz.ntmps46
 go_wp2_with (refine wpList_load34 rfl rfl rfl hvx HO.out.1 ?_)
 refine HR.out.mono ?_
 rintro e w1 ⟨rfl,hB⟩
 have hB2:Below w.heap.size w w1:=((Below.refl _ w).alloc (Nat.le_refl _) _).trans (hB.mono (by simp))
 clear hB
 go_wp2_with fail
 go_ret
 exact⟨rfl,hB2⟩
theorem enters46 :∀args w,(callFunc 46 args).run Tryz.prog w= .ok (.enter 46 args) w:=enters_of Tryz.func46 (by kernel_rfl) rfl
theorem allright (xs:List Vl) (L:Value) (w:World) (h:ArgsAt w L xs) (he:Env w):Calls Tryz.prog 45 #[L,.func (.func 46) #[] #[]] w (Gives (.bool false) w):=by
 have:=contains_any 3 46 enters46 (fun _=>false) xs L w (fun x v W hx hB hr=>call1_any x v W hr (h.2 x hx) (he.below hB)) h.1
 have e:(xs.any fun _=>false)=false:=by rw[List.any_eq_false];intro _ _;simp
 rwa [e]at this
set_option maxRecDepth 100000 in
set_option maxHeartbeats 8000000 in
/-- With all values as they are: what is told is plain. -/
theorem call_all (s:ByteArray) (hs:s.size≤1000) (M E:Int) (e:Ent) (he:look (tabAll M E) (upL s.data.toList)=some e) (hh:e.how= []) (d:Ds) (hd:e.all=some d) (xs:List Vl) (L:Value) (w:World) (hA:ArgsAt w L xs) (hE:Env w)
 (hl0:e.least≤(xs.length:Int)) (hl1:(xs.length:Int)≤e.most) (y:Vl)
 (hall:∀W gf ps,Below w.heap.size w W→d.At W (fnV gf ps)→(∀args w,(callFunc gf args).run Tryz.prog w= .ok (.enter gf args) w)∧Calls Tryz.prog gf (#[L]++ps) W (Gives (.agg (pcs y)) W)):
 Calls Tryz.prog 18 #[.string s,L,.agg #[.int .i64 M,.int .i64 E]] w (Gives (.agg (pcs y)) w):=by
 obtain⟨p,c,rfl,_⟩:=id hA.1
 have HALL:=Lib.hid hall
 have HAR:=Lib.hid (show ∀W,Below w.heap.size w W→Calls Tryz.prog 45 #[.slice p xs.length c,.func (.func 46) #[] #[]] W (Gives (.bool false) W)from fun W hW=>allright xs _ W (hA.below hW) (hE.below hW))
 have HLK:=Lib.hid he
 have HH:=Lib.hid hh
 have HD:=Lib.hid hd
 clear hall hA hE he hh hd
 obtain⟨W,hW⟩:∃W,W=(w.alloc (.cells #[.int .i64 M,.int .i64 E] 34)).alloc (.cells vz 39):=⟨_,rfl⟩
 have hdc:World.dec W w.heap.size M E:=by rw[hW];exact(World.dec_new w M E _ rfl).alloc _
 have hvy:World.vb W (w.heap.size+1) vz:=by rw[hW];exact World.vb_new' _ _ _ (by simp)
 have hB:Below w.heap.size w W:=by rw[hW];exact((Below.refl _ w).alloc (Nat.le_refl _) _).alloc (by simp) _
 go_enter Tryz.func18,Tryz.ntmps18
 go_upto_region 1 with (refine wpList_alloc34 rfl rfl ?_)
 go_simp
 rw[←hW]
 clear hW
 have d0:=hdc.c0
 have d1:=hdc.c1
 go_wp2_with fail
 refine(funs_any M E _).mono ?_
 rintro e1 w1 ⟨b,rfl,hT,hB1⟩
 have hvy:=hvy.below hB1 hvy.lt
 have hB:=hB.trans (hB1.mono hB.size)
 clear hB1 hdc d0 d1
 go_wp2_with fail
 refine(upper_any s _ (by omega)).mono ?_
 rintro e2 w2 ⟨rfl,hB2⟩
 have hT:=hT.below hB2
 have hvy:=hvy.below hB2 hvy.lt
 have hB:=hB.trans (hB2.mono hB.size)
 clear hB2
 obtain⟨v,hv,hrun⟩:=hT.look (s:=upS s) (by show(upL s.data.toList).length≤1000;unfold upL;rw[List.length_map];exact hs) HLK.out
 obtain⟨cs,hcv,hcs⟩:=ent_form hv
 obtain⟨va,vb,hv2,hv3,hv4⟩:=hv
 rw[HD.out]at hv4
 obtain⟨gf,ps,rfl⟩:=Ds.At.form hv4
 subst hcv
 injection hv2 with hv2
 have Q0:=Lib.hid (show cs[0]? =some (.int .i64 e.least) by rw[hv2];rfl)
 have Q1:=Lib.hid (show cs[1]? =some (.int .i64 e.most) by rw[hv2];rfl)
 have Q2:=Lib.hid (show cs[2]? =some (.string ⟨#[]⟩) by rw[hv2,HH.out];rfl)
 have Q4:=Lib.hid (show cs[4]? =some (fnV gf ps) by rw[hv2];rfl)
 have HV:=Lib.hid (show d.At w2 (fnV gf ps)from hv4)
 have HCS:=Lib.hid hcs
 clear hcs hT hv2 hv3 hv4
 go_upto_region 2 with (first|refine wpList_alloc83 rfl rfl ?_|(refine wpList_store83 rfl rfl rfl rfl (blk_new' _ _ _ _ rfl) (by rfl) HCS.out ?_;intro w3 hn3 hg3 hz3))
 have hb3:Below w2.heap.size w2 w3:=((Below.refl _ w2).alloc (Nat.le_refl _) (.cells fz 83)).grown hg3 (by simp) (fun k hk=>by cases hk;exact Nat.le_refl _)
 have HV:=Lib.hid (HV.out.below hb3)
 have hvy:=hvy.below hb3 hvy.lt
 have hB:=hB.trans (hb3.mono hB.size)
 have c0:=hn3.cell Q0.out
 have c1:=hn3.cell Q1.out
 have c2:=hn3.cell Q2.out
 clear hrun hg3 hz3 hb3
 have t1:¬((xs.length:Int)<e.least):=by omega
 have t2:¬(e.most<(xs.length:Int)):=by omega
 go_wp2_with fail
 refine(HAR.out _ hB).mono ?_
 rintro e4 w4 ⟨rfl,hB4⟩
 have HV:=Lib.hid (HV.out.below hB4)
 have hvy:=hvy.below hB4 hvy.lt
 have hn4:=hn3.below hB4 hn3.lt
 have hB:=hB.trans (hB4.mono hB.size)
 have c2:=hn4.cell Q2.out
 have c4:=hn4.cell Q4.out
 clear hB4
 obtain⟨eg,HC⟩:=HALL.out w4 gf ps hB HV.out
 have HC:=Lib.hid HC
 go_wp2_with fail
 refine HC.out.mono ?_
 rintro e5 w5 ⟨rfl,hB5⟩
 have hvy:=hvy.below hB5 hvy.lt
 have hB:=hB.trans (hB5.mono hB.size)
 clear hB5
 go_wp2_with fail
 refine(copiedF_plain y _).mono ?_
 rintro e6 w6 ⟨rfl,hB6⟩
 have hvy:=hvy.below hB6 hvy.lt
 have hB:=hB.trans (hB6.mono hB.size)
 clear hB6
 go_wp2_with (refine wpList_store34 rfl rfl rfl rfl hvy (by rfl) (pcs_one _) ?_;intro w9 hn9 hg9 hz9)
 refine bodyPost_ret (results_cell_row rfl _ _ _ 39 _ (0,0) _ rfl hn9 Tryz.underlying39 rfl info34) rfl ?_
 exact⟨rfl,hB.grown hg9 hB.size (fun k9 hk9=>by cases hk9;omega)⟩
end Go.Proofs.YtmhfioimgllgeaaGreatDoor
namespace Go.Proofs.YtmhfioimgllgeaaGreatDoor
open Go Go.RowKit Go.Shelf Go.Maps
set_option maxRecDepth 100000 in
set_option maxHeartbeats 8000000 in
/-- By letters, where there are no arrays. -/
theorem call_one (s:ByteArray) (hs:s.size≤1000) (M E:Int) (e:Ent) (he:look (tabAll M E) (upL s.data.toList)=some e) (hh:e.how≠ []) (hasc:∀c∈e.how,c=110∨c=116∨c=98∨c=118) (d:Ds) (hd:e.one=some d) (xs:List Vl) (hx:∀x∈xs,plainV x=true) (hne:xs≠ []) (hl:xs.length≤1000) (hlen:xs.length≤e.how.length) (g off c:Nat) (hc:xs.length≤c) (hm:c≤maxLen) (w:World) (hEl:Els xs g off w) (hE:Env w)
 (hl0:e.least≤(xs.length:Int)) (hl1:(xs.length:Int)≤e.most) (y:Vl)
 (hone:(∀i x,xs[i]? =some x→badL (e.how.getD i 0) x=false)→∀W gf ps,Below w.heap.size w W→d.At W (fnV gf ps)→∀base g' cap,World.vr W base (.slice (some ⟨g',0,none⟩) xs.length cap) (inL e.how xs xs.length)→g'<W.heap.size→Calls Tryz.prog gf (#[.slice (some ⟨g',0,none⟩) xs.length cap]++ps) W (Gives (.agg (pcs y)) W))
 (henter:∀W gf ps,d.At W (fnV gf ps)→∀args w,(callFunc gf args).run Tryz.prog w= .ok (.enter gf args) w)
 (hbad:∀i x,xs[i]? =some x→badL (e.how.getD i 0) x=true→(∀j z,j<i→xs[j]? =some z→badL (e.how.getD j 0) z=false)→y=convL (e.how.getD i 0) x):
 Calls Tryz.prog 18 #[.string s,.slice (some ⟨g,off,none⟩) xs.length c,.agg #[.int .i64 M,.int .i64 E]] w (Gives (.agg (pcs y)) w):=by
 have hA:ArgsAt w (.slice (some ⟨g,off,none⟩) xs.length c) xs:=⟨els_vsAt hEl hx hl hc hm hne 2,fun x h=> .inl (hx x h)⟩
 have HLF:=Lib.hid (show ∀(cs:Array Value) (W:World) (gf:Nat) (ps:Array Value),OneF cs→cs[2]? =some (.string (mk e.how))→cs[3]? =some (fnV gf ps)→d.At W (fnV gf ps)→Below w.heap.size w W→Calls Tryz.prog 48 #[.agg cs,.slice (some ⟨g,off,none⟩) xs.length c] W (Gives (.agg (pcs y)) W)from
  fun cs W gf ps hcs h2 h3 hdW hW=>lift_plain cs hcs xs hx hne hl g off c hc hm W (hEl.below hW) y fun W2 hW2=>
   letters_any cs hcs e.how h2 gf ps h3 (henter W gf ps hdW) xs hx hne hlen hl hasc g off c W2 ((hEl.below hW).below hW2) ((hE.below hW).below hW2) y
    (fun hb W3 base g' cap hW3 hr hg=>hone hb W3 gf ps ((hW.trans (hW2.mono hW.size)).trans (hW3.mono (Nat.le_trans hW.size hW2.size))) (Ds.At.below hW3 (Ds.At.below hW2 hdW)) base g' cap hr hg) hbad)
 have HAR:=Lib.hid (show ∀W,Below w.heap.size w W→Calls Tryz.prog 45 #[.slice (some ⟨g,off,none⟩) xs.length c,.func (.func 46) #[] #[]] W (Gives (.bool false) W)from fun W hW=>allright xs _ W (hA.below hW) (hE.below hW))
 have HLK:=Lib.hid he
 have HH:=Lib.hid hh
 have HD:=Lib.hid hd
 clear hone henter hbad hA hEl hE he hh hd hx
 obtain⟨W,hW⟩:∃W,W=(w.alloc (.cells #[.int .i64 M,.int .i64 E] 34)).alloc (.cells vz 39):=⟨_,rfl⟩
 have hdc:World.dec W w.heap.size M E:=by rw[hW];exact(World.dec_new w M E _ rfl).alloc _
 have hvy:World.vb W (w.heap.size+1) vz:=by rw[hW];exact World.vb_new' _ _ _ (by simp)
 have hB:Below w.heap.size w W:=by rw[hW];exact((Below.refl _ w).alloc (Nat.le_refl _) _).alloc (by simp) _
 go_enter Tryz.func18,Tryz.ntmps18
 go_upto_region 1 with (refine wpList_alloc34 rfl rfl ?_)
 go_simp
 rw[←hW]
 clear hW
 have d0:=hdc.c0
 have d1:=hdc.c1
 go_wp2_with fail
 refine(funs_any M E _).mono ?_
 rintro e1 w1 ⟨b,rfl,hT,hB1⟩
 have hvy:=hvy.below hB1 hvy.lt
 have hB:=hB.trans (hB1.mono hB.size)
 clear hB1 hdc d0 d1
 go_wp2_with fail
 refine(upper_any s _ (by omega)).mono ?_
 rintro e2 w2 ⟨rfl,hB2⟩
 have hT:=hT.below hB2
 have hvy:=hvy.below hB2 hvy.lt
 have hB:=hB.trans (hB2.mono hB.size)
 clear hB2
 obtain⟨v,hv,hrun⟩:=hT.look (s:=upS s) (by show(upL s.data.toList).length≤1000;unfold upL;rw[List.length_map];exact hs) HLK.out
 obtain⟨cs,hcv,hcs⟩:=ent_form hv
 obtain⟨va,vb,hv2,hv3,hv4⟩:=hv
 rw[HD.out]at hv3
 obtain⟨gf,ps,rfl⟩:=Ds.At.form hv3
 subst hcv
 injection hv2 with hv2
 have Q0:=Lib.hid (show cs[0]? =some (.int .i64 e.least) by rw[hv2];rfl)
 have Q1:=Lib.hid (show cs[1]? =some (.int .i64 e.most) by rw[hv2];rfl)
 have Q2:=Lib.hid (show cs[2]? =some (.string (mk e.how)) by rw[hv2];rfl)
 have Q3:=Lib.hid (show cs[3]? =some (fnV gf ps) by rw[hv2];rfl)
 have HV:=Lib.hid (show d.At w2 (fnV gf ps)from hv3)
 have HCS:=Lib.hid hcs
 clear hcs hT hv2 hv3 hv4
 go_upto_region 2 with (first|refine wpList_alloc83 rfl rfl ?_|(refine wpList_store83 rfl rfl rfl rfl (blk_new' _ _ _ _ rfl) (by rfl) HCS.out ?_;intro w3 hn3 hg3 hz3))
 have hb3:Below w2.heap.size w2 w3:=((Below.refl _ w2).alloc (Nat.le_refl _) (.cells fz 83)).grown hg3 (by simp) (fun k hk=>by cases hk;exact Nat.le_refl _)
 have HV:=Lib.hid (HV.out.below hb3)
 have hvy:=hvy.below hb3 hvy.lt
 have hB:=hB.trans (hb3.mono hB.size)
 have c0:=hn3.cell Q0.out
 have c1:=hn3.cell Q1.out
 have c2:=hn3.cell Q2.out
 clear hrun hg3 hz3 hb3
 have t1:¬((xs.length:Int)<e.least):=by omega
 have t2:¬(e.most<(xs.length:Int)):=by omega
 go_wp2_with fail
 refine(HAR.out _ hB).mono ?_
 rintro e4 w4 ⟨rfl,hB4⟩
 have HV:=Lib.hid (HV.out.below hB4)
 have hvy:=hvy.below hB4 hvy.lt
 have hn4:=hn3.below hB4 hn3.lt
 have hB:=hB.trans (hB4.mono hB.size)
 have c2:=hn4.cell Q2.out
 clear hB4
 have HL:=Lib.hid (HLF.out cs w4 gf ps HCS.out Q2.out Q3.out HV.out hB)
 have hnb:(mk e.how).toList.isEmpty=false:=by
  rw[ByteArray.toList_eq]
  show(mk e.how).data.toList.isEmpty=false
  show e.how.isEmpty=false
  cases h:e.how with
  |nil=>exact absurd h HH.out
  |cons x l=>rfl
 go_wp2_with (refine wpList_load83 rfl rfl rfl hn4 HCS.out.1 ?_)
 refine HL.out.mono ?_
 rintro e5 w5 ⟨rfl,hB5⟩
 have hvy:=hvy.below hB5 hvy.lt
 have hB:=hB.trans (hB5.mono hB.size)
 clear hB5
 go_wp2_with fail
 refine(copiedF_plain y _).mono ?_
 rintro e6 w6 ⟨rfl,hB6⟩
 have hvy:=hvy.below hB6 hvy.lt
 have hB:=hB.trans (hB6.mono hB.size)
 clear hB6
 go_wp2_with (refine wpList_store34 rfl rfl rfl rfl hvy (by rfl) (pcs_one _) ?_;intro w9 hn9 hg9 hz9)
 refine bodyPost_ret (results_cell_row rfl _ _ _ 39 _ (0,0) _ rfl hn9 Tryz.underlying39 rfl info34) rfl ?_
 exact⟨rfl,hB.grown hg9 hB.size (fun k9 hk9=>by cases hk9;omega)⟩
end Go.Proofs.YtmhfioimgllgeaaGreatDoor
namespace Go.Proofs.YtmhfioimgllgeaaGreatDoor
open Go Go.RowKit Go.Shelf
def flat1 (x:Vl):List Vl:=if x.k=5 then x.l else [x]
def flatV (xs:List Vl):List Vl:=xs.flatMap flat1
theorem flatV_snoc (xs:List Vl) (x:Vl):flatV (xs++ [x])=flatV xs++flat1 x:=by simp[flatV]
theorem flat1_len {x:Vl} (h:ArrP x):(flat1 x).length≤400:=by
 unfold flat1
 rcases h with h|⟨hk,h⟩
 ·split
  ·rename_i hk
   rcases plain_cases h with e|⟨p,e,_⟩|⟨s,e,_⟩|⟨b,e⟩|⟨n,e,_⟩<;>rw[e]at hk<;>simp[numV,txtV,trV,errV]at hk
  ·simp
 ·rw[if_pos hk]
  unfold rightV at h
  rw[if_pos hk,Bool.and_eq_true]at h
  have h1:=h.1
  unfold dimsB at h1
  have h2:=of_decide_eq_true h1
  omega
theorem flat1_plain {x:Vl} (h:ArrP x):∀y∈flat1 x,plainV y=true:=by
 unfold flat1
 rcases h with h|⟨hk,h⟩
 ·have:x.k≠5:=by
   intro hk
   rcases plain_cases h with e|⟨p,e,_⟩|⟨s,e,_⟩|⟨b,e⟩|⟨n,e,_⟩<;>rw[e]at hk<;>simp[numV,txtV,trV,errV]at hk
  rw[if_neg this]
  intro y hy
  rw[List.mem_singleton.1 hy];exact h
 ·rw[if_pos hk]
  unfold rightV at h
  rw[if_pos hk,Bool.and_eq_true,Bool.and_eq_true,List.all_eq_true]at h
  exact h.2.2
theorem flatV_plain {xs:List Vl} (h:∀x∈xs,ArrP x):∀y∈flatV xs,plainV y=true:=by
 intro y hy
 obtain⟨x,hx,hy⟩:=List.mem_flatMap.1 hy
 exact flat1_plain (h x hx) y hy
theorem flatV_len {xs:List Vl} (h:∀x∈xs,ArrP x):(flatV xs).length≤xs.length*400:=by
 induction xs with
 |nil=>simp[flatV]
 |cons x l ih=>
  have e:flatV (x :: l)=flat1 x++flatV l:=rfl
  have h1:=flat1_len (h x (List.mem_cons_self ..))
  have h2:=ih fun y hy=>h y (List.mem_cons_of_mem _ hy)
  rw[e,List.length_append,List.length_cons]
  omega
section
variable {ops : Array Oper} {rest : List Oper} {o : Oper} {a : Act} {w : World} {Q : Exit → Act → World → Prop}
theorem wpList_bslF {x:Operand} {y:Vl} (hgd:o.guard=none) (ho:o.op= .buildSlice 31 1 #[(0,x)]) (hx:a.eval x= .agg (pcs y)) (h:wpList Tryz.prog ops Q rest (a.put o.dst (.slice (some ⟨w.heap.size,0,none⟩) 1 1)) (w.alloc (.cells (pcs y) 39))):wpList Tryz.prog ops Q (o :: rest) a w:=
 wpList_plain hgd fun _ hK=>op_bslice34 ho hx (hK _ _ h)
theorem wpList_pushF {s x:Operand} (hgd:o.guard=none) (ho:o.op= .call {callee:= .builtin .append,args:= #[s,x],argTypes:= #[31,31]})
 {base:Nat} {v:Value} {l:List Vl} {y:Vl} {g:Nat} (hown:World.vr w base v l) (hl:l.length≤20000) (hs:a.eval s=v) (hx:a.eval x= .slice (some ⟨g,0,none⟩) 1 1) (hc:World.vb w g (pcs y)) (hbase:base≤w.heap.size)
 (h:∀v' w',World.vr w' base v' (l++ [y])→w.grownBy w' v.ownBlock→wpList Tryz.prog ops Q rest (a.put o.dst v') w'):wpList Tryz.prog ops Q (o :: rest) a w:=
 wpList_plain hgd fun _ hK=>by
  obtain⟨i0,hi,hz0,hz1,hz2⟩:=info_parts info34b
  refine wp_append_own w s x 31 ho base 39 i0 (.agg vz) 12 152 Tryz.underlying31 hi hz0 hz1 hz2 rfl (by decide) v l.length _ hs hown ⟨g,0,none⟩ 1 1 (pcs y).toList hx rfl ?_ (pcs_cell1 y) ?_ ?_ hbase ?_
  ·intro j u hj
   rw[add_at,Nat.zero_add]
   exact hc.cell (by simpa using hj)
  ·unfold maxLen;omega
  ·omega
  ·intro v' w' h1 h2 _
   refine hK _ _ (h v' w' ?_ h2)
   unfold World.vr
   rw[vsC_snoc,List.length_append]
   exact h1
theorem wpList_catv {s x:Operand} (hgd:o.guard=none) (ho:o.op= .call {callee:= .builtin .append,args:= #[s,x],argTypes:= #[31,31]})
 {base:Nat} {v:Value} {l r:List Vl} {g off c:Nat} (hown:World.vr w base v l) (hl:l.length≤20000) (hr:r.length≤1000) (hs:a.eval s=v) (hx:a.eval x= .slice (some ⟨g,off,none⟩) r.length c) (hc:Els r g off w) (hbase:base≤w.heap.size)
 (h:∀v' w',World.vr w' base v' (l++r)→w.grownBy w' v.ownBlock→wpList Tryz.prog ops Q rest (a.put o.dst v') w'):wpList Tryz.prog ops Q (o :: rest) a w:=
 wpList_plain hgd fun _ hK=>by
  obtain⟨i0,hi,hz0,hz1,hz2⟩:=info_parts info34b
  refine wp_append_own w s x 31 ho base 39 i0 (.agg vz) 12 152 Tryz.underlying31 hi hz0 hz1 hz2 rfl (by decide) v l.length _ hs hown ⟨g,off,none⟩ r.length c (vsC r) hx (vsC_len r) ?_ ?_ ?_ ?_ hbase ?_
  ·intro j u hj
   rw[add_at]
   exact els_cells hc j u hj
  ·intro u hu
   unfold vsC at hu
   obtain⟨y,_,hy⟩:=List.mem_flatMap.1 hu
   exact pcs_cell1 y u hy
  ·unfold maxLen;omega
  ·omega
  ·intro v' w' h1 h2 _
   refine hK _ _ (h v' w' ?_ h2)
   unfold World.vr
   have e:vsC (l++r)=vsC l++vsC r:=by simp[vsC]
   rw[e,List.length_append]
   exact h1
end
theorem own_grown {w w':World} {base:Nat} {v:Value} {l:List Vl} {B:Nat} {w0:World} (h:World.vr w base v l) (hb:B≤base) (hB:Below B w0 w) (hB2:B≤w.heap.size) (hg:w.grownBy w' v.ownBlock):Below B w0 w':=by
 refine hB.grown hg hB2 (fun k hk=> ?_)
 obtain⟨_,h|⟨g,cap,cur,rfl,hb2,_⟩⟩:=h
 ·rw[h.1]at hk;cases hk
 ·have:g=k:=by simpa [Value.ownBlock]using hk
  omega
set_option maxRecDepth 100000 in
set_option maxHeartbeats 8000000 in
theorem flat_any (xs:List Vl) (L:Value) (w:World) (hA:ArgsAt w L xs) (hn:xs.length≤25):Calls Tryz.prog 258 #[L] w fun e w'=>∃v,e= .returned v∧World.vr w' w.heap.size v (flatV xs)∧Below w.heap.size w w':=by
 obtain⟨p,c,rfl,_⟩:=id hA.1
 have HAA:=Lib.hid (show ∀W,Below w.heap.size w W→ArgsAt W (.slice p xs.length c) xs from fun W hW=>hA.below hW)
 have HP:=Lib.hid hA.2
 clear hA
 go_enter Tryz.func258,Tryz.ntmps258
 go_wp2_with fail
 go_loopw [2,7] (fun s i wr=>∃K:Nat,i= .int .i64 (K:Int)∧K≤xs.length∧Hid (World.vr wr w.heap.size s (flatV (xs.take K)))∧Below w.heap.size w wr) (fun _ i _=>xs.length-(intOf i).toNat)
 case atStart=>exact⟨0,rfl,Nat.zero_le _,World.vr_nil,Below.refl _ _⟩
 case round=>
  obtain⟨K,rfl,hK,HR,hB⟩:=hrel
  by_cases hlt:K<xs.length
  ·have hKI:(K:Int)<(xs.length:Int):=by omega
   obtain⟨x,hxK⟩:∃x,xs[K]? =some x:=⟨_,List.getElem?_eq_getElem hlt⟩
   have hap:=HP.out x (List.mem_of_getElem? hxK)
   obtain⟨p',c',e0,_,_,_,_,H⟩:=(HAA.out wr hB).1
   injection e0 with e1 e2 e3
   obtain⟨g,off,cs,hp,hg,hcs,hrp,hcell⟩:=H K x hxK
   rw[hp]at e1
   subst e1 e3
   have hone:=hrp.one
   have h0:cs[0]? =some (.int .i64 x.k):=by obtain⟨L',Bs,Ps,e,_⟩:=hrp;injection e with e;rw[e];rfl
   have hlen:(flatV (xs.take K)).length≤10000:=by
    have:=flatV_len (xs:=xs.take K) (fun y hy=>HP.out y (List.mem_of_mem_take hy))
    rw[List.length_take]at this
    omega
   have htk:xs.take (K+1)=xs.take K++ [x]:=by rw[List.take_add_one,hxK];rfl
   have HO:=Lib.hid hone
   have HC0:=Lib.hid h0
   have HTK:=Lib.hid htk
   have HLN:=Lib.hid hlen
   have hBz:=hB.size
   by_cases hk:x.k=5
   ·have hat:At x cs wr:=⟨hrp,hone,hap⟩
    obtain⟨hr,hl⟩:rightV 3 x=true∧∃r c l,x=arrV r c l:=by
     rcases hat.cases with h|⟨r,c,l,e,h⟩
     ·rcases plain_cases h with e|⟨p,e,_⟩|⟨s,e,_⟩|⟨b,e⟩|⟨n,e,_⟩<;>rw[e]at hk<;>simp[numV,txtV,trV,errV]at hk
     ·exact⟨by rw[e];exact h 2,r,c,l,e⟩
    obtain⟨r,cc,l,e⟩:=hl
    rw[e]at hat hr
    obtain⟨g2,off2,k2,hcs2,hel⟩:=hat.arr hr
    have hll:l.length≤400:=by
     have:=flat1_len hap
     unfold flat1 at this
     rw[if_pos hk,e]at this;exact this
    have hf:flat1 x=l:=by unfold flat1;rw[if_pos hk,e];rfl
    have H8:=Lib.hid (show cs[8]? =some (.slice (some ⟨g2,off2,none⟩) l.length k2) by rw[hcs2];rfl)
    have HEL:=Lib.hid (show ∀W,Below wr.heap.size wr W→Els l g2 off2 W from fun W hW=>hel.below hW)
    have HF:=Lib.hid hf
    have HLL:=Lib.hid hll
    rw[hk]at HC0
    clear hat hr e hcs2 hel hf hap hxK hone h0 hlen htk hp hg hk H hrp hll
    go_upto_region 4 with (first|refine wpList_load34at rfl rfl rfl hcs hcell ?_|refine wpList_alloc34 rfl rfl ?_|(refine wpList_store34 rfl rfl rfl rfl (World.vb_new' _ _ _ rfl) (by rfl) HO.out ?_;intro w1 hn1 hg1 hz1))
    have c0:=hn1.cell HC0.out
    have c8:=hn1.cell H8.out
    have hb1:Below wr.heap.size wr w1:=((Below.refl _ wr).alloc (Nat.le_refl _) (.cells vz 39)).grown hg1 (by simp) (fun k hk=>by cases hk;exact Nat.le_refl _)
    have HR1:=Lib.hid (HR.out.below hb1)
    have hel:=HEL.out w1 hb1
    have hB1:=hB.trans (hb1.mono hBz)
    have hB1z:=hB1.size
    clear hcell hg1 hz1 hb1 hn1
    go_wp2_with (refine wpList_catv rfl rfl HR1.out (Nat.le_trans HLN.out (by decide)) (Nat.le_trans HLL.out (by decide)) rfl rfl hel hB1z ?_;intro v5 w5 hr5 hg5)
    go_roundw
    case rel=>exact⟨K+1,by go_num,by omega,by rw[HTK.out,flatV_snoc,HF.out];exact hr5,own_grown HR1.out (Nat.le_refl _) hB1 hB1z hg5⟩
    case measure=>simp[intOf];omega
   ·have hpl:plainV x=true:=by
     rcases hap with h|h
     ·exact h
     ·exact absurd h.1 hk
    have hpc:cs=pcs x:=by have:=plain_cells hrp hpl;injection this
    have hf:flat1 x= [x]:=by unfold flat1;rw[if_neg hk]
    have HF:=Lib.hid hf
    have HPC:=Lib.hid hpc
    have hkb:¬(x.k=5):=hk
    clear hpc hf hap hxK hone h0 hlen htk hp hg H hrp hpl
    go_upto_region 4 with (first|refine wpList_load34at rfl rfl rfl hcs hcell ?_|refine wpList_alloc34 rfl rfl ?_|(refine wpList_store34 rfl rfl rfl rfl (World.vb_new' _ _ _ rfl) (by rfl) HO.out ?_;intro w1 hn1 hg1 hz1))
    have c0:=hn1.cell HC0.out
    have hb1:Below wr.heap.size wr w1:=((Below.refl _ wr).alloc (Nat.le_refl _) (.cells vz 39)).grown hg1 (by simp) (fun k hk=>by cases hk;exact Nat.le_refl _)
    have HR1:=Lib.hid ((HR.out.below hb1).alloc (.cells (pcs x) 39))
    have hB1:=(hB.trans (hb1.mono hBz)).alloc (Nat.le_trans hBz hb1.size) (.cells (pcs x) 39)
    have hB1z:=hB1.size
    have HN:Hid (World.vb w1 wr.heap.size (pcs x)):=by rw[←HPC.out];exact hn1
    clear hcell hg1 hz1 hb1 hn1
    go_wp2_with (first|refine wpList_load34 rfl rfl rfl HN.out rfl ?_|refine wpList_bslF rfl rfl rfl ?_|(refine wpList_pushF rfl rfl HR1.out (Nat.le_trans HLN.out (by decide)) rfl rfl (World.vb_new _ _) hB1z ?_;intro v5 w5 hr5 hg5))
    go_roundw
    case rel=>exact⟨K+1,by go_num,by omega,by rw[HTK.out,flatV_snoc,HF.out];exact hr5,own_grown HR1.out (Nat.le_refl _) hB1 hB1z hg5⟩
    case measure=>simp[intOf];omega
  ·have hKI:¬(K:Int)<(xs.length:Int):=by omega
   go_wp2_with fail
   go_ret
   refine⟨_,rfl,?_,hB⟩
   have:=HR.out
   rwa [List.take_of_length_le (by omega)]at this
end Go.Proofs.YtmhfioimgllgeaaGreatDoor
namespace Go.Proofs.YtmhfioimgllgeaaGreatDoor
open Go Go.RowKit Go.Shelf
/-- A text or a truth as a number. -/
def tnV (x:Vl):Vl:=if x.k=2∨x.k=3 then numT x else x
def numY (xs:List Vl):List Vl:=flatV (xs.map tnV)
def isF (y:Vl):Bool:=y.k==4
def decsOf (l:List Vl):List (Int×Int):=l.filterMap fun y=>if y.k=1 then some (y.m,y.e)else none
theorem numY_app (l r:List Vl):numY (l++r)=numY l++numY r:=by simp[numY,flatV]
theorem decsOf_app (l r:List Vl):decsOf (l++r)=decsOf l++decsOf r:=List.filterMap_append
theorem decsOf_len (l:List Vl):(decsOf l).length≤l.length:=List.length_filterMap_le _ _
theorem tnV_arr {x:Vl} (h:ArrP x):ArrP (tnV x):=by
 unfold tnV
 split
 ·rename_i hk
  rcases h with h|h
  ·exact .inl (numT_plain h)
  ·omega
 ·exact h
theorem numY_plain {xs:List Vl} (h:∀x∈xs,ArrP x):∀y∈numY xs,plainV y=true:=flatV_plain (by
 intro x hx
 obtain⟨z,hz,rfl⟩:=List.mem_map.1 hx
 exact tnV_arr (h z hz))
/-- The cells of decimals; a row of them. -/
def dsC (l:List (Int×Int)):List Value:=l.flatMap fun p=> [.int .i64 p.1,.int .i64 p.2]
def World.dcr (w:World) (base:Nat) (v:Value) (l:List (Int×Int)):Prop:=w.ownsRow base 34 2 v l.length (dsC l)
theorem dcr_nil (w:World) (base:Nat):World.dcr w base nilS []:=World.ownsRow_nil _ _ _ _
theorem World.dcr.below {w w':World} {base:Nat} {v:Value} {l:List (Int×Int)} (h:World.dcr w base v l) (hb:Below w.heap.size w w'):World.dcr w' base v l:=by
 refine World.ownsRow.kept h (row:=none) ⟨hb.os,hb.tape,hb.output,hb.size,fun i hi _=>hb.block i hi⟩ ?_
 cases hv:v.ownBlock with
 |none=>exact .inl rfl
 |some b=>exact .inr (by simp)
theorem World.dcr.but {w w':World} {base b:Nat} {v:Value} {l:List (Int×Int)} (h:World.dcr w base v l) (hg:w.grownBy w' (some b)) (hne:b<base):World.dcr w' base v l:=by
 refine World.ownsRow.kept h hg ?_
 obtain⟨_,h|⟨g,cap,cur,rfl,hb2,_⟩⟩:=h
 ·rw[h.1];exact .inl rfl
 ·exact .inr (by intro e;have:g=b:=by simpa [Value.ownBlock]using e
                 omega)
theorem info34f :(Tryz.prog.info? 34).map (fun i=>(i.zero,i.size,i.bytes))=some (some (.agg #[.int .i64 0,.int .i64 0]),2,16):=by kernel_rfl
theorem bslice_dec (M E:Int) (w:World):(Instr.buildSlice 156 1 #[(0,.agg #[.int .i64 M,.int .i64 E])]).run Tryz.prog w= .ok (.slice (some ⟨w.heap.size,0,none⟩) 1 1) (w.alloc (.cells #[.int .i64 M,.int .i64 E] 34)):=by kernel_rfl
section
variable {ops : Array Oper} {rest : List Oper} {o : Oper} {a : Act} {w : World} {Q : Exit → Act → World → Prop}
theorem wpList_bslD {x:Operand} {M E:Int} (hgd:o.guard=none) (ho:o.op= .buildSlice 156 1 #[(0,x)]) (hx:a.eval x= .agg #[.int .i64 M,.int .i64 E]) (h:wpList Tryz.prog ops Q rest (a.put o.dst (.slice (some ⟨w.heap.size,0,none⟩) 1 1)) (w.alloc (.cells #[.int .i64 M,.int .i64 E] 34))):wpList Tryz.prog ops Q (o :: rest) a w:=
 wpList_plain hgd fun K hK=>by
  have hz:=bslice_dec M E w
  unfold Oper.wp execOp
  simp[ho,hx,hz]
  exact hK _ _ h
theorem wpList_pushD {s x:Operand} (hgd:o.guard=none) (ho:o.op= .call {callee:= .builtin .append,args:= #[s,x],argTypes:= #[156,156]})
 {base:Nat} {v:Value} {l:List (Int×Int)} {M E:Int} {g:Nat} (hown:World.dcr w base v l) (hl:l.length≤20000) (hs:a.eval s=v) (hx:a.eval x= .slice (some ⟨g,0,none⟩) 1 1) (hc:World.dec w g M E) (hbase:base≤w.heap.size)
 (h:∀v' w',World.dcr w' base v' (l++ [(M,E)])→w.grownBy w' v.ownBlock→wpList Tryz.prog ops Q rest (a.put o.dst v') w'):wpList Tryz.prog ops Q (o :: rest) a w:=
 wpList_plain hgd fun _ hK=>by
  obtain⟨i0,hi,hz0,hz1,hz2⟩:=info_parts info34f
  refine wp_append_own w s x 156 ho base 34 i0 _ 2 16 Tryz.underlying156 hi hz0 hz1 hz2 rfl (by decide) v l.length _ hs hown ⟨g,0,none⟩ 1 1 [.int .i64 M,.int .i64 E] hx rfl ?_ ?_ ?_ ?_ hbase ?_
  ·intro j u hj
   rw[add_at,Nat.zero_add]
   unfold World.dec at hc
   rw[cell_of_row w g j _ _ _ hc]
   simpa using hj
  ·intro u hu
   simp only[List.mem_cons,List.not_mem_nil,or_false]at hu
   rcases hu with rfl|rfl<;>rfl
  ·unfold maxLen;omega
  ·omega
  ·intro v' w' h1 h2 _
   refine hK _ _ (h v' w' ?_ h2)
   unfold World.dcr
   have e:dsC (l++ [(M,E)])=dsC l++ [.int .i64 M,.int .i64 E]:=by simp[dsC]
   rw[e,List.length_append]
   exact h1
end
theorem dcr_grown {w w':World} {base:Nat} {v:Value} {l:List (Int×Int)} {B:Nat} {w0:World} (h:World.dcr w base v l) (hb:B≤base) (hB:Below B w0 w) (hB2:B≤w.heap.size) (hg:w.grownBy w' v.ownBlock):Below B w0 w':=by
 refine hB.grown hg hB2 (fun k hk=> ?_)
 obtain⟨_,h|⟨g,cap,cur,rfl,hb2,_⟩⟩:=h
 ·rw[h.1]at hk;cases hk
 ·have:g=k:=by simpa [Value.ownBlock]using hk
  omega
theorem results_tmp_vl {fn:Func} {p u:Tmp} (h:fn.results= #[.tmp u,.cell p 39]) (tmps:Array Value) (w:World) (g:Nat) (cs:Array Value) (hp:tmps.getD p undef= .pointer (some ⟨g,0,none⟩)) (hd:World.vb w g cs) (hs:cs.size=12):
 (results fn tmps).run Tryz.prog w= .ok (.tuple #[tmps.getD u undef,.agg cs]) w:=by
 have:=run_loadVar_row (P:=Tryz.prog) w g 39 39 _ (0,0) _ hd Tryz.underlying39 rfl (by rw[hs];exact info34)
 have e:(results fn tmps).run Tryz.prog w=((asAddr (tmps.getD p undef)).run Tryz.prog w).andThen fun a w1=>((loadVar 39 a).run Tryz.prog w1).andThen fun v w2=> .ok (.tuple #[tmps.getD u undef,v]) w2:=by
  simp only[results,h]
  simp[Sem.run_bind,Result.andThen]
 rw[e,hp]
 simp only[asAddr,Sem.run_pure,Result.andThen_ok,this]
theorem dcr_mono {w:World} {base base':Nat} {v:Value} {l:List (Int×Int)} (h:World.dcr w base v l) (hb:base'≤base):World.dcr w base' v l:=by
 obtain⟨h0,h|⟨g,cap,cur,rfl,hb2,r⟩⟩:=h
 ·exact⟨h0,.inl h⟩
 ·exact⟨h0,.inr ⟨g,cap,cur,rfl,Nat.le_trans hb hb2,r⟩⟩
theorem args_one {W:World} {z:Vl} {C:Array Value} {g:Nat} (h:At z C W) (hn:World.vb W g C):ArgsAt W (.slice (some ⟨g,0,none⟩) 1 1) [z]:=by
 refine⟨⟨some ⟨g,0,none⟩,1,rfl,Nat.le_refl _,(by unfold maxLen;omega),(by simp),fun e=>(by cases e),fun i y hi=> ?_⟩,fun x hx=>by rw[List.mem_singleton.1 hx];exact h.2.2⟩
 cases i with
 |zero=>
  have e:z=y:=by simpa using hi
  subst e
  exact⟨g,0,C,rfl,hn.lt,h.2.1.1,h.1,fun j u hj=>by simpa using hn.cell hj⟩
 |succ i=>simp at hi
theorem wpStill_load34 {ops:Array Oper} {rest:List Oper} {o:Oper} {a:Act} {w:World} {Q:Act→Prop} {x:Operand} {g:Nat} {cs:Array Value} (hgd:o.guard=none) (ho:o.op= .load 39 x) (hx:a.eval x= .pointer (some ⟨g,0,none⟩)) (hn:World.vb w g cs) (hs:cs.size=12) (h:wpStill Tryz.prog ops w Q rest (a.put o.dst (.agg cs))):wpStill Tryz.prog ops w Q (o :: rest) a:=by
 refine wpStill_step (fun K hK=> ?_)
 have:=run_load_at w g 0 39 cs _ (fun j u hj=>by rw[Nat.zero_add];exact hn.cell hj) Tryz.underlying39 rfl (by rw[hs];exact info34)
 have hw:Region.wanted o (yielded ops a.tmps)=true:=by simp[Region.wanted,hgd]
 rw[if_pos hw]
 unfold Oper.still execOp
 simp only[ho,hx,Instr.loadAt,Instr.sureAddr,Sem.run_bind,Sem.run_pure,Result.andThen_ok,this]
 exact⟨rfl,hK _ h⟩
theorem vr_dec {w w':World} {base b:Nat} {v:Value} {l:List (Int×Int)} {g n cap:Nat} {q:List Vl} (hd:World.dcr w base v l) (h:World.vr w b (.slice (some ⟨g,0,none⟩) n cap) q) (hg:w.grownBy w' v.ownBlock):World.vr w' b (.slice (some ⟨g,0,none⟩) n cap) q:=by
 refine World.ownsRow.kept h hg (.inr fun e=> ?_)
 obtain⟨_,h|⟨g',cap',cur',e',_,hb',_⟩⟩:=h
 ·cases h.1
 ·cases e'
  obtain⟨_,h|⟨g2,cap2,cur2,rfl,_,hb2,_⟩⟩:=hd
  ·rw[h.1]at e;cases e
  ·injection e with e
   have e:g=g2:=e
   rw[←e,hb']at hb2
   injection hb2 with h1
   cases h1
theorem vb_dec {w w':World} {base g:Nat} {v:Value} {l:List (Int×Int)} {cs:Array Value} (hd:World.dcr w base v l) (h:World.vb w g cs) (hlt:g<base) (hg:w.grownBy w' v.ownBlock):World.vb w' g cs:=by
 unfold World.vb at*
 rw[hg.block g (Array.getElem?_eq_some_iff.1 h).1 (fun e=>by have:=(World.ownsRow.lt hd g e.symm).1;omega)];exact h
theorem vr_pos {w:World} {base:Nat} {v:Value} {l:List Vl} (h:World.vr w base v l) (hl:l≠ []):∃g cap,v= .slice (some ⟨g,0,none⟩) l.length cap:=by
 obtain⟨_,h|⟨g,cap,cur,rfl,r⟩⟩:=h
 ·exact absurd (List.length_eq_zero_iff.1 h.2) hl
 ·exact⟨g,cap,rfl⟩
theorem flat1_ne {x:Vl} (h:ArrP x):flat1 x≠ []:=by
 unfold flat1
 rcases h with h|⟨hk,h⟩
 ·split
  ·rename_i hk
   rcases plain_cases h with e|⟨p,e,_⟩|⟨s,e,_⟩|⟨b,e⟩|⟨n,e,_⟩<;>rw[e]at hk<;>simp[numV,txtV,trV,errV]at hk
  ·simp
 ·rw[if_pos hk]
  unfold rightV at h
  rw[if_pos hk,Bool.and_eq_true]at h
  have h1:=h.1
  unfold dimsB at h1
  have h2:=of_decide_eq_true h1
  intro e
  rw[e]at h2
  have h3:1≤x.rows*x.cols:=Int.mul_pos (by omega) (by omega)
  simp only[List.length_nil]at h2
  omega
theorem bslice12 (a b c d e f g h i j k m:Value) (w:World):(Instr.buildSlice 31 1 #[(0,.agg #[a,b,c,d,e,f,g,h,i,j,k,m])]).run Tryz.prog w= .ok (.slice (some ⟨w.heap.size,0,none⟩) 1 1) (w.alloc (.cells #[a,b,c,d,e,f,g,h,i,j,k,m] 39)):=by kernel_rfl
theorem bslice_any (C:Array Value) (hC:C.size=12) (w:World):(Instr.buildSlice 31 1 #[(0,.agg C)]).run Tryz.prog w= .ok (.slice (some ⟨w.heap.size,0,none⟩) 1 1) (w.alloc (.cells C 39)):=by
 obtain⟨l⟩:=C
 match l,hC with
 | [a,b,c,d,e,f,g,h,i,j,k,m],_=>exact bslice12 a b c d e f g h i j k m w
section
variable {ops : Array Oper} {rest : List Oper} {o : Oper} {a : Act} {w : World} {Q : Exit → Act → World → Prop}
theorem wpList_bslC {x:Operand} {C:Array Value} (hgd:o.guard=none) (ho:o.op= .buildSlice 31 1 #[(0,x)]) (hx:a.eval x= .agg C) (hC:C.size=12) (h:wpList Tryz.prog ops Q rest (a.put o.dst (.slice (some ⟨w.heap.size,0,none⟩) 1 1)) (w.alloc (.cells C 39))):wpList Tryz.prog ops Q (o :: rest) a w:=
 wpList_plain hgd fun K hK=>by
  have hz:=bslice_any C hC w
  unfold Oper.wp execOp
  simp[ho,hx,hz]
  exact hK _ _ h
theorem wpList_loadDat {x:Operand} {g off:Nat} {cs:Array Value} (hgd:o.guard=none) (ho:o.op= .load 34 x) (hx:a.eval x= .pointer (some ⟨g,off,none⟩)) (hs:cs.size=2)
 (hc:∀j u,cs[j]? =some u→w.cell? ⟨g,off+j,none⟩=some u) (h:wpList Tryz.prog ops Q rest (a.put o.dst (.agg cs)) w):wpList Tryz.prog ops Q (o :: rest) a w:=
 wpList_plain hgd fun K hK=>by
  have:=run_load_at w g off 34 cs _ hc Tryz.underlying34 rfl (by rw[hs];exact info34d)
  unfold Oper.wp execOp
  simp only[ho,hx,Instr.loadAt,Instr.sureAddr,Sem.run_bind,Sem.run_pure,Result.andThen_ok,this]
  exact hK _ _ h
end
/-- A value's number lies in its block. -/
theorem dec_in {w:World} {g:Nat} {y:Vl} (h:World.vb w g (pcs y)):∀(j:Nat) (u:Value),(#[.int .i64 y.m,.int .i64 y.e]:Array Value)[j]? =some u→w.cell? ⟨g,1+j,none⟩=some u:=by
 intro j u hj
 match j,hj with
 |0,hj=>rw[←hj];exact h.cell rfl
 |1,hj=>rw[←hj];exact h.cell rfl
 |j+2,hj=>simp at hj
/-- Numbers, or the first error. -/
def NumPost (xs:List Vl) (w:World) (e:Ending) (w':World):Prop:=∃v y,e= .returned (.tuple #[v,.agg (pcs y)])∧Below w.heap.size w w'∧
 (((numY xs).find? isF=some y∧v=nilS)∨((numY xs).find? isF=none∧y= {}∧World.dcr w' w.heap.size v (decsOf (numY xs))))
set_option maxRecDepth 100000 in
set_option maxHeartbeats 8000000 in
theorem numbers_any (xs:List Vl) (L:Value) (w:World) (hA:ArgsAt w L xs) (hn:xs.length≤25) (hE:Env w):Calls Tryz.prog 254 #[L] w (NumPost xs w):=by
 obtain⟨p,c,rfl,_⟩:=id hA.1
 have HAA:=Lib.hid (show ∀W,Below w.heap.size w W→ArgsAt W (.slice p xs.length c) xs from fun W hW=>hA.below hW)
 have HEN:=Lib.hid (show ∀W,Below w.heap.size w W→Env W from fun W hW=>hE.below hW)
 have HP:=Lib.hid hA.2
 clear hA hE
 go_enter Tryz.func254,Tryz.ntmps254
 go_wp2_with (refine wpList_alloc34 rfl rfl ?_)
 have hvy0:World.vb (w.alloc (.cells vz 39)) w.heap.size vz:=World.vb_new w vz
 have hB0:Below w.heap.size w (w.alloc (.cells vz 39)):=(Below.refl _ w).alloc (Nat.le_refl _) _
 go_loopw [2,10] (fun s i wr=>∃K:Nat,i= .int .i64 (K:Int)∧K≤xs.length∧Hid (World.dcr wr (w.heap.size+1) s (decsOf (numY (xs.take K))))∧Hid ((numY (xs.take K)).find? isF=none)∧Hid (World.vb wr w.heap.size vz)∧Below w.heap.size w wr) (fun _ i _=>xs.length-(intOf i).toNat)
 case atStart=>exact⟨0,rfl,Nat.zero_le _,dcr_nil _ _,rfl,hvy0,hB0⟩
 case round=>
  clear hvy0 hB0
  obtain⟨K,rfl,hK,HR,HF,HV,hB⟩:=hrel
  by_cases hlt:K<xs.length
  ·have hKI:(K:Int)<(xs.length:Int):=by omega
   obtain⟨x,hxK⟩:∃x,xs[K]? =some x:=⟨_,List.getElem?_eq_getElem hlt⟩
   have hap:=HP.out x (List.mem_of_getElem? hxK)
   obtain⟨p',c',e0,_,_,_,_,H⟩:=(HAA.out wr hB).1
   injection e0 with e1 e2 e3
   obtain⟨g,off,cs,hp,hg,hcs,hrp,hcell⟩:=H K x hxK
   rw[hp]at e1
   subst e1 e3
   have hone:=hrp.one
   have h0:cs[0]? =some (.int .i64 x.k):=by obtain⟨L',Bs,Ps,e,_⟩:=hrp;injection e with e;rw[e];rfl
   have hvl:=HV.out.lt
   have hBz:=hB.size
   -- what the box holds behind the test
   have HTK:Hid (numY (xs.take (K+1))=numY (xs.take K)++flat1 (tnV x)):=by
    have htk:xs.take (K+1)=xs.take K++ [x]:=by rw[List.take_add_one,hxK];rfl
    show _=_
    rw[htk,numY,List.map_append,List.map_singleton,flatV_snoc];rfl
   have HZ:Hid (∀W,Below wr.heap.size wr W→Below wr.heap.size wr W):=fun W h=>h
   have hAt:At x cs wr:=⟨hrp,hone,hap⟩
   have HO:=Lib.hid hone
   have HC0:=Lib.hid h0
   have HAT:=Lib.hid hAt
   have HAP:=Lib.hid hap
   clear hap hxK hone h0 hp hg H hrp hAt
   go_upto_region 4 with (first|refine wpList_load34at rfl rfl rfl hcs hcell ?_|refine wpList_alloc34 rfl rfl ?_|(refine wpList_store34 rfl rfl rfl rfl (World.vb_new' _ _ _ rfl) (by rfl) HO.out ?_;intro w1 hn1 hg1 hz1))
   have c0:=hn1.cell HC0.out
   have hb1:Below wr.heap.size wr w1:=((Below.refl _ wr).alloc (Nat.le_refl _) (.cells vz 39)).grown hg1 (by simp) (fun k hk=>by cases hk;exact Nat.le_refl _)
   have HR1:=Lib.hid (HR.out.below hb1)
   have HV1:=Lib.hid (HV.out.below hb1 HV.out.lt)
   have hB1:=hB.trans (hb1.mono hBz)
   have HAT1:=Lib.hid (HAT.out.below hb1)
   have HN1:=Lib.hid hn1
   clear hcell hg1 hz1 hn1
   by_cases hk:x.k=2∨x.k=3
   ·clear HR1 HV1 hB1
    have hpx:plainV x=true:=by
     rcases HAP.out with h|h
     ·exact h
     ·omega
    have hz:tnV x=numT x:=if_pos hk
    have HTZ:numY (xs.take (K+1))=numY (xs.take K)++flat1 (numT x):=by rw[HTK.out,hz]
    have hcp:cs=pcs x:=by
     have h:=plain_cells HAT1.out.1 hpx
     injection h
    have HCT:=Lib.hid (show ∀W,Below w.heap.size w W→Calls Tryz.prog 220 #[.agg cs] W (Gives (.agg (pcs (numT x))) W)from fun W hW=>by rw[hcp];exact tonum_one x W hpx (HEN.out W hW).1 (HEN.out W hW).2)
    have HBW1:=Lib.hid (hB.trans (hb1.mono hBz))
    have HPZ:=Lib.hid (numT_plain hpx)
    clear HTK hz HZ hcp hpx HAT1
    have hkk:(x.k=2)∨(x.k≠2∧x.k=3):=by omega
    have hkb:((x.k==2)=true)∨((x.k==2)=false∧(x.k==3)=true):=by
     rcases hkk with h|⟨h,h'⟩
     ·exact .inl (by simpa using h)
     ·exact .inr ⟨by simpa using h,by simpa using h'⟩
    clear hkk hk
    obtain hb2|⟨hb2,hb3⟩:=hkb
    all_goals
     go_upto_region 6 with (first|refine wpList_load34 rfl rfl rfl HN1.out HO.out.1 ?_|(go_at_call 220;refine(HCT.out _ HBW1.out).mono ?_;rintro e w2 ⟨rfl,hB2⟩;have hn2:=HN1.out.below hB2 HN1.out.lt)|(refine wpList_store34 rfl rfl rfl rfl hn2 HO.out.1 (pcs_one _) ?_;intro w3 hn3 hg3 hz3))
     have hb3':Below wr.heap.size wr w3:=(hb1.trans (hB2.mono hb1.size)).grown hg3 (Nat.le_trans hb1.size hB2.size) (fun k hk=>by cases hk;exact Nat.le_refl _)
     have HRW:=Lib.hid (HR.out.below hb3')
     have HVW:=Lib.hid (HV.out.below hb3' HV.out.lt)
     have hBW:=hB.trans (hb3'.mono hBz)
     obtain⟨z,hzx⟩:∃z,z=numT x:=⟨_,rfl⟩
     obtain⟨cz,hcz⟩:∃c,c=pcs (numT x):=⟨_,rfl⟩
     have HZA:Hid (At z cz w3):=by rw[hzx,hcz];exact at_plain HPZ.out
     have HN:Hid (World.vb w3 wr.heap.size cz):=by rw[hcz];exact hn3
     rw[←hzx]at HTZ
     try simp only[Act.put]
     try rw[←hcz]
     clear HN1 c0 hb1 hb2 hzx hcz HO HC0 HAP hcs hBz hvl hb3' hn3 hg3 hz3 hn2 hB2 HBW1 HPZ HCT HR HV HAT hB
     try clear hb3
     have HQN:=flat1_ne HZA.out.2.2
     have HQP:=Lib.hid (flat1_plain HZA.out.2.2)
     have HQL:=Lib.hid (flat1_len HZA.out.2.2)
     have HZO:=Lib.hid HZA.out.2.1
     go_wp2_with (first|refine wpList_load34 rfl rfl rfl HN.out HZO.out.1 ?_|refine wpList_bslC rfl rfl rfl HZO.out.1 ?_)
     obtain⟨W5,hW5⟩:∃W,W=w3.alloc (.cells cz 39):=⟨_,rfl⟩
     rw[←hW5]
     have hb5:Below w3.heap.size w3 W5:=by rw[hW5];exact(Below.refl _ _).alloc (Nat.le_refl _) _
     have hn5:World.vb W5 w3.heap.size cz:=by rw[hW5];exact World.vb_new _ _
     clear hW5
     refine(flat_any [z] _ W5 (args_one (HZA.out.below hb5) hn5) (by simp)).mono ?_
     rintro e W6 ⟨v6,rfl,hr6,hb6⟩
     have hb7:=hb5.trans (hb6.mono hb5.size)
     have HR6:=Lib.hid (HRW.out.below hb7)
     have HV6:=Lib.hid (HVW.out.below hb7 HVW.out.lt)
     have hB6:=hBW.trans (hb7.mono hBW.size)
     have e1:flatV [z]=flat1 z:=by simp[flatV]
     rw[e1]at hr6
     obtain⟨Qs,hQs⟩:∃q,q=flat1 z:=⟨_,rfl⟩
     rw[←hQs]at hr6 HQN HQP HQL HTZ
     obtain⟨g6,cap6,rfl⟩:=vr_pos hr6 HQN
     obtain⟨b6,hb6'⟩:∃b,b=W5.heap.size:=⟨_,rfl⟩
     rw[←hb6']at hr6
     have hb6l:w.heap.size<b6:=by rw[hb6'];have:=HVW.out.lt;have:=hb5.size;omega
     have HR66:=Lib.hid hr6
     have HTZ:=Lib.hid HTZ
     clear hb5 hn5 hb6 hb7 e1 hQs hb6' hr6 HQN HRW HVW hBW HN HZA HZO
     go_wp2_with fail
     go_loopw [2,28] (fun s j wr=>∃J:Nat,j= .int .i64 (J:Int)∧J≤Qs.length∧Hid (World.dcr wr (w.heap.size+1) s (decsOf (numY (xs.take K)++Qs.take J)))∧Hid ((Qs.take J).find? isF=none)∧Hid (World.vb wr w.heap.size vz)∧Hid (World.vr wr b6 (.slice (some ⟨g6,0,none⟩) Qs.length cap6) Qs)∧Below w.heap.size w wr) (fun _ j _=>Qs.length-(intOf j).toNat)
     case atStart=>exact⟨0,rfl,Nat.zero_le _,by rw[List.take_zero,List.append_nil];exact HR6,rfl,HV6,HR66,hB6⟩
     case round=>
      clear HR6 HV6 HR66 hB6
      obtain⟨J,rfl,hJ,HRI,HFI,HVI,HQI,hBI⟩:=hrel
      have hQ4:Qs.length≤400:=HQL.out
      by_cases hJlt:J<Qs.length
      ·have hJI:(J:Int)<(Qs.length:Int):=by omega
       obtain⟨y,hyJ⟩:∃y,Qs[J]? =some y:=⟨_,List.getElem?_eq_getElem hJlt⟩
       have hyp:=HQP.out y (List.mem_of_getElem? hyJ)
       have hcy:=vr_cells HQI.out hyJ
       have htJ:Qs.take (J+1)=Qs.take J++ [y]:=by rw[List.take_add_one,hyJ];rfl
       have hk6:y.k≠6∧y.k≠5:=by
        rcases plain_cases hyp with e|⟨p,e,_⟩|⟨s,e,_⟩|⟨b,e⟩|⟨n,e,_⟩<;>rw[e]<;>simp[numV,txtV,trV,errV]
       have HTJ:=Lib.hid htJ
       have HYP:=Lib.hid hyp
       have HYJ:=Lib.hid hyJ
       have hBIz:=hBI.size
       clear htJ hyp hyJ
       go_upto_region 9 with (first|refine wpList_load34at rfl rfl rfl rfl hcy ?_|refine wpList_alloc34 rfl rfl ?_|(refine wpList_store34 rfl rfl rfl rfl (World.vb_new' _ _ _ rfl) (by rfl) (pcs_one _) ?_;intro w7 hn7 hg7 hz7))
       have hb7:Below wr.heap.size wr w7:=((Below.refl _ wr).alloc (Nat.le_refl _) (.cells vz 39)).grown hg7 (by simp) (fun k hk=>by cases hk;exact Nat.le_refl _)
       have c0:w7.cell? ⟨wr.heap.size,0,none⟩=some (.int .i64 y.k):=hn7.cell rfl
       have HN7:=Lib.hid hn7
       have HR7:=Lib.hid (HRI.out.below hb7)
       have HV7:=Lib.hid (HVI.out.below hb7 HVI.out.lt)
       have HQ7:=Lib.hid (HQI.out.below hb7)
       have hB7:=hBI.trans (hb7.mono hBIz)
       have hB7z:=hB7.size
       clear hg7 hz7 hb7 hn7 hcy HRI HVI HQI hBI hBIz
       by_cases hk4:y.k=4
       ·rw[hk4]at c0
        go_upto_region 11 with fail
        have hn7:=HN7.out
        have hv7:=HV7.out
        clear c0
        have hn7:=hn7.drew
        have hv7:=hv7.drew
        have hB7:=hB7.drew
        refine wp_region_still_tail 2 (by kernel_rfl) (by kernel_rfl) ?_
        change wpStill _ _ w7.drew _ _ _
        simp only[List.take_succ_cons,List.take_zero,List.drop_succ_cons,List.drop_zero]
        refine wpStill_load34 rfl rfl rfl hn7 (by rfl) ?_
        simp only[Act.put,List.setIfInBounds_toArray,List.set_cons_zero,List.set_cons_succ]
        still_step
        refine wpStill_nil ?_
        change wpList _ _ _ _ _ w7.drew
        go_wp2_with (refine wpList_store34 rfl rfl rfl rfl hv7 (by rfl) (pcs_one _) ?_;intro w9 hn9 hg9 hz9)
        have hQs:Qs.find? isF=some y:=by
         rw[←List.take_append_drop (J+1) Qs,HTJ.out,List.find?_append,List.find?_append,HFI.out]
         simp[isF,hk4]
        have hall:(numY xs).find? isF=some y:=by
         have h1:numY xs=numY (xs.take (K+1))++numY (xs.drop (K+1)):=by rw[←numY_app,List.take_append_drop]
         rw[h1,HTZ.out,List.find?_append,List.find?_append,HF.out,hQs];rfl
        refine bodyPost_ret (results_tmp_vl rfl _ _ _ _ rfl hn9 (by rfl)) rfl ?_
        exact⟨_,_,rfl,hB7.grown hg9 hB7.size (fun k9 hk9=>by cases hk9;omega),.inl ⟨hall,rfl⟩⟩
       ·by_cases hk1:y.k=1
        ·rw[hk1]at c0
         have hdi:=dec_in HN7.out
         have hlenD:(decsOf (numY (xs.take K)++Qs.take J)).length≤20000:=by
          refine Nat.le_trans (decsOf_len _) ?_
          rw[List.length_append,List.length_take]
          have h1:=flatV_len (xs:=(xs.take K).map tnV) (fun q hq=>by obtain⟨q',hq',rfl⟩:=List.mem_map.1 hq;exact tnV_arr (HP.out q' (List.mem_of_mem_take hq')))
          rw[List.length_map,List.length_take]at h1
          have:=HQL.out
          show(flatV _).length+_≤_
          omega
         have HLD:=Lib.hid hlenD
         have HR8:=Lib.hid (show World.dcr (w7.alloc (.cells #[.int .i64 y.m,.int .i64 y.e] 34)) (w.heap.size+1) _ _ from HR7.out.below ((Below.refl _ w7).alloc (Nat.le_refl _) _))
         clear hlenD
         go_wp2_with (first|refine wpList_loadDat rfl rfl rfl rfl hdi ?_|refine wpList_bslD rfl rfl rfl ?_|(refine wpList_pushD rfl rfl HR8.out HLD.out rfl rfl (World.dec_new w7 _ _ _ rfl) (by have:=HV7.out.lt;simp;omega) ?_;intro v8 w8 hr8 hg8))
         have hvb8:=HV7.out.below (Below.refl _ _ |>.alloc (Nat.le_refl _) (.cells #[.int .i64 y.m,.int .i64 y.e] 34)) HV7.out.lt
         have hq8:=World.vr.below HQ7.out ((Below.refl _ w7).alloc (Nat.le_refl _) (.cells #[.int .i64 y.m,.int .i64 y.e] 34))
         have hB8:=hB7.trans (((Below.refl _ w7).alloc (Nat.le_refl _) (.cells #[.int .i64 y.m,.int .i64 y.e] 34)).mono hB7z)
         refine⟨⟨J+1,by go_num,by omega,?_,?_,vb_dec HR8.out hvb8 (Nat.lt_succ_self _) hg8,vr_dec HR8.out hq8 hg8,dcr_grown HR8.out (Nat.le_succ _) hB8 hB8.size hg8⟩,by simp[intOf];omega⟩
         ·have e:decsOf (numY (xs.take K)++Qs.take (J+1))=decsOf (numY (xs.take K)++Qs.take J)++ [(y.m,y.e)]:=by
           rw[HTJ.out,←List.append_assoc,decsOf_app _ [y]]
           simp[decsOf,hk1]
          rw[e];exact hr8
         ·show _=_
          rw[HTJ.out,List.find?_append,HFI.out]
          have:isF y=false:=by unfold isF;simpa using hk4
          simp[this]
        ·have hk1b:¬(y.k=1):=hk1
         have hk6b:¬(y.k=6):=hk6.1
         go_wp2_with fail
         go_roundw
         case rel=>
          refine⟨J+1,by go_num,by omega,?_,?_,HV7,HQ7,hB7⟩
          ·have e:decsOf (numY (xs.take K)++Qs.take (J+1))=decsOf (numY (xs.take K)++Qs.take J):=by
            rw[HTJ.out,←List.append_assoc,decsOf_app _ [y]]
            have:decsOf [y]= []:=by simp[decsOf,hk1]
            rw[this,List.append_nil]
           rw[e];exact HR7
          ·show _=_
           rw[HTJ.out,List.find?_append,HFI.out]
           have:isF y=false:=by unfold isF;simpa using hk4
           simp[this]
         case measure=>simp[intOf];omega
      ·obtain rfl:J=Qs.length:=by omega
       have hJI:¬((Qs.length:Int)<(Qs.length:Int)):=by omega
       go_wp2_with fail
       go_roundw
       case rel=>
        refine⟨K+1,by go_num,by omega,?_,?_,HVI,hBI⟩
        ·have h:=HRI.out
         rw[List.take_length]at h
         show World.dcr _ _ _ (decsOf (numY (xs.take (K+1))))
         rw[HTZ.out];exact h
        ·show _=_
         have h:=HFI.out
         rw[List.take_length]at h
         rw[HTZ.out,List.find?_append,HF.out,h];rfl
       case measure=>simp[intOf];omega
   ·have hk2:¬(x.k=2):=fun h=>hk (.inl h)
    have hk3:¬(x.k=3):=fun h=>hk (.inr h)
    have hb2:(x.k==2)=false:=by simpa using hk2
    have hb3:(x.k==3)=false:=by simpa using hk3
    have hz:tnV x=x:=if_neg hk
    have HTZ:numY (xs.take (K+1))=numY (xs.take K)++flat1 x:=by rw[HTK.out,hz]
    clear HTK hz HZ HR HV HAT hB
    go_upto_region 6 with fail
    obtain⟨z,hzx⟩:∃z,z=x:=⟨_,rfl⟩
    obtain⟨cz,hcz⟩:∃z,z=cs:=⟨_,rfl⟩
    have HZA:Hid (At z cz w1):=by rw[hzx,hcz];exact HAT1
    have HN:Hid (World.vb w1 wr.heap.size cz):=by rw[hcz];exact HN1
    rw[←hzx]at HTZ
    have HRW:=HR1
    have HVW:=HV1
    have hBW:=hB1
    clear HAT1 HN1 HR1 HV1 hB1 c0 hk hk2 hk3 hb2 hb3 hzx hcz HO HC0 HAP hcs hBz hvl hb1
    have HQN:=flat1_ne HZA.out.2.2
    have HQP:=Lib.hid (flat1_plain HZA.out.2.2)
    have HQL:=Lib.hid (flat1_len HZA.out.2.2)
    have HZO:=Lib.hid HZA.out.2.1
    go_wp2_with (first|refine wpList_load34 rfl rfl rfl HN.out HZO.out.1 ?_|refine wpList_bslC rfl rfl rfl HZO.out.1 ?_)
    obtain⟨W5,hW5⟩:∃W,W=w1.alloc (.cells cz 39):=⟨_,rfl⟩
    rw[←hW5]
    have hb5:Below w1.heap.size w1 W5:=by rw[hW5];exact(Below.refl _ _).alloc (Nat.le_refl _) _
    have hn5:World.vb W5 w1.heap.size cz:=by rw[hW5];exact World.vb_new _ _
    clear hW5
    refine(flat_any [z] _ W5 (args_one (HZA.out.below hb5) hn5) (by simp)).mono ?_
    rintro e W6 ⟨v6,rfl,hr6,hb6⟩
    have hb7:=hb5.trans (hb6.mono hb5.size)
    have HR6:=Lib.hid (HRW.out.below hb7)
    have HV6:=Lib.hid (HVW.out.below hb7 HVW.out.lt)
    have hB6:=hBW.trans (hb7.mono hBW.size)
    have e1:flatV [z]=flat1 z:=by simp[flatV]
    rw[e1]at hr6
    obtain⟨Qs,hQs⟩:∃q,q=flat1 z:=⟨_,rfl⟩
    rw[←hQs]at hr6 HQN HQP HQL HTZ
    obtain⟨g6,cap6,rfl⟩:=vr_pos hr6 HQN
    obtain⟨b6,hb6'⟩:∃b,b=W5.heap.size:=⟨_,rfl⟩
    rw[←hb6']at hr6
    have hb6l:w.heap.size<b6:=by rw[hb6'];have:=HVW.out.lt;have:=hb5.size;omega
    have HR66:=Lib.hid hr6
    have HTZ:=Lib.hid HTZ
    clear hb5 hn5 hb6 hb7 e1 hQs hb6' hr6 HQN HRW HVW hBW HN HZA HZO
    go_wp2_with fail
    go_loopw [2,28] (fun s j wr=>∃J:Nat,j= .int .i64 (J:Int)∧J≤Qs.length∧Hid (World.dcr wr (w.heap.size+1) s (decsOf (numY (xs.take K)++Qs.take J)))∧Hid ((Qs.take J).find? isF=none)∧Hid (World.vb wr w.heap.size vz)∧Hid (World.vr wr b6 (.slice (some ⟨g6,0,none⟩) Qs.length cap6) Qs)∧Below w.heap.size w wr) (fun _ j _=>Qs.length-(intOf j).toNat)
    case atStart=>exact⟨0,rfl,Nat.zero_le _,by rw[List.take_zero,List.append_nil];exact HR6,rfl,HV6,HR66,hB6⟩
    case round=>
     clear HR6 HV6 HR66 hB6
     obtain⟨J,rfl,hJ,HRI,HFI,HVI,HQI,hBI⟩:=hrel
     have hQ4:Qs.length≤400:=HQL.out
     by_cases hJlt:J<Qs.length
     ·have hJI:(J:Int)<(Qs.length:Int):=by omega
      obtain⟨y,hyJ⟩:∃y,Qs[J]? =some y:=⟨_,List.getElem?_eq_getElem hJlt⟩
      have hyp:=HQP.out y (List.mem_of_getElem? hyJ)
      have hcy:=vr_cells HQI.out hyJ
      have htJ:Qs.take (J+1)=Qs.take J++ [y]:=by rw[List.take_add_one,hyJ];rfl
      have hk6:y.k≠6∧y.k≠5:=by
       rcases plain_cases hyp with e|⟨p,e,_⟩|⟨s,e,_⟩|⟨b,e⟩|⟨n,e,_⟩<;>rw[e]<;>simp[numV,txtV,trV,errV]
      have HTJ:=Lib.hid htJ
      have HYP:=Lib.hid hyp
      have HYJ:=Lib.hid hyJ
      have hBIz:=hBI.size
      clear htJ hyp hyJ
      go_upto_region 9 with (first|refine wpList_load34at rfl rfl rfl rfl hcy ?_|refine wpList_alloc34 rfl rfl ?_|(refine wpList_store34 rfl rfl rfl rfl (World.vb_new' _ _ _ rfl) (by rfl) (pcs_one _) ?_;intro w7 hn7 hg7 hz7))
      have hb7:Below wr.heap.size wr w7:=((Below.refl _ wr).alloc (Nat.le_refl _) (.cells vz 39)).grown hg7 (by simp) (fun k hk=>by cases hk;exact Nat.le_refl _)
      have c0:w7.cell? ⟨wr.heap.size,0,none⟩=some (.int .i64 y.k):=hn7.cell rfl
      have HN7:=Lib.hid hn7
      have HR7:=Lib.hid (HRI.out.below hb7)
      have HV7:=Lib.hid (HVI.out.below hb7 HVI.out.lt)
      have HQ7:=Lib.hid (HQI.out.below hb7)
      have hB7:=hBI.trans (hb7.mono hBIz)
      have hB7z:=hB7.size
      clear hg7 hz7 hb7 hn7 hcy HRI HVI HQI hBI hBIz
      by_cases hk4:y.k=4
      ·rw[hk4]at c0
       go_upto_region 11 with fail
       have hn7:=HN7.out
       have hv7:=HV7.out
       clear c0
       have hn7:=hn7.drew
       have hv7:=hv7.drew
       have hB7:=hB7.drew
       refine wp_region_still_tail 2 (by kernel_rfl) (by kernel_rfl) ?_
       change wpStill _ _ w7.drew _ _ _
       simp only[List.take_succ_cons,List.take_zero,List.drop_succ_cons,List.drop_zero]
       refine wpStill_load34 rfl rfl rfl hn7 (by rfl) ?_
       simp only[Act.put,List.setIfInBounds_toArray,List.set_cons_zero,List.set_cons_succ]
       still_step
       refine wpStill_nil ?_
       change wpList _ _ _ _ _ w7.drew
       go_wp2_with (refine wpList_store34 rfl rfl rfl rfl hv7 (by rfl) (pcs_one _) ?_;intro w9 hn9 hg9 hz9)
       have hQs:Qs.find? isF=some y:=by
        rw[←List.take_append_drop (J+1) Qs,HTJ.out,List.find?_append,List.find?_append,HFI.out]
        simp[isF,hk4]
       have hall:(numY xs).find? isF=some y:=by
        have h1:numY xs=numY (xs.take (K+1))++numY (xs.drop (K+1)):=by rw[←numY_app,List.take_append_drop]
        rw[h1,HTZ.out,List.find?_append,List.find?_append,HF.out,hQs];rfl
       refine bodyPost_ret (results_tmp_vl rfl _ _ _ _ rfl hn9 (by rfl)) rfl ?_
       exact⟨_,_,rfl,hB7.grown hg9 hB7.size (fun k9 hk9=>by cases hk9;omega),.inl ⟨hall,rfl⟩⟩
      ·by_cases hk1:y.k=1
       ·rw[hk1]at c0
        have hdi:=dec_in HN7.out
        have hlenD:(decsOf (numY (xs.take K)++Qs.take J)).length≤20000:=by
         refine Nat.le_trans (decsOf_len _) ?_
         rw[List.length_append,List.length_take]
         have h1:=flatV_len (xs:=(xs.take K).map tnV) (fun q hq=>by obtain⟨q',hq',rfl⟩:=List.mem_map.1 hq;exact tnV_arr (HP.out q' (List.mem_of_mem_take hq')))
         rw[List.length_map,List.length_take]at h1
         have:=HQL.out
         show(flatV _).length+_≤_
         omega
        have HLD:=Lib.hid hlenD
        have HR8:=Lib.hid (show World.dcr (w7.alloc (.cells #[.int .i64 y.m,.int .i64 y.e] 34)) (w.heap.size+1) _ _ from HR7.out.below ((Below.refl _ w7).alloc (Nat.le_refl _) _))
        clear hlenD
        go_wp2_with (first|refine wpList_loadDat rfl rfl rfl rfl hdi ?_|refine wpList_bslD rfl rfl rfl ?_|(refine wpList_pushD rfl rfl HR8.out HLD.out rfl rfl (World.dec_new w7 _ _ _ rfl) (by have:=HV7.out.lt;simp;omega) ?_;intro v8 w8 hr8 hg8))
        have hvb8:=HV7.out.below (Below.refl _ _ |>.alloc (Nat.le_refl _) (.cells #[.int .i64 y.m,.int .i64 y.e] 34)) HV7.out.lt
        have hq8:=World.vr.below HQ7.out ((Below.refl _ w7).alloc (Nat.le_refl _) (.cells #[.int .i64 y.m,.int .i64 y.e] 34))
        have hB8:=hB7.trans (((Below.refl _ w7).alloc (Nat.le_refl _) (.cells #[.int .i64 y.m,.int .i64 y.e] 34)).mono hB7z)
        refine⟨⟨J+1,by go_num,by omega,?_,?_,vb_dec HR8.out hvb8 (Nat.lt_succ_self _) hg8,vr_dec HR8.out hq8 hg8,dcr_grown HR8.out (Nat.le_succ _) hB8 hB8.size hg8⟩,by simp[intOf];omega⟩
        ·have e:decsOf (numY (xs.take K)++Qs.take (J+1))=decsOf (numY (xs.take K)++Qs.take J)++ [(y.m,y.e)]:=by
          rw[HTJ.out,←List.append_assoc,decsOf_app _ [y]]
          simp[decsOf,hk1]
         rw[e];exact hr8
        ·show _=_
         rw[HTJ.out,List.find?_append,HFI.out]
         have:isF y=false:=by unfold isF;simpa using hk4
         simp[this]
       ·have hk1b:¬(y.k=1):=hk1
        have hk6b:¬(y.k=6):=hk6.1
        go_wp2_with fail
        go_roundw
        case rel=>
         refine⟨J+1,by go_num,by omega,?_,?_,HV7,HQ7,hB7⟩
         ·have e:decsOf (numY (xs.take K)++Qs.take (J+1))=decsOf (numY (xs.take K)++Qs.take J):=by
           rw[HTJ.out,←List.append_assoc,decsOf_app _ [y]]
           have:decsOf [y]= []:=by simp[decsOf,hk1]
           rw[this,List.append_nil]
          rw[e];exact HR7
         ·show _=_
          rw[HTJ.out,List.find?_append,HFI.out]
          have:isF y=false:=by unfold isF;simpa using hk4
          simp[this]
        case measure=>simp[intOf];omega
     ·obtain rfl:J=Qs.length:=by omega
      have hJI:¬((Qs.length:Int)<(Qs.length:Int)):=by omega
      go_wp2_with fail
      go_roundw
      case rel=>
       refine⟨K+1,by go_num,by omega,?_,?_,HVI,hBI⟩
       ·have h:=HRI.out
        rw[List.take_length]at h
        show World.dcr _ _ _ (decsOf (numY (xs.take (K+1))))
        rw[HTZ.out];exact h
       ·show _=_
        have h:=HFI.out
        rw[List.take_length]at h
        rw[HTZ.out,List.find?_append,HF.out,h];rfl
      case measure=>simp[intOf];omega
  ·have hKI:¬(K:Int)<(xs.length:Int):=by omega
   have hvy:=HV.out
   go_wp2_with (first|refine wpList_build_zero rfl rfl ?_|(refine wpList_store34 rfl rfl rfl rfl hvy (by rfl) (pcs_one _) ?_;intro w9 hn9 hg9 hz9))
   refine bodyPost_ret (results_tmp_vl rfl _ _ _ _ rfl hn9 (by rfl)) rfl ?_
   refine⟨_,_,rfl,hB.grown hg9 hB.size (fun k9 hk9=>by cases hk9;omega),.inr ⟨?_,rfl,?_⟩⟩
   ·have:=HF.out
    rwa [List.take_of_length_le (by omega)]at this
   ·have:=HR.out
    rw[List.take_of_length_le (by omega)]at this
    exact dcr_mono (this.but hg9 (by omega)) (by omega)
end Go.Proofs.YtmhfioimgllgeaaGreatDoor
namespace Go.Proofs.YtmhfioimgllgeaaGreatDoor
open Go Go.RowKit Go.Shelf
/-- A decimal and an error's number, as a value. -/
def toldV (p:Int×Int) (k:Int):Vl:=if k=0 then numV p else if k=11 then errV 2 else errV 6
theorem toldV_plain {p:Int×Int} {k:Int} (h:RightP p):plainV (toldV p k)=true:=by
 unfold toldV
 split
 ·exact plain_num h
 ·split<;>decide
theorem nearF_right (s:Bool) (D:Nat) (m:Bool):∀(n:Nat) (e:Int),-9≤e→e+n≤10→RightP (nearF s D m n e).1
 |0,_,_,_=>right_nought
 |n+1,e,h0,h1=>by
  rw[nearF]
  split
  ·rename_i h;exact decOf_right s h h0 (by omega)
  ·exact nearF_right s D m n (e+1) (by omega) (by omega)
theorem addD_right (M E M' E':Int):RightP (addD M E M' E').1:=by
 unfold addD
 split
 ·exact nearF_right _ _ _ 19 (-9) (by omega) (by omega)
 ·exact right_nought
/-- The sum from the left, up to the first error. -/
def foldA :Int×Int→List (Int×Int)→(Int×Int)×Int
 |a,[]=>(a,0)
 |a,p :: l=>if(addD a.1 a.2 p.1 p.2).2=0 then foldA (addD a.1 a.2 p.1 p.2).1 l else((0,0),(addD a.1 a.2 p.1 p.2).2)
theorem dsC_at :∀(l:List (Int×Int)) (k j:Nat) {p:Int×Int} {u:Value},l[k]? =some p→(#[.int .i64 p.1,.int .i64 p.2]:Array Value)[j]? =some u→(dsC l)[k*2+j]? =some u
 | [],k,j,p,u,h,_=>by simp at h
 |q :: l,0,j,p,u,h,hj=>by
  have e:q=p:=by simpa using h
  subst e
  have h3:dsC (q :: l)= [.int .i64 q.1,.int .i64 q.2]++dsC l:=rfl
  rw[h3,Nat.zero_mul,Nat.zero_add]
  match j,hj with
  |0,hj=>simpa using hj
  |1,hj=>simpa using hj
  |j+2,hj=>simp at hj
 |q :: l,k+1,j,p,u,h,hj=>by
  have h1:l[k]? =some p:=by simpa using h
  have h2:=dsC_at l k j h1 hj
  have h3:dsC (q :: l)= .int .i64 q.1 :: .int .i64 q.2 :: dsC l:=rfl
  have h4:(k+1)*2+j=(k*2+j)+1+1:=by omega
  rw[h3,h4,List.getElem?_cons_succ,List.getElem?_cons_succ]
  exact h2
theorem dcr_cells {w:World} {base:Nat} {l:List (Int×Int)} {g n cap:Nat} (h:World.dcr w base (.slice (some ⟨g,0,none⟩) n cap) l) {k:Nat} {p:Int×Int} (hx:l[k]? =some p) (j:Nat) (u:Value) (hj:(#[.int .i64 p.1,.int .i64 p.2]:Array Value)[j]? =some u):w.cell? ⟨g,k*2+j,none⟩=some u:=by
 obtain⟨hlen,h|⟨g',cap',cur,e,hb,hc,hn,hm,hs,ht⟩⟩:=h
 ·cases h.1
 ·injection e with e1 e2 e3
  injection e1 with e1
  injection e1 with e1
  subst e1
  rw[cell_of_row w g _ _ _ _ hc]
  have:=dsC_at l k j hx hj
  rw[←ht]at this
  have h2:=(List.getElem?_eq_some_iff.1 this).1
  rw[List.length_take]at h2
  rw[List.getElem?_take,if_pos (by omega)]at this
  simpa using this
theorem dcr_slice {w:World} {base:Nat} {v:Value} {l:List (Int×Int)} (h:World.dcr w base v l):∃p c,v= .slice p l.length c∧(l≠ []→∃g,p=some ⟨g,0,none⟩):=by
 obtain⟨_,h|⟨g,cap,cur,rfl,r⟩⟩:=h
 ·exact⟨none,0,by rw[h.1,h.2],fun e=>absurd (List.length_eq_zero_iff.1 h.2) e⟩
 ·exact⟨_,cap,rfl,fun _=>⟨g,rfl⟩⟩
theorem dec_cells {w:World} {g:Nat} {M E:Int} (h:World.dec w g M E):∀(j:Nat) (u:Value),(#[.int .i64 M,.int .i64 E]:Array Value)[j]? =some u→w.cell? ⟨g,0+j,none⟩=some u:=by
 intro j u hj
 match j,hj with
 |0,hj=>rw[←hj];exact h.c0
 |1,hj=>rw[←hj];exact h.c1
 |j+2,hj=>simp at hj
theorem enters44 :∀args w,(callFunc 44 args).run Tryz.prog w= .ok (.enter 44 args) w:=enters_of Tryz.func44 (by kernel_rfl) rfl
theorem enters119 :∀args w,(callFunc 119 args).run Tryz.prog w= .ok (.enter 119 args) w:=enters_of Tryz.func119 (by kernel_rfl) rfl
theorem enters31 :∀args w,(callFunc 31 args).run Tryz.prog w= .ok (.enter 31 args) w:=enters_of Tryz.func31 (by kernel_rfl) rfl
section
variable {ops : Array Oper} {rest : List Oper} {o : Oper} {a : Act} {w : World} {Q : Exit → Act → World → Prop}
/-- A call of a function's value, by its contract. -/
theorem wpList_gv {x:Operand} {g:Nat} {xs:Array Operand} {ts:Array TypeId} {vs:Array Value} {v:Value} (hgd:o.guard=none) (ho:o.op= .call {callee:= .value x,args:=xs,argTypes:=ts}) (hx:a.eval x= .func (.func g) #[] #[])
 (he:∀args w,(callFunc g args).run Tryz.prog w= .ok (.enter g args) w) (hvs:xs.map a.eval=vs) (hc:Calls Tryz.prog g vs w (fun e w'=>e= .returned v∧Below w.heap.size w w'))
 (h:∀w',Below w.heap.size w w'→wpList Tryz.prog ops Q rest (a.put o.dst v) w'):wpList Tryz.prog ops Q (o :: rest) a w:=
 wpList_plain hgd fun K hK=>by
  have h1:=he vs w
  unfold Oper.wp execOp
  simp[ho,resolve,invoke,Deferred.ofValue,hx,hvs,h1]
  rw[Oper.upon_enter]
  refine hc.mono ?_
  intro E w' hE
  obtain⟨rfl,hb⟩:=hE
  exact hK _ _ (h w' hb)
theorem wpList_storeD {x y:Operand} {g:Nat} {M E M' E':Int} (hgd:o.guard=none) (ho:o.op= .store 34 x y) (hx:a.eval x= .pointer (some ⟨g,0,none⟩)) (hy:a.eval y= .agg #[.int .i64 M',.int .i64 E'])
 (hn:World.dec w g M E) (h:∀w1,World.dec w1 g M' E'→w.grownBy w1 (some g)→w1.heap.size=w.heap.size→wpList Tryz.prog ops Q rest (a.put o.dst undef) w1):wpList Tryz.prog ops Q (o :: rest) a w:=
 wpList_store_row hgd 34 x y ho g _ hx hy 34 _ hn info34d rfl (by simp[Value.oneCell']) (h _ hn.setRow (setRow_grownBy _ _ _) (by simp))
end
set_option maxRecDepth 100000 in
set_option maxHeartbeats 2000000 in
theorem told_any (p:Int×Int) (k:Int) (w:World):Calls Tryz.prog 129 #[.agg #[.int .i64 p.1,.int .i64 p.2],.int .i64 k] w (Gives (.agg (pcs (toldV p k))) w):=by
 obtain⟨M,E⟩:=p
 have hB0:Below w.heap.size w ((w.alloc (.cells #[.int .i64 M,.int .i64 E] 34)).alloc (.cells vz 39)):=((Below.refl _ w).alloc (Nat.le_refl _) _).alloc (by simp) _
 have hv0:World.vb ((w.alloc (.cells #[.int .i64 M,.int .i64 E] 34)).alloc (.cells vz 39)) (w.heap.size+1) vz:=World.vb_new' _ _ _ (by simp)
 have hz0:((w.alloc (.cells #[.int .i64 M,.int .i64 E] 34)).alloc (.cells vz 39)).heap.size=w.heap.size+2:=by simp
 have hd0:World.dec ((w.alloc (.cells #[.int .i64 M,.int .i64 E] 34)).alloc (.cells vz 39)) w.heap.size M E:=(World.dec_new w M E _ rfl).alloc _
 have c0:=hd0.c0
 have c1:=hd0.c1
 by_cases hk:k=0
 ·have e:toldV (M,E) k=numV (M,E):=if_pos hk
  rw[e]
  subst hk
  go_enter Tryz.func129,Tryz.ntmps129
  go_wp2_with (first|refine wpList_alloc34 rfl rfl ?_|refine wpList_loadDat rfl rfl rfl rfl (dec_cells hd0) ?_|(refine wpList_gv (g:=119) rfl rfl rfl enters119 (by simp only[List.map_toArray,List.map_cons,List.map_nil];rfl) (num_any M E _) ?_;intro w1 hB1;simp only[Act.put,List.setIfInBounds_toArray,List.set_cons_zero,List.set_cons_succ];have hvy:=hv0.below hB1 (by rw[hz0];omega))|(refine wpList_store34 rfl rfl rfl rfl hvy (by rfl) (pcs_one _) ?_;intro w9 hn9 hg9 hz9))
  have hB:=hB0.trans (hB1.mono (by rw[hz0];omega))
  refine bodyPost_ret (results_cell_row rfl _ _ _ 39 _ (0,0) _ rfl hn9 Tryz.underlying39 rfl info34) rfl ?_
  exact⟨rfl,hB.grown hg9 hB.size (fun k9 hk9=>by cases hk9;omega)⟩
 ·by_cases hk2:k=11
  ·have e:toldV (M,E) k=errV 2:=by rw[toldV,if_neg hk,if_pos hk2]
   rw[e]
   subst hk2
   go_enter Tryz.func129,Tryz.ntmps129
   go_wp2_with (first|refine wpList_alloc34 rfl rfl ?_|refine wpList_loadDat rfl rfl rfl rfl (dec_cells hd0) ?_|(refine wpList_gv (g:=44) rfl rfl rfl enters44 (by simp only[List.map_toArray,List.map_cons,List.map_nil];rfl) (fault_any 2 _) ?_;intro w1 hB1;simp only[Act.put,List.setIfInBounds_toArray,List.set_cons_zero,List.set_cons_succ];have hvy:=hv0.below hB1 (by rw[hz0];omega))|(refine wpList_store34 rfl rfl rfl rfl hvy (by rfl) (pcs_one _) ?_;intro w9 hn9 hg9 hz9))
   have hB:=hB0.trans (hB1.mono (by rw[hz0];omega))
   refine bodyPost_ret (results_cell_row rfl _ _ _ 39 _ (0,0) _ rfl hn9 Tryz.underlying39 rfl info34) rfl ?_
   exact⟨rfl,hB.grown hg9 hB.size (fun k9 hk9=>by cases hk9;omega)⟩
  ·have e:toldV (M,E) k=errV 6:=by rw[toldV,if_neg hk,if_neg hk2]
   rw[e]
   have hkn:¬(k=0):=hk
   have hkm:¬(k=11):=hk2
   go_enter Tryz.func129,Tryz.ntmps129
   go_wp2_with (first|refine wpList_alloc34 rfl rfl ?_|refine wpList_loadDat rfl rfl rfl rfl (dec_cells hd0) ?_|(refine wpList_gv (g:=44) rfl rfl rfl enters44 (by simp only[List.map_toArray,List.map_cons,List.map_nil];rfl) (fault_any 6 _) ?_;intro w1 hB1;simp only[Act.put,List.setIfInBounds_toArray,List.set_cons_zero,List.set_cons_succ];have hvy:=hv0.below hB1 (by rw[hz0];omega))|(refine wpList_store34 rfl rfl rfl rfl hvy (by rfl) (pcs_one _) ?_;intro w9 hn9 hg9 hz9))
   have hB:=hB0.trans (hB1.mono (by rw[hz0];omega))
   refine bodyPost_ret (results_cell_row rfl _ _ _ 39 _ (0,0) _ rfl hn9 Tryz.underlying39 rfl info34) rfl ?_
   exact⟨rfl,hB.grown hg9 hB.size (fun k9 hk9=>by cases hk9;omega)⟩
set_option maxRecDepth 100000 in
set_option maxHeartbeats 8000000 in
theorem foldF_any (l:List (Int×Int)) (hl:∀p∈l,RightP p) (hn:l.length≤20000) (base:Nat) (v:Value) (w:World) (hd:World.dcr w base v l):Calls Tryz.prog 165 #[.agg #[.int .i64 0,.int .i64 0],v,.func (.func 31) #[] #[]] w (DecPost (foldA (0,0) l) w):=by
 obtain⟨p,c,rfl,hp⟩:=dcr_slice hd
 have HP:=Lib.hid hp
 have HL:=Lib.hid hl
 have HD:=Lib.hid hd
 clear hp hl hd
 have e31:=enters31
 go_enter Tryz.func165,Tryz.ntmps165
 go_wp2_with fail
 have hB0:Below w.heap.size w ((w.alloc (.cells #[.int .i64 0,.int .i64 0] 34)).alloc (.cells #[.int .i64 0,.int .i64 0] 34)):=((Below.refl _ w).alloc (Nat.le_refl _) _).alloc (by simp) _
 have hd1:World.dec ((w.alloc (.cells #[.int .i64 0,.int .i64 0] 34)).alloc (.cells #[.int .i64 0,.int .i64 0] 34)) w.heap.size 0 0:=(World.dec_new w 0 0 _ rfl).alloc _
 have hd2:World.dec ((w.alloc (.cells #[.int .i64 0,.int .i64 0] 34)).alloc (.cells #[.int .i64 0,.int .i64 0] 34)) (w.heap.size+1) 0 0:=World.dec_new _ 0 0 _ (by simp)
 go_loopw [14] (fun j wr=>∃(J:Nat) (A:Int×Int),j= .int .i64 (J:Int)∧J≤l.length∧Hid (RightP A)∧Hid (foldA (0,0) l=foldA A (l.drop J))∧Hid (World.dec wr w.heap.size A.1 A.2)∧Hid (World.dec wr (w.heap.size+1) 0 0)∧Below w.heap.size w wr) (fun j _=>l.length-(intOf j).toNat)
 case atStart=>exact⟨0,(0,0),rfl,Nat.zero_le _,right_nought,rfl,hd1,hd2,hB0⟩
 case round=>
  clear hB0 hd1 hd2
  obtain⟨J,⟨M,E⟩,rfl,hJ,HRA,HFA,HA,HZ,hB⟩:=hrel
  simp only at HA
  by_cases hlt:J<l.length
  ·have hJI:(J:Int)<(l.length:Int):=by omega
   obtain⟨q,hqJ⟩:∃q,l[J]? =some q:=⟨_,List.getElem?_eq_getElem hlt⟩
   have HRQ:=Lib.hid (HL.out q (List.mem_of_getElem? hqJ))
   obtain⟨g,rfl⟩:=HP.out (by intro e;rw[e]at hlt;simp at hlt)
   have hcq:=dcr_cells (HD.out.below hB) hqJ
   have HDJ:=Lib.hid (show l.drop J=q :: l.drop (J+1)from by
    rw[List.drop_eq_getElem_cons hlt]
    have:=(List.getElem?_eq_some_iff.1 hqJ).2
    rw[this])
   clear hqJ
   obtain⟨qm,qe⟩:=q
   go_upto_region 4 with (first|refine wpList_loadDat rfl rfl rfl rfl hcq ?_|(refine wpList_storeD rfl rfl rfl rfl (World.dec_new _ _ _ _ rfl) ?_;intro w1 hn1 hg1 hz1))
   have hb1:Below wr.heap.size wr w1:=((Below.refl _ wr).alloc (Nat.le_refl _) _).grown hg1 (by simp) (fun k hk=>by cases hk;exact Nat.le_refl _)
   have ha1:=HA.out.below hb1 HA.out.lt
   have hz2:=HZ.out.below hb1 HZ.out.lt
   have hB1:=hB.trans (hb1.mono hB.size)
   have hlt1:=HZ.out.lt
   clear hg1 hcq HA HZ hB hb1
   have HCA:=Lib.hid (fun W=>add_any M E qm qe W (by have:=HRA.out.1;simp only at this;omega) (by have:=HRA.out.2.1;simp only at this;omega) (by have:=HRQ.out.1;simp only at this;omega) (by have:=HRQ.out.2.1;simp only at this;omega))
   obtain⟨R,hR⟩:∃R,R=addD M E qm qe:=⟨_,rfl⟩
   have HRR:=Lib.hid (show RightP R.1 from by rw[hR];exact addD_right _ _ _ _)
   have HFS:=Lib.hid (show foldA (0,0) l=if R.2=0 then foldA R.1 (l.drop (J+1))else((0,0),R.2)from by rw[hR,HFA.out,HDJ.out,foldA])
   rw[←hR]at HCA
   clear hR
   obtain⟨⟨rm,re⟩,er⟩:=R
   by_cases her:er=0
   ·subst her
    have HFS2:=Lib.hid (HFS.out.trans (if_pos rfl))
    clear HFS
    go_wp2_with (first|refine wpList_loadDat rfl rfl rfl rfl (dec_cells ha1) ?_|refine wpList_loadDat rfl rfl rfl rfl (dec_cells hn1) ?_|refine wpList_loadDat rfl rfl rfl rfl (dec_cells hn3) ?_|(refine wpList_gv (g:=31) rfl rfl rfl enters31 (by simp only[List.map_toArray,List.map_cons,List.map_nil];rfl) (HCA.out _) ?_;intro w2 hB2;simp only[Act.put,List.setIfInBounds_toArray,List.set_cons_zero,List.set_cons_succ];have ha2:=ha1.below hB2 ha1.lt;have hz2:=hz2.below hB2 hz2.lt;have hB1:=hB1.trans (hB2.mono hB1.size))|(refine wpList_storeD rfl rfl rfl rfl (World.dec_new _ _ _ _ rfl) ?_;intro w3 hn3 hg3 hz3;have ha3:=(ha2.alloc _).grown hg3 (fun e=>absurd (Option.some.inj e) (Nat.ne_of_lt ha2.lt));have hz2:=(hz2.alloc _).grown hg3 (fun e=>absurd (Option.some.inj e) (Nat.ne_of_lt hz2.lt));have hB1:=(hB1.alloc hB1.size _).grown hg3 (by have:=hB1.size;simp;omega) (fun k hk=>by cases hk;exact hB1.size))|(refine wpList_storeD rfl rfl rfl rfl ha3 ?_;intro w4 hn4 hg4 hz4))
    go_roundw
    case rel=>
     exact⟨J+1,(rm,re),by go_num,by omega,HRR.out,HFS2.out,hn4,hz2.grown hg4 (fun e=>by have:=Option.some.inj e;omega),hB1.grown hg4 hB1.size (fun k hk=>by cases hk;exact Nat.le_refl _)⟩
    case measure=>simp[intOf];omega
   ·have HFS2:=Lib.hid (HFS.out.trans (if_neg her))
    clear HFS
    have herb:¬(er=0):=her
    go_wp2_with (first|refine wpList_loadDat rfl rfl rfl rfl (dec_cells ha1) ?_|refine wpList_loadDat rfl rfl rfl rfl (dec_cells hn1) ?_|refine wpList_loadDat rfl rfl rfl rfl (dec_cells hn3) ?_|(refine wpList_gv (g:=31) rfl rfl rfl enters31 (by simp only[List.map_toArray,List.map_cons,List.map_nil];rfl) (HCA.out _) ?_;intro w2 hB2;simp only[Act.put,List.setIfInBounds_toArray,List.set_cons_zero,List.set_cons_succ];have ha2:=ha1.below hB2 ha1.lt;have hz2:=hz2.below hB2 hz2.lt;have hB1:=hB1.trans (hB2.mono hB1.size))|(refine wpList_storeD rfl rfl rfl rfl (World.dec_new _ _ _ _ rfl) ?_;intro w3 hn3 hg3 hz3;have ha3:=(ha2.alloc _).grown hg3 (fun e=>absurd (Option.some.inj e) (Nat.ne_of_lt ha2.lt));have hz2:=(hz2.alloc _).grown hg3 (fun e=>absurd (Option.some.inj e) (Nat.ne_of_lt hz2.lt));have hB1:=(hB1.alloc hB1.size _).grown hg3 (by have:=hB1.size;simp;omega) (fun k hk=>by cases hk;exact hB1.size))|(refine wpList_storeD rfl rfl rfl rfl hz2 ?_;intro w4 hn4 hg4 hz4))
    refine bodyPost_ret (results_dec_tmp rfl _ _ _ _ _ rfl hn4) rfl ?_
    refine⟨?_,hB1.grown hg4 hB1.size (fun k hk=>by cases hk;omega)⟩
    rw[HFS2.out];rfl
  ·obtain rfl:J=l.length:=by omega
   have hJI:¬((l.length:Int)<(l.length:Int)):=by omega
   have ha1:=HA.out
   have hz2:=HZ.out
   have HFS2:=Lib.hid (show foldA (0,0) l=((M,E),0)from by rw[HFA.out,List.drop_length];rfl)
   go_wp2_with (first|refine wpList_loadDat rfl rfl rfl rfl (dec_cells ha1) ?_|(refine wpList_storeD rfl rfl rfl rfl hz2 ?_;intro w4 hn4 hg4 hz4))
   refine bodyPost_ret (results_dec_tmp rfl _ _ _ _ _ rfl hn4) rfl ?_
   refine⟨?_,hB.grown hg4 hB.size (fun k hk=>by cases hk;omega)⟩
   rw[HFS2.out];rfl
end Go.Proofs.YtmhfioimgllgeaaGreatDoor
namespace Go.Proofs.YtmhfioimgllgeaaGreatDoor
open Go Go.RowKit Go.Shelf
/-- A function of decimals, as a contract. -/
def OnDecs (g:Nat) (f:List (Int×Int)→Vl):Prop:=∀(base:Nat) (v:Value) (l:List (Int×Int)) (W:World),(∀p∈l,RightP p)→l.length≤20000→World.dcr W base v l→Calls Tryz.prog g #[v] W (Gives (.agg (pcs (f l))) W)
noncomputable def sumV (l:List (Int×Int)):Vl:=toldV (foldA (0,0) l).1 (foldA (0,0) l).2
theorem enters164 :∀args w,(callFunc 164 args).run Tryz.prog w= .ok (.enter 164 args) w:=enters_of Tryz.func164 (by kernel_rfl) rfl
set_option maxRecDepth 100000 in
set_option maxHeartbeats 4000000 in
theorem sum_any :OnDecs 164 sumV:=by
 intro base v l w hl hn hd
 have hB0:Below w.heap.size w (w.alloc (.cells vz 39)):=(Below.refl _ w).alloc (Nat.le_refl _) _
 have hv0:World.vb (w.alloc (.cells vz 39)) w.heap.size vz:=World.vb_new w vz
 have HF:=Lib.hid (foldF_any l hl hn base v (w.alloc (.cells vz 39)) (hd.below hB0))
 have HT:=Lib.hid (fun W=>told_any (foldA (0,0) l).1 (foldA (0,0) l).2 W)
 obtain⟨R,hR⟩:∃R,R=foldA (0,0) l:=⟨_,rfl⟩
 unfold sumV
 rw[←hR]at HF HT⊢
 obtain⟨⟨M,E⟩,er⟩:=R
 clear hl hn hd hR
 go_enter Tryz.func164,Tryz.ntmps164
 go_wp2_with (first|refine wpList_alloc34 rfl rfl ?_|(go_at_call 165;refine HF.out.mono ?_;rintro e w1 ⟨rfl,hB1⟩;have hB:=hB0.trans (hB1.mono hB0.size);have hvy:=hv0.below hB1 hv0.lt)|(go_at_call 129;refine(HT.out _).mono ?_;rintro e w2 ⟨rfl,hB2⟩;have hB:=hB.trans (hB2.mono hB.size);have hvy:=hvy.below hB2 hvy.lt)|(refine wpList_store34 rfl rfl rfl rfl hvy (by rfl) (pcs_one _) ?_;intro w9 hn9 hg9 hz9))
 refine bodyPost_ret (results_cell_row rfl _ _ _ 39 _ (0,0) _ rfl hn9 Tryz.underlying39 rfl info34) rfl ?_
 exact⟨rfl,hB.grown hg9 hB.size (fun k9 hk9=>by cases hk9;omega)⟩
/-- What is made of all numbers, or the first error. -/
noncomputable def gathV (f:List (Int×Int)→Vl) (xs:List Vl):Vl:=match (numY xs).find? isF with
 |some y=>y
 |none=>f (decsOf (numY xs))
theorem decs_right {xs:List Vl} (h:∀x∈xs,ArrP x):∀p∈decsOf (numY xs),RightP p:=by
 intro p hp
 unfold decsOf at hp
 obtain⟨y,hy,e⟩:=List.mem_filterMap.1 hp
 split at e
 ·rename_i hk
  injection e with e
  subst e
  rcases plain_cases (numY_plain h y hy)with e|⟨p,e,hr⟩|⟨s,e,_⟩|⟨b,e⟩|⟨n,e,_⟩
  ·rw[e]at hk;exact absurd hk (by decide)
  ·rw[e];exact hr
  ·rw[e]at hk;simp[txtV]at hk
  ·rw[e]at hk;simp[trV]at hk
  ·rw[e]at hk;simp[errV]at hk
 ·cases e
theorem decs_len {xs:List Vl} (h:∀x∈xs,ArrP x) (hn:xs.length≤25):(decsOf (numY xs)).length≤20000:=by
 refine Nat.le_trans (decsOf_len _) ?_
 have h1:=flatV_len (xs:=xs.map tnV) (fun q hq=>by obtain⟨q',hq',rfl⟩:=List.mem_map.1 hq;exact tnV_arr (h q' hq'))
 rw[List.length_map]at h1
 show(flatV _).length≤_
 omega
set_option maxRecDepth 100000 in
set_option maxHeartbeats 8000000 in
theorem gathered_any (gd:Nat) (eg:∀args w,(callFunc gd args).run Tryz.prog w= .ok (.enter gd args) w) (f:List (Int×Int)→Vl) (hg:OnDecs gd f) (xs:List Vl) (L u:Value) (w:World) (hA:ArgsAt w L xs) (hn:xs.length≤25) (hE:Env w) (hb:Bx w u (.func (.func gd) #[] #[])):
 Calls Tryz.prog 253 #[L,u] w (Gives (.agg (pcs (gathV f xs))) w):=by
 obtain⟨b,t,rfl,hbx⟩:=hb
 have hB0:Below w.heap.size w (w.alloc (.cells vz 39)):=(Below.refl _ w).alloc (Nat.le_refl _) _
 have hv0:World.vb (w.alloc (.cells vz 39)) w.heap.size vz:=World.vb_new w vz
 have hbl:=hbx.lt
 have HN:=Lib.hid (numbers_any xs L _ (hA.below hB0) hn (hE.below hB0))
 have HR:=Lib.hid (decs_right hA.2)
 have HL:=Lib.hid (decs_len hA.2 hn)
 have HG:=Lib.hid hg
 obtain⟨p,c,rfl,_⟩:=id hA.1
 clear hA hn hE hg
 go_enter Tryz.func253,Tryz.ntmps253
 go_wp2_with (refine wpList_alloc34 rfl rfl ?_)
 refine HN.out.mono ?_
 rintro e w1 ⟨v,y,rfl,hB1,hr⟩
 have hB:=hB0.trans (hB1.mono hB0.size)
 have hvy:=hv0.below hB1 hv0.lt
 have hbx1:=hbx.below hB hbl
 have hvl:=hvy.lt
 clear HN hB0 hB1 hv0 hbx
 rcases hr with ⟨hf,rfl⟩|⟨hf,rfl,hd⟩
 ·have e1:gathV f xs=y:=by unfold gathV;rw[hf]
  have hyk:(y.k==4)=true:=by
   have h:=List.find?_some hf
   exact h
  have HE:=Lib.hid e1
  have HI:=Lib.hid (fun W=>isfault_any y (pcs y) W rfl (pcs_one y))
  rw[hyk]at HI
  clear hyk e1 hf HR HL HG
  go_wp2_with (first|refine wpList_alloc34 rfl rfl ?_|(refine wpList_store34 rfl rfl rfl rfl (World.vb_new' _ _ _ rfl) (by rfl) (pcs_one _) ?_;intro w2 hn2 hg2 hz2;have hb2:Below w1.heap.size w1 w2:=((Below.refl _ w1).alloc (Nat.le_refl _) (.cells vz 39)).grown hg2 (by simp) (fun k hk=>by cases hk;exact Nat.le_refl _);have hvy:=hvy.below hb2 hvy.lt;have hB:=hB.trans (hb2.mono hB.size))|refine wpList_load34 rfl rfl rfl hn2 (by rfl) ?_|(go_at_call 144;refine(HI.out _).mono ?_;rintro e w3 ⟨rfl,hB3⟩;have hn2:=hn2.below hB3 hn2.lt;have hvy:=hvy.below hB3 hvy.lt;have hB:=hB.trans (hB3.mono hB.size))|(refine wpList_store34 rfl rfl rfl rfl hvy (by rfl) (pcs_one _) ?_;intro w9 hn9 hg9 hz9))
  refine bodyPost_ret (results_cell_row rfl _ _ _ 39 _ (0,0) _ rfl hn9 Tryz.underlying39 rfl info34) rfl ?_
  exact⟨by rw[HE.out],hB.grown hg9 hB.size (fun k9 hk9=>by cases hk9;omega)⟩
 ·have e1:gathV f xs=f (decsOf (numY xs)):=by unfold gathV;rw[hf]
  have HE:=Lib.hid e1
  have HI:=Lib.hid (fun W=>isfault_any {} (pcs {}) W rfl (pcs_one {}))
  have hyk:((({}:Vl).k)==4)=false:=rfl
  rw[hyk]at HI
  obtain⟨D,hD⟩:∃D,D=decsOf (numY xs):=⟨_,rfl⟩
  rw[←hD]at hd HR HL HE
  clear hyk e1 hf hD
  go_wp2_with (first|refine wpList_alloc34 rfl rfl ?_|(refine wpList_store34 rfl rfl rfl rfl (World.vb_new' _ _ _ rfl) (by rfl) (pcs_one _) ?_;intro w2 hn2 hg2 hz2;have hb2:Below w1.heap.size w1 w2:=((Below.refl _ w1).alloc (Nat.le_refl _) (.cells vz 39)).grown hg2 (by simp) (fun k hk=>by cases hk;exact Nat.le_refl _);have hvy:=hvy.below hb2 hvy.lt;have hd:=hd.below hb2;have hbx1:=hbx1.below hb2 hbx1.lt;have hB:=hB.trans (hb2.mono hB.size))|refine wpList_load34 rfl rfl rfl hn2 (by rfl) ?_|(go_at_call 144;refine(HI.out _).mono ?_;rintro e w3 ⟨rfl,hB3⟩;have hn2:=hn2.below hB3 hn2.lt;have hvy:=hvy.below hB3 hvy.lt;have hd:=hd.below hB3;have hbx1:=hbx1.below hB3 hbx1.lt;have hc:=hbx1.cell (j:=0) rfl;have hB:=hB.trans (hB3.mono hB.size))|(go_at_fn gd;refine(HG.out _ _ _ _ HR.out HL.out hd).mono ?_;rintro e w4 ⟨rfl,hB4⟩;have hvy:=hvy.below hB4 hvy.lt;have hB:=hB.trans (hB4.mono hB.size))|(refine wpList_store34 rfl rfl rfl rfl hvy (by rfl) (pcs_one _) ?_;intro w9 hn9 hg9 hz9))
  refine bodyPost_ret (results_cell_row rfl _ _ _ 39 _ (0,0) _ rfl hn9 Tryz.underlying39 rfl info34) rfl ?_
  exact⟨by rw[HE.out],hB.grown hg9 hB.size (fun k9 hk9=>by cases hk9;omega)⟩
end Go.Proofs.YtmhfioimgllgeaaGreatDoor
namespace Go.Proofs.YtmhfioimgllgeaaGreatDoor
open Go Go.RowKit Go.Shelf
abbrev dcs (z:Vl):Int×Int:=(z.m,z.e)
set_option maxRecDepth 100000 in
set_option maxHeartbeats 8000000 in
theorem nums1_any (gd:Nat) (eg:∀args w,(callFunc gd args).run Tryz.prog w= .ok (.enter gd args) w) (y:Vl) (zs:List Vl) (hg:∀base v W,base≤W.heap.size→World.dcr W base v (zs.map dcs)→Calls Tryz.prog gd #[v] W (fun e w'=>e= .returned (.agg (pcs y))∧Below base W w')) (base g cap:Nat) (u:Value) (w:World) (hr:World.vr w base (.slice (some ⟨g,0,none⟩) zs.length cap) zs) (_hgl:g<w.heap.size) (hn:zs.length≤100) (hb:Bx w u (.func (.func gd) #[] #[])):
 Calls Tryz.prog 236 #[.slice (some ⟨g,0,none⟩) zs.length cap,u] w (Gives (.agg (pcs y)) w):=by
 obtain⟨b,t,rfl,hbx⟩:=hb
 have hbl:=hbx.lt
 have HVR:=Lib.hid (show ∀W,Below w.heap.size w W→World.vr W base (.slice (some ⟨g,0,none⟩) zs.length cap) zs from fun W hW=>World.vr.below hr hW)
 have HBX:=Lib.hid (show ∀W,Below w.heap.size w W→World.blk W b t #[.func (.func gd) #[] #[]]from fun W hW=>hbx.below hW hbl)
 have HG:=Lib.hid hg
 clear hr hbx hg
 go_enter Tryz.func236,Tryz.ntmps236
 go_wp2_with (refine wpList_alloc34 rfl rfl ?_)
 have hvy0:World.vb (w.alloc (.cells vz 39)) w.heap.size vz:=World.vb_new w vz
 have hB0:Below w.heap.size w (w.alloc (.cells vz 39)):=(Below.refl _ w).alloc (Nat.le_refl _) _
 go_loopw [4,9] (fun s i wr=>∃K:Nat,i= .int .i64 (K:Int)∧K≤zs.length∧Hid (World.dcr wr (w.heap.size+1) s ((zs.take K).map dcs))∧Hid (World.vb wr w.heap.size vz)∧Below w.heap.size w wr) (fun _ i _=>zs.length-(intOf i).toNat)
 case atStart=>exact⟨0,rfl,Nat.zero_le _,dcr_nil _ _,hvy0,hB0⟩
 case round=>
  clear hvy0 hB0
  obtain⟨K,rfl,hK,HR,HV,hB⟩:=hrel
  by_cases hlt:K<zs.length
  ·have hKI:(K:Int)<(zs.length:Int):=by omega
   obtain⟨z,hzK⟩:∃z,zs[K]? =some z:=⟨_,List.getElem?_eq_getElem hlt⟩
   have hcz:=vr_cells (HVR.out wr hB) hzK
   have HTK:=Lib.hid (show(zs.take (K+1)).map dcs=(zs.take K).map dcs++ [(z.m,z.e)] by rw[List.take_add_one,hzK,List.map_append];rfl)
   have hlen:((zs.take K).map dcs).length≤20000:=by rw[List.length_map,List.length_take];omega
   have HLN:=Lib.hid hlen
   clear hzK hlen
   go_upto_region 5 with (first|refine wpList_load34at rfl rfl rfl rfl hcz ?_|refine wpList_alloc34 rfl rfl ?_|(refine wpList_store34 rfl rfl rfl rfl (World.vb_new' _ _ _ rfl) (by rfl) (pcs_one _) ?_;intro w1 hn1 hg1 hz1))
   have hb1:Below wr.heap.size wr w1:=((Below.refl _ wr).alloc (Nat.le_refl _) (.cells vz 39)).grown hg1 (by simp) (fun k hk=>by cases hk;exact Nat.le_refl _)
   have hdi:=dec_in hn1
   have HR1:=Lib.hid (HR.out.below hb1)
   have HV1:=Lib.hid (HV.out.below hb1 HV.out.lt)
   have hB1:=hB.trans (hb1.mono hB.size)
   have hB1z:=hB1.size
   have HR8:=Lib.hid (show World.dcr (w1.alloc (.cells #[.int .i64 z.m,.int .i64 z.e] 34)) (w.heap.size+1) _ _ from HR1.out.below ((Below.refl _ w1).alloc (Nat.le_refl _) _))
   clear hcz hg1 hz1 hb1 hn1
   go_wp2_with (first|refine wpList_loadDat rfl rfl rfl rfl hdi ?_|refine wpList_bslD rfl rfl rfl ?_|(refine wpList_pushD rfl rfl HR8.out HLN.out rfl rfl (World.dec_new w1 _ _ _ rfl) (by have:=HV1.out.lt;simp;omega) ?_;intro v8 w8 hr8 hg8))
   have hvb8:=HV1.out.below (Below.refl _ _ |>.alloc (Nat.le_refl _) (.cells #[.int .i64 z.m,.int .i64 z.e] 34)) HV1.out.lt
   have hB8:=hB1.trans (((Below.refl _ w1).alloc (Nat.le_refl _) (.cells #[.int .i64 z.m,.int .i64 z.e] 34)).mono hB1z)
   go_roundw
   case rel=>exact⟨K+1,by go_num,by omega,by rw[HTK.out];exact hr8,vb_dec HR8.out hvb8 (Nat.lt_succ_self _) hg8,dcr_grown HR8.out (Nat.le_succ _) hB8 hB8.size hg8⟩
   case measure=>simp[intOf];omega
  ·obtain rfl:K=zs.length:=by omega
   have hKI:¬((zs.length:Int)<(zs.length:Int)):=by omega
   have hvy:=HV.out
   have hc:=(HBX.out wr hB).cell (j:=0) rfl
   have hd:=HR.out
   have HBZ:Hid (w.heap.size+1≤wr.heap.size):=Lib.hid hvy.lt
   rw[List.take_length]at hd
   obtain⟨D,hD⟩:∃D,D=zs.map dcs:=⟨_,rfl⟩
   rw[←hD]at hd HG
   have HDD:=Lib.hid hd
   clear hD hd HR HV
   go_wp2_with (first|(go_at_fn gd;refine(HG.out _ _ _ HBZ.out HDD.out).mono ?_;rintro e w4 ⟨rfl,hB4⟩;have hvy:=hvy.below hB4 (Nat.lt_succ_self _);have hB:=hB.trans (hB4.mono (Nat.le_succ _)))|(refine wpList_store34 rfl rfl rfl rfl hvy (by rfl) (pcs_one _) ?_;intro w9 hn9 hg9 hz9))
   refine bodyPost_ret (results_cell_row rfl _ _ _ 39 _ (0,0) _ rfl hn9 Tryz.underlying39 rfl info34) rfl ?_
   exact⟨rfl,hB.grown hg9 hB.size (fun k9 hk9=>by cases hk9;omega)⟩
end Go.Proofs.YtmhfioimgllgeaaGreatDoor
