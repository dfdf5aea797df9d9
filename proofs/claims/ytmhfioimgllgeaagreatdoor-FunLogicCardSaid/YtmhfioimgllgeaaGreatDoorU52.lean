/- Merged: Leb, Cab, Lgc, Lgn. -/
import Derived.Test.YtmhfioimgllgeaaGreatDoorU43
import Derived.Test.YtmhfioimgllgeaaGreatDoorU01
import Derived.Test.YtmhfioimgllgeaaGreatDoorU44
import Derived.Test.YtmhfioimgllgeaaGreatDoorU48
namespace Go.Proofs.YtmhfioimgllgeaaGreatDoor
open Go Go.RowKit Go.Shelf
set_option maxRecDepth 100000 in
set_option maxHeartbeats 8000000 in
theorem letters_anyB (cs:Array Value) (hcs:OneF cs) (how:List UInt8) (h2:cs[2]? =some (.string (mk how))) (gf:Nat) (ps:Array Value) (h3:cs[3]? =some (fnV gf ps)) (eg:∀args w,(callFunc gf args).run Tryz.prog w= .ok (.enter gf args) w)
 (xs:List Vl) (hx:∀x∈xs,plainV x=true) (hne:xs≠ []) (hlen:xs.length≤how.length) (hl:xs.length≤1000) (hasc:∀c∈how,c=110∨c=116∨c=98∨c=118) (g off c:Nat) (w:World) (hE:Els xs g off w) (he:Env w) (y:Vl)
 (hone:(∀i x,xs[i]? =some x→badL (how.getD i 0) x=false)→∀(W:World) (base g' cap:Nat),Below w.heap.size w W→World.vr W base (.slice (some ⟨g',0,none⟩) xs.length cap) (inL how xs xs.length)→g'<W.heap.size→Calls Tryz.prog gf (#[.slice (some ⟨g',0,none⟩) xs.length cap]++ps) W (fun e w'=>e= .returned (.agg (pcs y))∧Below g' W w'))
 (hbad:∀i x,xs[i]? =some x→badL (how.getD i 0) x=true→(∀j z,j<i→xs[j]? =some z→badL (how.getD j 0) z=false)→y=convL (how.getD i 0) x):
 Calls Tryz.prog 97 #[.agg cs,.slice (some ⟨g,off,none⟩) xs.length c] w (Gives (.agg (pcs y)) w):=by
 have HO:=Lib.hid hone
 have HBD:=Lib.hid hbad
 have HX:=Lib.hid hx
 have HEL:=Lib.hid (show ∀W,Below w.heap.size w W→Els xs g off W from fun W hW=>hE.below hW)
 have HEN:=Lib.hid (show ∀W,Below w.heap.size w W→Env W from fun W hW=>he.below hW)
 have HCS:=Lib.hid hcs
 have HH:=Lib.hid h2
 have HF:=Lib.hid h3
 have HA:=Lib.hid hasc
 have hgl:=hE.1
 clear hone hbad hx hE he hcs h2 h3 hasc
 obtain⟨W,hW⟩:∃W,W=(w.alloc (.cells cs 83)).alloc (.cells vz 39):=⟨_,rfl⟩
 have hbx:World.blk W w.heap.size 83 cs:=by rw[hW];unfold World.blk;rw[heap_alloc_old _ _ (by simp)];exact blk_new w 83 cs
 have hvy:World.vb W (w.heap.size+1) vz:=by rw[hW];exact World.vb_new' _ _ _ (by simp)
 have hB:Below w.heap.size w W:=by rw[hW];exact((Below.refl _ w).alloc (Nat.le_refl _) _).alloc (by simp) _
 have hsz:W.heap.size=w.heap.size+2:=by rw[hW];simp
 have hcl:cs.all (·.oneCell')=true:=HCS.out.2
 go_enter Tryz.func97,Tryz.ntmps97
 go_upto_region 1 with (refine wpList_alloc34 rfl rfl ?_)
 go_simp
 rw[←hW]
 clear hW hcl
 go_wp2_with fail
 refine(clone92 xs g off c W (HEL.out W hB) hl hne).mono ?_
 rintro e W1 ⟨g',cap,rfl,hrow,hg1,hg2,hB1⟩
 have hbx:=hbx.below hB1 hbx.lt
 have hvy:=hvy.below hB1 hvy.lt
 have c2:=hbx.cell HH.out
 have hlI:(xs.length:Int)≤((mk how).size:Int):=by show(xs.length:Int)≤(how.length:Int);omega
 go_wp2_with fail
 obtain⟨S,hS⟩:∃S,S=(mk how).extract 0 xs.length:=⟨_,rfl⟩
 have hSz:S.size=xs.length:=by rw[hS,ByteArray.size_extract];show min xs.length how.length-0=_;omega
 have hSat:∀K (h:K<S.size),(S[K]'h)=how.getD K 0:=by
  intro K h
  have hK:K<how.length:=by omega
  subst hS
  rw[ByteArray.getElem_extract]
  simp only[Nat.zero_add]
  rw[List.getD_eq_getElem?_getD,List.getElem?_eq_getElem hK]
  rfl
 rw[←hS]
 have HS:=Lib.hid hSat
 have H0:LetAt w (W1.iter S 0) cs W1.heap.size g' W.heap.size S 0 xs.length cap (inL how xs 0):=by
  have e:W1.iter S 0=W1.alloc (.stringIter S 0):=rfl
  have hg:=World.grownBy_alloc W1 (.stringIter S 0) none
  rw[e,inL_zero]
  exact⟨heap_alloc_new W1 _,by unfold World.blk;rw[heap_alloc_old _ _ hbx.lt];exact hbx,hvy.alloc _,hrow.alloc _,(hB.trans (hB1.mono hB.size)).alloc (Nat.le_trans hB.size hB1.size) _,by omega,hg2⟩
 obtain⟨bi,hbi⟩:∃b,b=W1.heap.size:=⟨_,rfl⟩
 obtain⟨base,hbase⟩:∃b,b=W.heap.size:=⟨_,rfl⟩
 rw[←hbi,←hbase]at H0
 rw[←hbi]
 have hXn:0<xs.length:=List.length_pos_iff.2 hne
 clear hS hSat hbx hvy hrow c2 hB hB1 hsz hg1 hg2 hlI hbi hbase
 go_loopw [16] (fun _ wr=>∃K,K≤xs.length∧Hid (LetAt w wr cs bi g' base S K xs.length cap (inL how xs K))∧Hid (∀i x,i<K→xs[i]? =some x→badL (how.getD i 0) x=false)) (fun _ wr=>xs.length-wr.iterPos bi)
 case atStart=>exact⟨0,Nat.zero_le _,H0,fun i x h=>by omega⟩
 case round=>
  clear H0
  obtain⟨K,hK,HL,HN⟩:=hrel
  have hpos:wr.iterPos bi=K:=by unfold World.iterPos;rw[HL.out.it]
  have hlb:=HL.out.lt2
  by_cases hlt:K<xs.length
  ·have hp:K<S.size:=by omega
   obtain⟨x,hx⟩:∃x,xs[K]? =some x:=⟨_,List.getElem?_eq_getElem hlt⟩
   have hmem:x∈xs:=List.mem_of_getElem? hx
   have hxp:=HX.out x hmem
   obtain⟨q,hq⟩:∃q,how.getD K 0=q:=⟨_,rfl⟩
   have hqm:q∈how:=by rw[←hq,List.getD_eq_getElem?_getD,List.getElem?_eq_getElem (by omega:K<how.length)];exact List.getElem_mem _
   have hSK:S[K]'hp=q:=by rw[HS.out K hp,hq]
   have hnx:=fun ty=>Lib.run_next_ascii_at (P:=Tryz.prog) wr bi S K ty HL.out.it hp (by rw[hSK];rcases HA.out q hqm with h|h|h|h<;>rw[h]<;>decide)
   rw[hSK]at hnx
   have HL2:=Lib.hid (HL.out.next (K+1))
   have hKI:(K:Int)<(xs.length:Int):=by omega
   have HXx:=Lib.hid hx
   have HXp:=Lib.hid hxp
   have HQ:=Lib.hid hq
   have HQ4:=Lib.hid (HA.out q hqm)
   have hi2:(wr.iterAt bi S (K+1)).iterPos bi=K+1:=by unfold World.iterPos;rw[HL2.out.it]
   obtain⟨W2,hW2⟩:∃W,W=wr.iterAt bi S (K+1):=⟨_,rfl⟩
   rw[←hW2]at HL2 hi2
   simp only[←hW2]at hnx
   clear hx hxp hq hqm hmem hSK hp hW2 HL
   have hel:=(HEL.out W2 HL2.out.below).2 K x HXx.out
   have heE:=HEN.out W2 HL2.out.below
   by_cases q110:q=110
   ·subst q110
    have hconv:convL 110 x=numT x:=rfl
    have hqv:((110:UInt8).toNat:Int)=110:=rfl
    rw[hqv]at hnx
    go_wp2_with (refine wpList_load34at rfl rfl rfl rfl hel ?_)
    refine(tonum_one x W2 HXp.out heE.1 heE.2).mono ?_
    rintro e3 w3 ⟨rfl,hB3⟩
    obtain⟨W4,hrun,hl4⟩:=(HL2.out.call hB3).store (inL_len _ _ _).symm (k:=K) (by rw[inL_len];exact hlt) (numT x)
    have HL4:Hid (LetAt w W4 cs bi g' base S (K+1) xs.length cap (inL how xs (K+1))):=by
     have e:=inL_succ (hs:=how) HXx.out
     rw[HQ.out,hconv]at e
     rw[e]at hl4;exact hl4
    have hin:(inL how xs (K+1))[K]? =some (numT x):=by
     rw[inL_at HXx.out,if_pos (Nat.lt_succ_self K),HQ.out,hconv]
    clear hl4
    go_wp2_with (first|refine wpList_storev rfl rfl rfl rfl hrun ?_|refine wpList_load34atg (by rfl) rfl rfl rfl (vr_cells HL4.out.row hin) ?_)
    refine(isfault_any (numT x) (pcs (numT x)) _ rfl (pcs_one _)).mono ?_
    rintro e5 w5 ⟨rfl,hB5⟩
    have HL5:=Lib.hid (HL4.out.call hB5)
    have hi5:w5.iterPos bi=K+1:=by unfold World.iterPos;rw[HL5.out.it]
    by_cases hb:((numT x).k==4)=true
    ·rw[hb]
     have hvy:=HL5.out.res
     have hB7:=HL5.out.below
     have hrow:=vr_cells HL5.out.row hin
     have HY:Hid (y=numT x):=by
      have:=HBD.out K x HXx.out (by rw[HQ.out];unfold badL;rw[hconv,hb];rfl) (fun j z hj hz=>HN.out j z hj hz)
      rw[this,HQ.out];exact hconv
     go_wp2_with (first|refine wpList_load34at rfl rfl rfl rfl hrow ?_|(refine wpList_store34 rfl rfl rfl rfl hvy (by rfl) (pcs_one _) ?_;intro w7 hn7 hg7 hz7))
     refine bodyPost_ret (results_cell_row rfl _ _ _ 39 _ (0,0) _ rfl hn7 Tryz.underlying39 rfl info34) rfl ?_
     exact⟨by rw[HY.out],hB7.grown hg7 hB7.size (fun k9 hk9=>by cases hk9;omega)⟩
    ·have hb:((numT x).k==4)=false:=by simpa using hb
     rw[hb]
     go_wp2_with fail
     go_roundw
     case rel=>
      refine⟨K+1,by omega,HL5.out,fun i z hi hz=> ?_⟩
      rcases(by omega:i<K∨i=K)with h|rfl
      ·exact HN.out i z h hz
      ·rw[HXx.out]at hz;injection hz with hz;subst hz
       rw[HQ.out];unfold badL;rw[hconv,hb,Bool.and_false]
     case measure=>rw[hi5,hpos];omega
   ·by_cases q116:q=116
    ·subst q116
     have hconv:convL 116 x=txtT x:=rfl
     have hqv:((116:UInt8).toNat:Int)=116:=rfl
     rw[hqv]at hnx
     go_wp2_with (refine wpList_load34at rfl rfl rfl rfl hel ?_)
     refine(totxt_one x W2 HXp.out heE.1).mono ?_
     rintro e3 w3 ⟨rfl,hB3⟩
     obtain⟨W4,hrun,hl4⟩:=(HL2.out.call hB3).store (inL_len _ _ _).symm (k:=K) (by rw[inL_len];exact hlt) (txtT x)
     have HL4:Hid (LetAt w W4 cs bi g' base S (K+1) xs.length cap (inL how xs (K+1))):=by
      have e:=inL_succ (hs:=how) HXx.out
      rw[HQ.out,hconv]at e
      rw[e]at hl4;exact hl4
     have hin:(inL how xs (K+1))[K]? =some (txtT x):=by
      rw[inL_at HXx.out,if_pos (Nat.lt_succ_self K),HQ.out,hconv]
     clear hl4
     go_wp2_with (first|refine wpList_storev rfl rfl rfl rfl hrun ?_|refine wpList_load34atg (by rfl) rfl rfl rfl (vr_cells HL4.out.row hin) ?_)
     refine(isfault_any (txtT x) (pcs (txtT x)) _ rfl (pcs_one _)).mono ?_
     rintro e5 w5 ⟨rfl,hB5⟩
     have HL5:=Lib.hid (HL4.out.call hB5)
     have hi5:w5.iterPos bi=K+1:=by unfold World.iterPos;rw[HL5.out.it]
     by_cases hb:((txtT x).k==4)=true
     ·rw[hb]
      have hvy:=HL5.out.res
      have hB7:=HL5.out.below
      have hrow:=vr_cells HL5.out.row hin
      have HY:Hid (y=txtT x):=by
       have:=HBD.out K x HXx.out (by rw[HQ.out];unfold badL;rw[hconv,hb];rfl) (fun j z hj hz=>HN.out j z hj hz)
       rw[this,HQ.out];exact hconv
      go_wp2_with (first|refine wpList_load34at rfl rfl rfl rfl hrow ?_|(refine wpList_store34 rfl rfl rfl rfl hvy (by rfl) (pcs_one _) ?_;intro w7 hn7 hg7 hz7))
      refine bodyPost_ret (results_cell_row rfl _ _ _ 39 _ (0,0) _ rfl hn7 Tryz.underlying39 rfl info34) rfl ?_
      exact⟨by rw[HY.out],hB7.grown hg7 hB7.size (fun k9 hk9=>by cases hk9;omega)⟩
     ·have hb:((txtT x).k==4)=false:=by simpa using hb
      rw[hb]
      go_wp2_with fail
      go_roundw
      case rel=>
       refine⟨K+1,by omega,HL5.out,fun i z hi hz=> ?_⟩
       rcases(by omega:i<K∨i=K)with h|rfl
       ·exact HN.out i z h hz
       ·rw[HXx.out]at hz;injection hz with hz;subst hz
        rw[HQ.out];unfold badL;rw[hconv,hb,Bool.and_false]
      case measure=>rw[hi5,hpos];omega
    ·by_cases q98:q=98
     ·subst q98
      have hconv:convL 98 x=truT x:=rfl
      have hqv:((98:UInt8).toNat:Int)=98:=rfl
      rw[hqv]at hnx
      go_wp2_with (refine wpList_load34at rfl rfl rfl rfl hel ?_)
      refine(totru_one x W2 HXp.out heE.1).mono ?_
      rintro e3 w3 ⟨rfl,hB3⟩
      obtain⟨W4,hrun,hl4⟩:=(HL2.out.call hB3).store (inL_len _ _ _).symm (k:=K) (by rw[inL_len];exact hlt) (truT x)
      have HL4:Hid (LetAt w W4 cs bi g' base S (K+1) xs.length cap (inL how xs (K+1))):=by
       have e:=inL_succ (hs:=how) HXx.out
       rw[HQ.out,hconv]at e
       rw[e]at hl4;exact hl4
      have hin:(inL how xs (K+1))[K]? =some (truT x):=by
       rw[inL_at HXx.out,if_pos (Nat.lt_succ_self K),HQ.out,hconv]
      clear hl4
      go_wp2_with (first|refine wpList_storev rfl rfl rfl rfl hrun ?_|refine wpList_load34atg (by rfl) rfl rfl rfl (vr_cells HL4.out.row hin) ?_)
      refine(isfault_any (truT x) (pcs (truT x)) _ rfl (pcs_one _)).mono ?_
      rintro e5 w5 ⟨rfl,hB5⟩
      have HL5:=Lib.hid (HL4.out.call hB5)
      have hi5:w5.iterPos bi=K+1:=by unfold World.iterPos;rw[HL5.out.it]
      by_cases hb:((truT x).k==4)=true
      ·rw[hb]
       have hvy:=HL5.out.res
       have hB7:=HL5.out.below
       have hrow:=vr_cells HL5.out.row hin
       have HY:Hid (y=truT x):=by
        have:=HBD.out K x HXx.out (by rw[HQ.out];unfold badL;rw[hconv,hb];rfl) (fun j z hj hz=>HN.out j z hj hz)
        rw[this,HQ.out];exact hconv
       go_wp2_with (first|refine wpList_load34at rfl rfl rfl rfl hrow ?_|(refine wpList_store34 rfl rfl rfl rfl hvy (by rfl) (pcs_one _) ?_;intro w7 hn7 hg7 hz7))
       refine bodyPost_ret (results_cell_row rfl _ _ _ 39 _ (0,0) _ rfl hn7 Tryz.underlying39 rfl info34) rfl ?_
       exact⟨by rw[HY.out],hB7.grown hg7 hB7.size (fun k9 hk9=>by cases hk9;omega)⟩
      ·have hb:((truT x).k==4)=false:=by simpa using hb
       rw[hb]
       go_wp2_with fail
       go_roundw
       case rel=>
        refine⟨K+1,by omega,HL5.out,fun i z hi hz=> ?_⟩
        rcases(by omega:i<K∨i=K)with h|rfl
        ·exact HN.out i z h hz
        ·rw[HXx.out]at hz;injection hz with hz;subst hz
         rw[HQ.out];unfold badL;rw[hconv,hb,Bool.and_false]
       case measure=>rw[hi5,hpos];omega
     ·obtain rfl:q=118:=by
       rcases HQ4.out with h|h|h|h
       ·exact absurd h q110
       ·exact absurd h q116
       ·exact absurd h q98
       ·exact h
      have hconv:convL 118 x=x:=rfl
      have hqv:((118:UInt8).toNat:Int)=118:=rfl
      rw[hqv]at hnx
      have HL5:Hid (LetAt w W2 cs bi g' base S (K+1) xs.length cap (inL how xs (K+1))):=by
       have e:=inL_same (hs:=how) HXx.out (by rw[HQ.out,hconv])
       rw[e];exact HL2.out
      clear hel heE q110 q116 q98
      go_wp2_with fail
      go_roundw
      case rel=>
       refine⟨K+1,by omega,HL5.out,fun i z hi hz=> ?_⟩
       rcases(by omega:i<K∨i=K)with h|rfl
       ·exact HN.out i z h hz
       ·rw[HXx.out]at hz;injection hz with hz;subst hz
        rw[HQ.out];rfl
      case measure=>rw[hi2,hpos];omega
  ·obtain rfl:K=xs.length:=by omega
   have hnx:=fun ty=>Lib.run_next_end_at (P:=Tryz.prog) wr bi S xs.length ty HL.out.it (by omega)
   have f3:=HL.out.box.cell HF.out
   go_wp2_with fail
   have hB9:=HL.out.below
   have hsz9:=hB9.size
   have hrl:g'<wr.heap.size:=Nat.lt_trans HL.out.lt2 (Array.getElem?_eq_some_iff.1 HL.out.it).1
   refine(HO.out (fun i x hx=>HN.out i x (List.getElem?_eq_some_iff.1 hx).1 hx) wr base g' cap hB9 HL.out.row hrl).mono ?_
   rintro e9 w9 ⟨rfl,hB8⟩
   have hlt1:=HL.out.lt1
   have hvy:=HL.out.res.below hB8 (by omega)
   have hB7:=hB9.trans (hB8.mono (by omega))
   go_wp2_with (refine wpList_store34 rfl rfl rfl rfl hvy (by rfl) (pcs_one _) ?_;intro w7 hn7 hg7 hz7)
   refine bodyPost_ret (results_cell_row rfl _ _ _ 39 _ (0,0) _ rfl hn7 Tryz.underlying39 rfl info34) rfl ?_
   exact⟨rfl,hB7.grown hg7 hB7.size (fun k9 hk9=>by cases hk9;omega)⟩
end Go.Proofs.YtmhfioimgllgeaaGreatDoor
namespace Go.Proofs.YtmhfioimgllgeaaGreatDoor
open Go Go.RowKit Go.Shelf Go.Maps
set_option maxRecDepth 100000 in
set_option maxHeartbeats 8000000 in
/-- By letters, where there are no arrays. -/
theorem call_oneB (s:ByteArray) (hs:s.size≤1000) (M E:Int) (e:Ent) (he:look (tabAll M E) (upL s.data.toList)=some e) (hh:e.how≠ []) (hasc:∀c∈e.how,c=110∨c=116∨c=98∨c=118) (d:Ds) (hd:e.one=some d) (xs:List Vl) (hx:∀x∈xs,plainV x=true) (hne:xs≠ []) (hl:xs.length≤1000) (hlen:xs.length≤e.how.length) (g off c:Nat) (hc:xs.length≤c) (hm:c≤maxLen) (w:World) (hEl:Els xs g off w) (hE:Env w)
 (hl0:e.least≤(xs.length:Int)) (hl1:(xs.length:Int)≤e.most) (y:Vl)
 (hone:(∀i x,xs[i]? =some x→badL (e.how.getD i 0) x=false)→∀W gf ps,Below w.heap.size w W→d.At W (fnV gf ps)→∀base g' cap,World.vr W base (.slice (some ⟨g',0,none⟩) xs.length cap) (inL e.how xs xs.length)→g'<W.heap.size→Calls Tryz.prog gf (#[.slice (some ⟨g',0,none⟩) xs.length cap]++ps) W (fun e w'=>e= .returned (.agg (pcs y))∧Below g' W w'))
 (henter:∀W gf ps,d.At W (fnV gf ps)→∀args w,(callFunc gf args).run Tryz.prog w= .ok (.enter gf args) w)
 (hbad:∀i x,xs[i]? =some x→badL (e.how.getD i 0) x=true→(∀j z,j<i→xs[j]? =some z→badL (e.how.getD j 0) z=false)→y=convL (e.how.getD i 0) x):
 Calls Tryz.prog 18 #[.string s,.slice (some ⟨g,off,none⟩) xs.length c,.agg #[.int .i64 M,.int .i64 E]] w (Gives (.agg (pcs y)) w):=by
 have hA:ArgsAt w (.slice (some ⟨g,off,none⟩) xs.length c) xs:=⟨els_vsAt hEl hx hl hc hm hne 2,fun x h=> .inl (hx x h)⟩
 have HLF:=Lib.hid (show ∀(cs:Array Value) (W:World) (gf:Nat) (ps:Array Value),OneF cs→cs[2]? =some (.string (mk e.how))→cs[3]? =some (fnV gf ps)→d.At W (fnV gf ps)→Below w.heap.size w W→Calls Tryz.prog 48 #[.agg cs,.slice (some ⟨g,off,none⟩) xs.length c] W (Gives (.agg (pcs y)) W)from
  fun cs W gf ps hcs h2 h3 hdW hW=>lift_plain cs hcs xs hx hne hl g off c hc hm W (hEl.below hW) y fun W2 hW2=>
   letters_anyB cs hcs e.how h2 gf ps h3 (henter W gf ps hdW) xs hx hne hlen hl hasc g off c W2 ((hEl.below hW).below hW2) ((hE.below hW).below hW2) y
    (fun hb W3 base g' cap hW3 hr hg=>hone hb W3 gf ps ((hW.trans (hW2.mono hW.size)).trans (hW3.mono (Nat.le_trans hW.size hW2.size))) (Ds.At.below hW3 (Ds.At.below hW2 hdW)) base g' cap hr hg) hbad)
 have HAR:=Lib.hid (show ∀W,Below w.heap.size w W→Calls Tryz.prog 45 #[.slice (some ⟨g,off,none⟩) xs.length c,.func (.func 46) #[] #[]] W (Gives (.bool false) W)from fun W hW=>allright xs _ W (hA.below hW) (hE.below hW))
 have HLK:=Lib.hid he
 have HH:=Lib.hid hh
 have HD:=Lib.hid hd
 clear hone henter hbad hA hEl hE he hh hd hx
 obtain⟨W,hW⟩:∃W,W=(w.alloc (.cells #[.int .i64 M,.int .i64 E] 34)).alloc (.cells vz 39):=⟨_,rfl⟩
 have hdc:World.dec W w.heap.size M E:=by rw[hW];exact(World.dec_new w M E _ rfl).alloc _
 have hvy:World.vb W (w.heap.size+1) vz:=by rw[hW];exact World.vb_new' _ _ _ (by simp)
 have hB:Below w.heap.size w W:=by rw[hW];exact((Below.refl _ w).alloc (Nat.le_refl _) _).alloc (by simp) _
 go_enter Tryz.func18,Tryz.ntmps18
 go_upto_region 1 with (refine wpList_alloc34 rfl rfl ?_)
 go_simp
 rw[←hW]
 clear hW
 have d0:=hdc.c0
 have d1:=hdc.c1
 go_wp2_with fail
 refine(funs_any M E _).mono ?_
 rintro e1 w1 ⟨b,rfl,hT,hB1⟩
 have hvy:=hvy.below hB1 hvy.lt
 have hB:=hB.trans (hB1.mono hB.size)
 clear hB1 hdc d0 d1
 go_wp2_with fail
 refine(upper_any s _ (by omega)).mono ?_
 rintro e2 w2 ⟨rfl,hB2⟩
 have hT:=hT.below hB2
 have hvy:=hvy.below hB2 hvy.lt
 have hB:=hB.trans (hB2.mono hB.size)
 clear hB2
 obtain⟨v,hv,hrun⟩:=hT.look (s:=upS s) (by show(upL s.data.toList).length≤1000;unfold upL;rw[List.length_map];exact hs) HLK.out
 obtain⟨cs,hcv,hcs⟩:=ent_form hv
 obtain⟨va,vb,hv2,hv3,hv4⟩:=hv
 rw[HD.out]at hv3
 obtain⟨gf,ps,rfl⟩:=Ds.At.form hv3
 subst hcv
 injection hv2 with hv2
 have Q0:=Lib.hid (show cs[0]? =some (.int .i64 e.least) by rw[hv2];rfl)
 have Q1:=Lib.hid (show cs[1]? =some (.int .i64 e.most) by rw[hv2];rfl)
 have Q2:=Lib.hid (show cs[2]? =some (.string (mk e.how)) by rw[hv2];rfl)
 have Q3:=Lib.hid (show cs[3]? =some (fnV gf ps) by rw[hv2];rfl)
 have HV:=Lib.hid (show d.At w2 (fnV gf ps)from hv3)
 have HCS:=Lib.hid hcs
 clear hcs hT hv2 hv3 hv4
 go_upto_region 2 with (first|refine wpList_alloc83 rfl rfl ?_|(refine wpList_store83 rfl rfl rfl rfl (blk_new' _ _ _ _ rfl) (by rfl) HCS.out ?_;intro w3 hn3 hg3 hz3))
 have hb3:Below w2.heap.size w2 w3:=((Below.refl _ w2).alloc (Nat.le_refl _) (.cells fz 83)).grown hg3 (by simp) (fun k hk=>by cases hk;exact Nat.le_refl _)
 have HV:=Lib.hid (HV.out.below hb3)
 have hvy:=hvy.below hb3 hvy.lt
 have hB:=hB.trans (hb3.mono hB.size)
 have c0:=hn3.cell Q0.out
 have c1:=hn3.cell Q1.out
 have c2:=hn3.cell Q2.out
 clear hrun hg3 hz3 hb3
 have t1:¬((xs.length:Int)<e.least):=by omega
 have t2:¬(e.most<(xs.length:Int)):=by omega
 go_wp2_with fail
 refine(HAR.out _ hB).mono ?_
 rintro e4 w4 ⟨rfl,hB4⟩
 have HV:=Lib.hid (HV.out.below hB4)
 have hvy:=hvy.below hB4 hvy.lt
 have hn4:=hn3.below hB4 hn3.lt
 have hB:=hB.trans (hB4.mono hB.size)
 have c2:=hn4.cell Q2.out
 clear hB4
 have HL:=Lib.hid (HLF.out cs w4 gf ps HCS.out Q2.out Q3.out HV.out hB)
 have hnb:(mk e.how).toList.isEmpty=false:=by
  rw[ByteArray.toList_eq]
  show(mk e.how).data.toList.isEmpty=false
  show e.how.isEmpty=false
  cases h:e.how with
  |nil=>exact absurd h HH.out
  |cons x l=>rfl
 go_wp2_with (refine wpList_load83 rfl rfl rfl hn4 HCS.out.1 ?_)
 refine HL.out.mono ?_
 rintro e5 w5 ⟨rfl,hB5⟩
 have hvy:=hvy.below hB5 hvy.lt
 have hB:=hB.trans (hB5.mono hB.size)
 clear hB5
 go_wp2_with fail
 refine(copiedF_plain y _).mono ?_
 rintro e6 w6 ⟨rfl,hB6⟩
 have hvy:=hvy.below hB6 hvy.lt
 have hB:=hB.trans (hB6.mono hB.size)
 clear hB6
 go_wp2_with (refine wpList_store34 rfl rfl rfl rfl hvy (by rfl) (pcs_one _) ?_;intro w9 hn9 hg9 hz9)
 refine bodyPost_ret (results_cell_row rfl _ _ _ 39 _ (0,0) _ rfl hn9 Tryz.underlying39 rfl info34) rfl ?_
 exact⟨rfl,hB.grown hg9 hB.size (fun k9 hk9=>by cases hk9;omega)⟩
end Go.Proofs.YtmhfioimgllgeaaGreatDoor
namespace Go.Proofs.YtmhfioimgllgeaaGreatDoor
open Go Go.RowKit Go.Shelf
set_option maxRecDepth 100000 in
set_option maxHeartbeats 4000000 in
theorem not141 (b:Bool) (base g c:Nat) (w:World) (hr:World.vr w base (.slice (some ⟨g,0,none⟩) 1 c) [trV b]):Calls Tryz.prog 141 #[.slice (some ⟨g,0,none⟩) 1 c] w (Gives (.agg (pcs (trV (!b)))) w):=by
 have hB0:Below w.heap.size w (w.alloc (.cells vz 39)):=(Below.refl _ w).alloc (Nat.le_refl _) _
 have hv0:World.vb (w.alloc (.cells vz 39)) w.heap.size vz:=World.vb_new w vz
 have c4:(w.alloc (.cells vz 39)).cell? ⟨g,4,none⟩=some (.bool b):=vr_0 (World.vr.below hr hB0) 4 _ rfl
 clear hr
 go_enter Tryz.func141,Tryz.ntmps141
 go_wp2_with (first|refine wpList_alloc34 rfl rfl ?_|(go_at_call 137;refine(truthF_any (!b) _).mono ?_;rintro e w1 ⟨rfl,hB1⟩;have hvy:=hv0.below hB1 hv0.lt;have hB:=hB0.trans (hB1.mono hB0.size))|(refine wpList_store34 rfl rfl rfl rfl hvy (by rfl) (pcs_one _) ?_;intro w9 hn9 hg9 hz9))
 refine bodyPost_ret (results_cell_row rfl _ _ _ 39 _ (0,0) _ rfl hn9 Tryz.underlying39 rfl info34) rfl ?_
 exact⟨rfl,hB.grown hg9 hB.size (fun k9 hk9=>by cases hk9;omega)⟩
set_option maxRecDepth 100000 in
set_option maxHeartbeats 4000000 in
theorem if142_t (x y:Vl) (base g c:Nat) (w:World) (hr:World.vr w base (.slice (some ⟨g,0,none⟩) 3 c) [trV true,x,y]):Calls Tryz.prog 142 #[.slice (some ⟨g,0,none⟩) 3 c] w (Gives (.agg (pcs x)) w):=by
 have hB0:Below w.heap.size w (w.alloc (.cells vz 39)):=(Below.refl _ w).alloc (Nat.le_refl _) _
 have hv0:World.vb (w.alloc (.cells vz 39)) w.heap.size vz:=World.vb_new w vz
 have c4:(w.alloc (.cells vz 39)).cell? ⟨g,4,none⟩=some (.bool true):=vr_0 (World.vr.below hr hB0) 4 _ rfl
 have hc:=vr_1 (World.vr.below hr hB0)
 have hvy:=hv0
 have hB:=hB0
 clear hr
 go_enter Tryz.func142,Tryz.ntmps142
 go_wp2_with (first|refine wpList_alloc34 rfl rfl ?_|refine wpList_load34at rfl rfl rfl rfl hc ?_|(refine wpList_store34 rfl rfl rfl rfl hvy (by rfl) (pcs_one _) ?_;intro w9 hn9 hg9 hz9))
 refine bodyPost_ret (results_cell_row rfl _ _ _ 39 _ (0,0) _ rfl hn9 Tryz.underlying39 rfl info34) rfl ?_
 exact⟨rfl,hB.grown hg9 hB.size (fun k9 hk9=>by cases hk9;omega)⟩
set_option maxRecDepth 100000 in
set_option maxHeartbeats 4000000 in
theorem if142_f (x y:Vl) (base g c:Nat) (w:World) (hr:World.vr w base (.slice (some ⟨g,0,none⟩) 3 c) [trV false,x,y]) (hgl:g<w.heap.size):Calls Tryz.prog 142 #[.slice (some ⟨g,0,none⟩) 3 c] w (fun e w'=>e= .returned (.agg (pcs y))∧Below g w w'):=by
 have hB0:Below w.heap.size w (w.alloc (.cells vz 39)):=(Below.refl _ w).alloc (Nat.le_refl _) _
 have hv0:World.vb (w.alloc (.cells vz 39)) w.heap.size vz:=World.vb_new w vz
 have hg:base≤g:=(World.ownsRow.lt hr g rfl).1
 have c4:(w.alloc (.cells vz 39)).cell? ⟨g,4,none⟩=some (.bool false):=vr_0 (World.vr.below hr hB0) 4 _ rfl
 have HR:=Lib.hid (show ∀W,Below w.heap.size w W→World.vr W base (.slice (some ⟨g,0,none⟩) 3 c) [trV false,x,y]from fun W hW=>World.vr.below hr hW)
 have hne:g≠w.heap.size:=by omega
 have hbase:base≤w.heap.size:=by omega
 clear hr
 go_enter Tryz.func142,Tryz.ntmps142
 go_wp2_with (first|refine wpList_alloc34 rfl rfl ?_)
 refine(truthF_any false _).mono ?_
 rintro e w1 ⟨rfl,hB1⟩
 have hvy:=hv0.below hB1 hv0.lt
 have hB:=hB0.trans (hB1.mono hB0.size)
 have hR8:=HR.out (w1.alloc (.cells (pcs (trV false)) 39)) (hB.alloc hB.size _)
 have hb1:=hB.size
 clear hB1 HR c4 hv0 hB0
 go_wp2_with (first|refine wpList_bslF rfl rfl rfl ?_|(refine wpList_pushF (y:=trV false) rfl rfl hR8 (by simp) rfl rfl (World.vb_new _ _) (by simp;omega) ?_;intro v8 w8 hr8 hg8;obtain⟨g8,cap8,e8⟩:∃g cap,v8= .slice (some ⟨g,0,none⟩) 4 cap:=vr_pos hr8 (by simp);subst e8;have hc8:=vr_2 hr8;have hvy:World.vb (w1.alloc (.cells (pcs (trV false)) 39)) w.heap.size vz:=hvy.alloc _;have hvy:World.vb w8 w.heap.size vz:=vb_but hvy hg8 (Ne.symm hne))|refine wpList_load34at rfl rfl rfl rfl hc8 ?_|(refine wpList_store34 rfl rfl rfl rfl hvy (by rfl) (pcs_one _) ?_;intro w9 hn9 hg9 hz9))
 have hB8:Below g w w8:=by
  refine((hB.alloc hB.size (.cells (pcs (trV false)) 39)).mono (Nat.le_of_lt hgl)).grown hg8 (by simp;omega) (fun k hk=> ?_)
  have:g=k:=by simpa [Value.ownBlock]using hk
  omega
 refine bodyPost_ret (results_cell_row rfl _ _ _ 39 _ (0,0) _ rfl hn9 Tryz.underlying39 rfl info34) rfl ?_
 exact⟨rfl,hB8.grown hg9 (Nat.le_trans (Nat.le_of_lt hgl) hB8.size) (fun k9 hk9=>by cases hk9;omega)⟩
set_option maxRecDepth 100000 in
set_option maxHeartbeats 4000000 in
theorem asked_num (p:Int×Int) (hpl:plainV (numV p)=true) (w:World) (hE:Env w):Calls Tryz.prog 271 #[.agg (pcs (numV p))] w (Gives (.agg (pcs (numV p))) w):=by
 obtain⟨W,hW⟩:∃W,W=(w.alloc (.cells (pcs (numV p)) 39)).alloc (.cells vz 39):=⟨_,rfl⟩
 have hn:World.vb W w.heap.size (pcs (numV p)):=by rw[hW];exact(World.vb_new w _).alloc _
 have hv0:World.vb W (w.heap.size+1) vz:=by rw[hW];exact World.vb_new' _ _ _ (by simp)
 have hB0:Below w.heap.size w W:=by rw[hW];exact((Below.refl _ w).alloc (Nat.le_refl _) _).alloc (by simp) _
 have c0:W.cell? ⟨w.heap.size,0,none⟩=some (.int .i64 1):=hn.cell rfl
 have hcl:(pcs (numV p)).all (·.oneCell')=true:=(pcs_one _).2
 have HT:=Lib.hid (show ∀W,Below w.heap.size w W→Calls Tryz.prog 220 #[.agg (pcs (numV p))] W (Gives (.agg (pcs (numV p))) W)from fun W hW=>tonum_one (numV p) W hpl (hE.below hW).1 (hE.below hW).2)
 clear hE hpl
 go_enter Tryz.func271,Tryz.ntmps271
 go_upto_region 1 with (first|refine wpList_alloc34 rfl rfl ?_)
 go_simp
 rw[←hW]
 clear hW
 go_wp2_with (first|refine wpList_load34 rfl rfl rfl hn (by rfl) ?_|(go_at_call 220;refine(HT.out _ hB0).mono ?_;rintro e w1 ⟨rfl,hB1⟩;have hvy:=hv0.below hB1 hv0.lt;have hB:=hB0.trans (hB1.mono hB0.size))|(refine wpList_store34 rfl rfl rfl rfl hvy (by rfl) (pcs_one _) ?_;intro w9 hn9 hg9 hz9))
 refine bodyPost_ret (results_cell_row rfl _ _ _ 39 _ (0,0) _ rfl hn9 Tryz.underlying39 rfl info34) rfl ?_
 exact⟨rfl,hB.grown hg9 hB.size (fun k9 hk9=>by cases hk9;omega)⟩
theorem whR_1 :whN (numV (1,0))=1∧whR (numV (1,0)) 1 2=true:=⟨by kernel_rfl,by kernel_rfl⟩
set_option maxRecDepth 100000 in
set_option maxHeartbeats 4000000 in
theorem index_1 (w:World) (hE:Env w):Calls Tryz.prog 260 #[.agg (pcs (numV (1,0))),.int .i64 2,.int .i64 3] w (fun e w'=>e= .returned (.tuple #[.int .i64 1,.agg (pcs {})])∧Below w.heap.size w w'):=by
 have HQ:=Lib.hid (show ∀W,Below w.heap.size w W→Calls Tryz.prog 271 #[.agg (pcs (numV (1,0)))] W (Gives (.agg (pcs (numV (1,0)))) W)from fun W hW=>asked_num (1,0) rfl W (hE.below hW))
 have HW:=Lib.hid (show ∀W,Calls Tryz.prog 128 #[.agg (pcs (numV (1,0))),.int .i64 1,.int .i64 2] W (fun e w'=>e= .returned (.tuple #[.int .i64 1,.bool true])∧Below W.heap.size W w')from fun W=>by
  have h:=wholeF_any (numV (1,0)) 1 2 (pcs (numV (1,0))) W rfl rfl rfl (pcs_one _) (by decide)
  unfold WholePost at h
  rw[whR_1.1,whR_1.2]at h
  exact h)
 have HI:=Lib.hid (show ∀W,Calls Tryz.prog 144 #[.agg (pcs (numV (1,0)))] W (Gives (.bool false) W)from fun W=>isfault_any (numV (1,0)) _ W rfl (pcs_one _))
 obtain⟨y,hy⟩:∃y,y=numV (1,0):=⟨_,rfl⟩
 have HOY:=Lib.hid (pcs_one y)
 rw[←hy]at HQ HW HI⊢
 clear hy hE
 obtain⟨W,hW⟩:∃W,W=(w.alloc (.cells (pcs y) 39)).alloc (.cells vz 39):=⟨_,rfl⟩
 have hn:World.vb W w.heap.size (pcs y):=by rw[hW];exact(World.vb_new w _).alloc _
 have hv0:World.vb W (w.heap.size+1) vz:=by rw[hW];exact World.vb_new' _ _ _ (by simp)
 have hB0:Below w.heap.size w W:=by rw[hW];exact((Below.refl _ w).alloc (Nat.le_refl _) _).alloc (by simp) _
 have hcl:(pcs y).all (·.oneCell')=true:=(pcs_one _).2
 go_enter Tryz.func260,Tryz.ntmps260
 go_upto_region 1 with (first|refine wpList_alloc34 rfl rfl ?_)
 go_simp
 rw[←hW]
 clear hW hcl
 go_upto_region 2 with (first|refine wpList_load34 rfl rfl rfl hn (by rfl) ?_|(go_at_call 271;refine(HQ.out _ hB0).mono ?_;rintro e w1 ⟨rfl,hB1⟩;have hvy:=hv0.below hB1 hv0.lt;have hB:=hB0.trans (hB1.mono hB0.size))|refine wpList_alloc34 rfl rfl ?_|(refine wpList_store34 rfl rfl rfl rfl (World.vb_new' _ _ _ rfl) (by rfl) (pcs_one _) ?_;intro w2 hn2 hg2 hz2))
 have hb2:Below w1.heap.size w1 w2:=((Below.refl _ w1).alloc (Nat.le_refl _) (.cells vz 39)).grown hg2 (by simp) (fun k hk=>by cases hk;exact Nat.le_refl _)
 have hvy:=hvy.below hb2 hvy.lt
 have hB:=hB.trans (hb2.mono hB.size)
 clear hg2 hz2 hb2 hB1 hB0 hv0 hn
 go_wp2_with (first|refine wpList_load34 rfl rfl rfl hn2 (by rfl) ?_|(go_at_call 144;refine(HI.out _).mono ?_;rintro e w3 ⟨rfl,hB3⟩;have hvy:=hvy.below hB3 hvy.lt;have hn2:=hn2.below hB3 hn2.lt;have hB:=hB.trans (hB3.mono hB.size))|(go_at_call 128;refine(HW.out _).mono ?_;rintro e w4 ⟨rfl,hB4⟩;have hvy:=hvy.below hB4 hvy.lt;have hn2:=hn2.below hB4 hn2.lt;have hB:=hB.trans (hB4.mono hB.size))|refine wpList_build_zero rfl rfl ?_|(refine wpList_store34 rfl rfl rfl rfl hvy (by rfl) (pcs_one _) ?_;intro w9 hn9 hg9 hz9))
 refine bodyPost_ret (results_tmp_vl rfl _ _ _ _ rfl hn9 (by rfl)) rfl ?_
 exact⟨rfl,hB.grown hg9 hB.size (fun k9 hk9=>by cases hk9;omega)⟩
set_option maxRecDepth 100000 in
set_option maxHeartbeats 4000000 in
theorem choose_1 (x y:Vl) (g c:Nat) (w:World) (hEl:Els [numV (1,0),x,y] g 0 w) (hE:Env w):Calls Tryz.prog 189 #[.slice (some ⟨g,0,none⟩) 3 c] w (Gives (.agg (pcs x)) w):=by
 have hB0:Below w.heap.size w (w.alloc (.cells vz 39)):=(Below.refl _ w).alloc (Nat.le_refl _) _
 have hv0:World.vb (w.alloc (.cells vz 39)) w.heap.size vz:=World.vb_new w vz
 have HC:=Lib.hid (show ∀W,Below w.heap.size w W→∀j u,(pcs (numV (1,0)))[j]? =some u→W.cell? ⟨g,0+j,none⟩=some u from fun W hW=>els_0 (hEl.below hW))
 have HD:=Lib.hid (show ∀W,Below w.heap.size w W→∀j u,(pcs x)[j]? =some u→W.cell? ⟨g,12+j,none⟩=some u from fun W hW=>els_1 (hEl.below hW))
 have HI:=Lib.hid (show ∀W,Below w.heap.size w W→Calls Tryz.prog 260 #[.agg (pcs (numV (1,0))),.int .i64 2,.int .i64 3] W (fun e w'=>e= .returned (.tuple #[.int .i64 1,.agg (pcs {})])∧Below W.heap.size W w')from fun W hW=>index_1 W (hE.below hW))
 have HF:=Lib.hid (show ∀W,Calls Tryz.prog 144 #[.agg (pcs {})] W (Gives (.bool false) W)from fun W=>isfault_any {} _ W rfl (pcs_one _))
 obtain⟨z,hz⟩:∃z:Vl,z= {}:=⟨_,rfl⟩
 rw[←hz]at HI HF
 obtain⟨q,hq⟩:∃q,q=numV (1,0):=⟨_,rfl⟩
 rw[←hq]at HC HI
 clear hEl hE hz hq
 go_enter Tryz.func189,Tryz.ntmps189
 go_upto_region 2 with (first|refine wpList_alloc34 rfl rfl ?_|refine wpList_load34at rfl rfl rfl rfl (HC.out _ hB0) ?_|(go_at_call 260;refine(HI.out _ hB0).mono ?_;rintro e w1 ⟨rfl,hB1⟩;have hvy:=hv0.below hB1 hv0.lt;have hB:=hB0.trans (hB1.mono hB0.size))|(refine wpList_store34 rfl rfl rfl rfl (World.vb_new' _ _ _ rfl) (by rfl) (pcs_one _) ?_;intro w2 hn2 hg2 hz2))
 have hb2:Below w1.heap.size w1 w2:=((Below.refl _ w1).alloc (Nat.le_refl _) (.cells vz 39)).grown hg2 (by simp) (fun k hk=>by cases hk;exact Nat.le_refl _)
 have hvy:=hvy.below hb2 hvy.lt
 have hB:=hB.trans (hb2.mono hB.size)
 clear hg2 hz2 hb2 hB1 hB0 hv0
 go_wp2_with (first|refine wpList_load34 rfl rfl rfl hn2 (by rfl) ?_|(go_at_call 144;refine(HF.out _).mono ?_;rintro e w3 ⟨rfl,hB3⟩;have hvy:=hvy.below hB3 hvy.lt;have hB:=hB.trans (hB3.mono hB.size))|refine wpList_load34at rfl rfl rfl rfl (HD.out _ hB) ?_|(refine wpList_store34 rfl rfl rfl rfl hvy (by rfl) (pcs_one _) ?_;intro w9 hn9 hg9 hz9))
 refine bodyPost_ret (results_cell_row rfl _ _ _ 39 _ (0,0) _ rfl hn9 Tryz.underlying39 rfl info34) rfl ?_
 exact⟨rfl,hB.grown hg9 hB.size (fun k9 hk9=>by cases hk9;omega)⟩
theorem whR_2 :whN (numV (2,0))=2∧whR (numV (2,0)) 1 2=true:=⟨by kernel_rfl,by kernel_rfl⟩
set_option maxRecDepth 100000 in
set_option maxHeartbeats 4000000 in
theorem index_2 (w:World) (hE:Env w):Calls Tryz.prog 260 #[.agg (pcs (numV (2,0))),.int .i64 2,.int .i64 3] w (fun e w'=>e= .returned (.tuple #[.int .i64 2,.agg (pcs {})])∧Below w.heap.size w w'):=by
 have HQ:=Lib.hid (show ∀W,Below w.heap.size w W→Calls Tryz.prog 271 #[.agg (pcs (numV (2,0)))] W (Gives (.agg (pcs (numV (2,0)))) W)from fun W hW=>asked_num (2,0) rfl W (hE.below hW))
 have HW:=Lib.hid (show ∀W,Calls Tryz.prog 128 #[.agg (pcs (numV (2,0))),.int .i64 1,.int .i64 2] W (fun e w'=>e= .returned (.tuple #[.int .i64 2,.bool true])∧Below W.heap.size W w')from fun W=>by
  have h:=wholeF_any (numV (2,0)) 1 2 (pcs (numV (2,0))) W rfl rfl rfl (pcs_one _) (by decide)
  unfold WholePost at h
  rw[whR_2.1,whR_2.2]at h
  exact h)
 have HI:=Lib.hid (show ∀W,Calls Tryz.prog 144 #[.agg (pcs (numV (2,0)))] W (Gives (.bool false) W)from fun W=>isfault_any (numV (2,0)) _ W rfl (pcs_one _))
 obtain⟨y,hy⟩:∃y,y=numV (2,0):=⟨_,rfl⟩
 have HOY:=Lib.hid (pcs_one y)
 rw[←hy]at HQ HW HI⊢
 clear hy hE
 obtain⟨W,hW⟩:∃W,W=(w.alloc (.cells (pcs y) 39)).alloc (.cells vz 39):=⟨_,rfl⟩
 have hn:World.vb W w.heap.size (pcs y):=by rw[hW];exact(World.vb_new w _).alloc _
 have hv0:World.vb W (w.heap.size+1) vz:=by rw[hW];exact World.vb_new' _ _ _ (by simp)
 have hB0:Below w.heap.size w W:=by rw[hW];exact((Below.refl _ w).alloc (Nat.le_refl _) _).alloc (by simp) _
 have hcl:(pcs y).all (·.oneCell')=true:=(pcs_one _).2
 go_enter Tryz.func260,Tryz.ntmps260
 go_upto_region 1 with (first|refine wpList_alloc34 rfl rfl ?_)
 go_simp
 rw[←hW]
 clear hW hcl
 go_upto_region 2 with (first|refine wpList_load34 rfl rfl rfl hn (by rfl) ?_|(go_at_call 271;refine(HQ.out _ hB0).mono ?_;rintro e w1 ⟨rfl,hB1⟩;have hvy:=hv0.below hB1 hv0.lt;have hB:=hB0.trans (hB1.mono hB0.size))|refine wpList_alloc34 rfl rfl ?_|(refine wpList_store34 rfl rfl rfl rfl (World.vb_new' _ _ _ rfl) (by rfl) (pcs_one _) ?_;intro w2 hn2 hg2 hz2))
 have hb2:Below w1.heap.size w1 w2:=((Below.refl _ w1).alloc (Nat.le_refl _) (.cells vz 39)).grown hg2 (by simp) (fun k hk=>by cases hk;exact Nat.le_refl _)
 have hvy:=hvy.below hb2 hvy.lt
 have hB:=hB.trans (hb2.mono hB.size)
 clear hg2 hz2 hb2 hB1 hB0 hv0 hn
 go_wp2_with (first|refine wpList_load34 rfl rfl rfl hn2 (by rfl) ?_|(go_at_call 144;refine(HI.out _).mono ?_;rintro e w3 ⟨rfl,hB3⟩;have hvy:=hvy.below hB3 hvy.lt;have hn2:=hn2.below hB3 hn2.lt;have hB:=hB.trans (hB3.mono hB.size))|(go_at_call 128;refine(HW.out _).mono ?_;rintro e w4 ⟨rfl,hB4⟩;have hvy:=hvy.below hB4 hvy.lt;have hn2:=hn2.below hB4 hn2.lt;have hB:=hB.trans (hB4.mono hB.size))|refine wpList_build_zero rfl rfl ?_|(refine wpList_store34 rfl rfl rfl rfl hvy (by rfl) (pcs_one _) ?_;intro w9 hn9 hg9 hz9))
 refine bodyPost_ret (results_tmp_vl rfl _ _ _ _ rfl hn9 (by rfl)) rfl ?_
 exact⟨rfl,hB.grown hg9 hB.size (fun k9 hk9=>by cases hk9;omega)⟩
set_option maxRecDepth 100000 in
set_option maxHeartbeats 4000000 in
theorem choose_2 (x y:Vl) (g c:Nat) (w:World) (hEl:Els [numV (2,0),x,y] g 0 w) (hE:Env w):Calls Tryz.prog 189 #[.slice (some ⟨g,0,none⟩) 3 c] w (Gives (.agg (pcs y)) w):=by
 have hB0:Below w.heap.size w (w.alloc (.cells vz 39)):=(Below.refl _ w).alloc (Nat.le_refl _) _
 have hv0:World.vb (w.alloc (.cells vz 39)) w.heap.size vz:=World.vb_new w vz
 have HC:=Lib.hid (show ∀W,Below w.heap.size w W→∀j u,(pcs (numV (2,0)))[j]? =some u→W.cell? ⟨g,0+j,none⟩=some u from fun W hW=>els_0 (hEl.below hW))
 have HD:=Lib.hid (show ∀W,Below w.heap.size w W→∀j u,(pcs y)[j]? =some u→W.cell? ⟨g,24+j,none⟩=some u from fun W hW=>els_k (k:=2) (hEl.below hW) rfl)
 have HI:=Lib.hid (show ∀W,Below w.heap.size w W→Calls Tryz.prog 260 #[.agg (pcs (numV (2,0))),.int .i64 2,.int .i64 3] W (fun e w'=>e= .returned (.tuple #[.int .i64 2,.agg (pcs {})])∧Below W.heap.size W w')from fun W hW=>index_2 W (hE.below hW))
 have HF:=Lib.hid (show ∀W,Calls Tryz.prog 144 #[.agg (pcs {})] W (Gives (.bool false) W)from fun W=>isfault_any {} _ W rfl (pcs_one _))
 obtain⟨z,hz⟩:∃z:Vl,z= {}:=⟨_,rfl⟩
 rw[←hz]at HI HF
 obtain⟨q,hq⟩:∃q,q=numV (2,0):=⟨_,rfl⟩
 rw[←hq]at HC HI
 clear hEl hE hz hq
 go_enter Tryz.func189,Tryz.ntmps189
 go_upto_region 2 with (first|refine wpList_alloc34 rfl rfl ?_|refine wpList_load34at rfl rfl rfl rfl (HC.out _ hB0) ?_|(go_at_call 260;refine(HI.out _ hB0).mono ?_;rintro e w1 ⟨rfl,hB1⟩;have hvy:=hv0.below hB1 hv0.lt;have hB:=hB0.trans (hB1.mono hB0.size))|(refine wpList_store34 rfl rfl rfl rfl (World.vb_new' _ _ _ rfl) (by rfl) (pcs_one _) ?_;intro w2 hn2 hg2 hz2))
 have hb2:Below w1.heap.size w1 w2:=((Below.refl _ w1).alloc (Nat.le_refl _) (.cells vz 39)).grown hg2 (by simp) (fun k hk=>by cases hk;exact Nat.le_refl _)
 have hvy:=hvy.below hb2 hvy.lt
 have hB:=hB.trans (hb2.mono hB.size)
 clear hg2 hz2 hb2 hB1 hB0 hv0
 go_wp2_with (first|refine wpList_load34 rfl rfl rfl hn2 (by rfl) ?_|(go_at_call 144;refine(HF.out _).mono ?_;rintro e w3 ⟨rfl,hB3⟩;have hvy:=hvy.below hB3 hvy.lt;have hB:=hB.trans (hB3.mono hB.size))|refine wpList_load34at rfl rfl rfl rfl (HD.out _ hB) ?_|(refine wpList_store34 rfl rfl rfl rfl hvy (by rfl) (pcs_one _) ?_;intro w9 hn9 hg9 hz9))
 refine bodyPost_ret (results_cell_row rfl _ _ _ 39 _ (0,0) _ rfl hn9 Tryz.underlying39 rfl info34) rfl ?_
 exact⟨rfl,hB.grown hg9 hB.size (fun k9 hk9=>by cases hk9;omega)⟩
end Go.Proofs.YtmhfioimgllgeaaGreatDoor
namespace Go.Proofs.YtmhfioimgllgeaaGreatDoor
open Go Go.RowKit Go.Shelf
set_option maxRecDepth 100000 in
set_option maxHeartbeats 4000000 in
theorem call_not (b:Bool) (g c:Nat) (hc:1≤c) (hm:c≤maxLen) (w:World) (hEl:Els [trV b] g 0 w) (hE:Env w):
 Calls Tryz.prog 18 #[.string (mk [78,79,84]),.slice (some ⟨g,0,none⟩) 1 c,.agg #[.int .i64 0,.int .i64 0]] w (Gives (.agg (pcs (trV (!b)))) w):=by
 refine call_one (mk [78,79,84]) (by decide) 0 0 {least:=1,most:=1,how:= [98],one:=some (.f 141)} (by kernel_rfl) (by decide) (by decide) (.f 141) rfl [trV b] (fun x hx=>by rw[List.mem_singleton.1 hx];rfl) (by simp) (by simp) (Nat.le_refl _) g 0 c hc hm w hEl hE (Int.le_refl _) (Int.le_refl _) _ ?_ ?_ ?_
 ·intro _ W gf ps hW hd base g' cap hr hg
  obtain⟨rfl,rfl⟩:=f_inv hd
  exact not141 b base g' cap W hr
 ·intro W gf ps hd
  obtain⟨rfl,_⟩:=f_inv hd
  exact eg141
 ·intro i x hx hb _
  exfalso
  match i,hx,hb with
  |0,hx,hb=>injection hx with hx;subst hx;cases hb
  |i+1,hx,_=>cases hx
set_option maxRecDepth 100000 in
set_option maxHeartbeats 4000000 in
theorem call_if (b:Bool) (x y:Vl) (hx:∀z∈ [trV b,x,y],plainV z=true) (g c:Nat) (hc:3≤c) (hm:c≤maxLen) (w:World) (hEl:Els [trV b,x,y] g 0 w) (hE:Env w):
 Calls Tryz.prog 18 #[.string (mk [73,70]),.slice (some ⟨g,0,none⟩) 3 c,.agg #[.int .i64 0,.int .i64 0]] w (Gives (.agg (pcs (if b=true then x else y))) w):=by
 refine call_oneB (mk [73,70]) (by decide) 0 0 {least:=2,most:=3,how:= [98,118,118],one:=some (.f 142)} (by kernel_rfl) (by decide) (by decide) (.f 142) rfl [trV b,x,y] hx (by simp) (by simp) (Nat.le_refl _) g 0 c hc hm w hEl hE (by show(2:Int)≤3;decide) (Int.le_refl _) _ ?_ ?_ ?_
 ·intro _ W gf ps hW hd base g' cap hr hg
  obtain⟨rfl,rfl⟩:=f_inv hd
  cases b with
  |true=>exact(if142_t x y base g' cap W hr).mono fun e w' ⟨he,hB⟩=>⟨he,hB.mono (Nat.le_of_lt hg)⟩
  |false=>exact if142_f x y base g' cap W hr hg
 ·intro W gf ps hd
  obtain⟨rfl,_⟩:=f_inv hd
  exact eg142
 ·intro i z hz hb _
  exfalso
  match i,hz,hb with
  |0,hz,hb=>injection hz with hz;subst hz;cases hb
  |1,_,hb=>cases hb
  |2,_,hb=>cases hb
  |i+3,hz,_=>cases hz
theorem eg189 :∀args w,(callFunc 189 args).run Tryz.prog w= .ok (.enter 189 args) w:=enters_of Tryz.func189 (by kernel_rfl) rfl
theorem eg182 :∀args w,(callFunc 182 args).run Tryz.prog w= .ok (.enter 182 args) w:=enters_of Tryz.func182 (by kernel_rfl) rfl
set_option maxRecDepth 100000 in
set_option maxHeartbeats 4000000 in
theorem call_choose_1 (x y:Vl) (hx:∀z∈ [numV (1,0),x,y],plainV z=true) (g c:Nat) (hc:3≤c) (hm:c≤maxLen) (w:World) (hEl:Els [numV (1,0),x,y] g 0 w) (hE:Env w):
 Calls Tryz.prog 18 #[.string (mk [67,72,79,79,83,69]),.slice (some ⟨g,0,none⟩) 3 c,.agg #[.int .i64 0,.int .i64 0]] w (Gives (.agg (pcs x)) w):=by
 refine call_a (mk [67,72,79,79,83,69]) (by decide) {least:=2,most:=20,all:=some (.f 189)} (by kernel_rfl) rfl (.f 189) rfl [numV (1,0),x,y] 3 rfl hx (by simp) (by decide) (by decide) (by decide) g c hc hm w hEl hE _ ?_
 intro W gf ps hEW hAW hEn hd
 obtain⟨rfl,rfl⟩:=f_inv hd
 exact⟨eg189,choose_1 x y g c W hEW hEn⟩
set_option maxRecDepth 100000 in
set_option maxHeartbeats 4000000 in
theorem call_choose_2 (x y:Vl) (hx:∀z∈ [numV (2,0),x,y],plainV z=true) (g c:Nat) (hc:3≤c) (hm:c≤maxLen) (w:World) (hEl:Els [numV (2,0),x,y] g 0 w) (hE:Env w):
 Calls Tryz.prog 18 #[.string (mk [67,72,79,79,83,69]),.slice (some ⟨g,0,none⟩) 3 c,.agg #[.int .i64 0,.int .i64 0]] w (Gives (.agg (pcs y)) w):=by
 refine call_a (mk [67,72,79,79,83,69]) (by decide) {least:=2,most:=20,all:=some (.f 189)} (by kernel_rfl) rfl (.f 189) rfl [numV (2,0),x,y] 3 rfl hx (by simp) (by decide) (by decide) (by decide) g c hc hm w hEl hE _ ?_
 intro W gf ps hEW hAW hEn hd
 obtain⟨rfl,rfl⟩:=f_inv hd
 exact⟨eg189,choose_2 x y g c W hEW hEn⟩
theorem truths_ok {xs:List Vl} (h:∀x∈xs,∃b,x=trV b):xs.find? isF=none∧∀x∈xs,plainV x=true:=by
 refine⟨List.find?_eq_none.2 fun x hx=> ?_,fun x hx=> ?_⟩
 ·obtain⟨b,rfl⟩:=h x hx
  simp[isF,trV]
 ·obtain⟨b,rfl⟩:=h x hx
  rfl
set_option maxRecDepth 100000 in
set_option maxHeartbeats 4000000 in
theorem call_and (xs:List Vl) (n:Nat) (hn:n=xs.length) (h1:1≤n) (h20:n≤20) (hx:∀x∈xs,∃b,x=trV b) (g c:Nat) (hc:n≤c) (hm:c≤maxLen) (w:World) (hEl:Els xs g 0 w) (hE:Env w):
 Calls Tryz.prog 18 #[.string (mk [65,78,68]),.slice (some ⟨g,0,none⟩) n c,.agg #[.int .i64 0,.int .i64 0]] w (Gives (.agg (pcs (trV (andB n (cntB xs))))) w):=by
 have hne:xs≠ []:=by intro e;rw[e]at hn;simp at hn;omega
 refine call_a (mk [65,78,68]) (by decide) {least:=1,most:=20,all:=some (.c 261 (.f 181))} (by kernel_rfl) rfl (.c 261 (.f 181)) rfl xs n hn (truths_ok hx).2 hne (by omega) (by show(1:Int)≤_;omega) (by show _≤(20:Int);omega) g c hc hm w hEl hE _ ?_
 intro W gf ps hEW hAW hEn hd
 obtain⟨rfl,p,u,rfl,hb,hu⟩:=hd.c_inv
 have hu:u= .func (.func 181) #[] #[]:=hu
 subst hu
 have h:=logic_any 181 eg181 andB and181 xs (fun x hx'=> .inr (hx x hx')) hne (by omega) g c p W hEW hEn hb
 have e:logV andB xs=trV (andB n (cntB xs)):=by unfold logV;rw[(truths_ok hx).1,hn]
 rw[e,←hn]at h
 exact⟨eg261,h⟩
set_option maxRecDepth 100000 in
set_option maxHeartbeats 4000000 in
theorem call_or (xs:List Vl) (n:Nat) (hn:n=xs.length) (h1:1≤n) (h20:n≤20) (hx:∀x∈xs,∃b,x=trV b) (g c:Nat) (hc:n≤c) (hm:c≤maxLen) (w:World) (hEl:Els xs g 0 w) (hE:Env w):
 Calls Tryz.prog 18 #[.string (mk [79,82]),.slice (some ⟨g,0,none⟩) n c,.agg #[.int .i64 0,.int .i64 0]] w (Gives (.agg (pcs (trV (orB n (cntB xs))))) w):=by
 have hne:xs≠ []:=by intro e;rw[e]at hn;simp at hn;omega
 refine call_a (mk [79,82]) (by decide) {least:=1,most:=20,all:=some (.c 261 (.f 182))} (by kernel_rfl) rfl (.c 261 (.f 182)) rfl xs n hn (truths_ok hx).2 hne (by omega) (by show(1:Int)≤_;omega) (by show _≤(20:Int);omega) g c hc hm w hEl hE _ ?_
 intro W gf ps hEW hAW hEn hd
 obtain⟨rfl,p,u,rfl,hb,hu⟩:=hd.c_inv
 have hu:u= .func (.func 182) #[] #[]:=hu
 subst hu
 have h:=logic_any 182 eg182 orB or182 xs (fun x hx'=> .inr (hx x hx')) hne (by omega) g c p W hEW hEn hb
 have e:logV orB xs=trV (orB n (cntB xs)):=by unfold logV;rw[(truths_ok hx).1,hn]
 rw[e,←hn]at h
 exact⟨eg261,h⟩
set_option maxRecDepth 100000 in
set_option maxHeartbeats 4000000 in
theorem call_xor (xs:List Vl) (n:Nat) (hn:n=xs.length) (h1:1≤n) (h20:n≤20) (hx:∀x∈xs,∃b,x=trV b) (g c:Nat) (hc:n≤c) (hm:c≤maxLen) (w:World) (hEl:Els xs g 0 w) (hE:Env w):
 Calls Tryz.prog 18 #[.string (mk [88,79,82]),.slice (some ⟨g,0,none⟩) n c,.agg #[.int .i64 0,.int .i64 0]] w (Gives (.agg (pcs (trV (xorB n (cntB xs))))) w):=by
 have hne:xs≠ []:=by intro e;rw[e]at hn;simp at hn;omega
 refine call_a (mk [88,79,82]) (by decide) {least:=1,most:=20,all:=some (.c 261 (.f 183))} (by kernel_rfl) rfl (.c 261 (.f 183)) rfl xs n hn (truths_ok hx).2 hne (by omega) (by show(1:Int)≤_;omega) (by show _≤(20:Int);omega) g c hc hm w hEl hE _ ?_
 intro W gf ps hEW hAW hEn hd
 obtain⟨rfl,p,u,rfl,hb,hu⟩:=hd.c_inv
 have hu:u= .func (.func 183) #[] #[]:=hu
 subst hu
 have h:=logic_any 183 eg183 xorB xor183 xs (fun x hx'=> .inr (hx x hx')) hne (by omega) g c p W hEW hEn hb
 have e:logV xorB xs=trV (xorB n (cntB xs)):=by unfold logV;rw[(truths_ok hx).1,hn]
 rw[e,←hn]at h
 exact⟨eg261,h⟩
end Go.Proofs.YtmhfioimgllgeaaGreatDoor
