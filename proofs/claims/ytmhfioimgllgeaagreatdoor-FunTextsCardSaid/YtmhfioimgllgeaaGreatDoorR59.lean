/- Fun: LEN, LEFT, RIGHT, FIND, SUBSTITUTE, walked at texts. (By gentxb.py.) -/
import Derived.Test.YtmhfioimgllgeaaGreatDoorR01
import Derived.Test.YtmhfioimgllgeaaGreatDoorR46
import Derived.Test.YtmhfioimgllgeaaGreatDoorR49
namespace Go.Proofs.YtmhfioimgllgeaaGreatDoor
open Go Go.RowKit Go.Shelf Go.Lib
set_option maxRecDepth 100000 in
set_option maxHeartbeats 8000000 in
/-- A function of texts that has captured something. -/
theorem texts1c_any (gd:Nat) (ps:Array Value) (eg:∀args w,(callFunc gd args).run Tryz.prog w= .ok (.enter gd args) w) (y:Vl) (zs:List Vl) (base g cap:Nat) (u:Value) (w:World) (hg:∀b S W,Below w.heap.size w W→World.sr W b S (zs.map (·.s))→World.vr W base (.slice (some ⟨g,0,none⟩) zs.length cap) zs→Calls Tryz.prog gd (#[S,.slice (some ⟨g,0,none⟩) zs.length cap]++ps) W (Gives (.agg (pcs y)) W)) (hr:World.vr w base (.slice (some ⟨g,0,none⟩) zs.length cap) zs) (_hgl:g<w.heap.size) (hn:zs.length≤100) (hb:Bx w u (.func (.func gd) #[] ps)):
 Calls Tryz.prog 243 #[.slice (some ⟨g,0,none⟩) zs.length cap,u] w (Gives (.agg (pcs y)) w):=by
 obtain⟨b,t,rfl,hbx⟩:=hb
 have hbl:=hbx.lt
 have HVR:=Lib.hid (show ∀W,Below w.heap.size w W→World.vr W base (.slice (some ⟨g,0,none⟩) zs.length cap) zs from fun W hW=>World.vr.below hr hW)
 have HBX:=Lib.hid (show ∀W,Below w.heap.size w W→World.blk W b t #[.func (.func gd) #[] ps]from fun W hW=>hbx.below hW hbl)
 have HG:=Lib.hid hg
 clear hr hbx hg
 go_enter Tryz.func243,Tryz.ntmps243
 go_wp2_with (refine wpList_alloc34 rfl rfl ?_)
 have hvy0:World.vb (w.alloc (.cells vz 39)) w.heap.size vz:=World.vb_new w vz
 have hB0:Below w.heap.size w (w.alloc (.cells vz 39)):=(Below.refl _ w).alloc (Nat.le_refl _) _
 go_loopw [4,9] (fun s i wr=>∃K:Nat,i= .int .i64 (K:Int)∧K≤zs.length∧Hid (World.sr wr (w.heap.size+1) s ((zs.take K).map (·.s)))∧Hid (World.vb wr w.heap.size vz)∧Below w.heap.size w wr) (fun _ i _=>zs.length-(intOf i).toNat)
 case atStart=>exact⟨0,rfl,Nat.zero_le _,World.sr_nil,hvy0,hB0⟩
 case round=>
  clear hvy0 hB0
  obtain⟨K,rfl,hK,HR,HV,hB⟩:=hrel
  by_cases hlt:K<zs.length
  ·have hKI:(K:Int)<(zs.length:Int):=by omega
   obtain⟨z,hzK⟩:∃z,zs[K]? =some z:=⟨_,List.getElem?_eq_getElem hlt⟩
   have hcz:=vr_cells (HVR.out wr hB) hzK
   have HTK:=Lib.hid (show(zs.take (K+1)).map (·.s)=(zs.take K).map (·.s)++ [z.s] by rw[List.take_add_one,hzK,List.map_append];rfl)
   have hlen:((zs.take K).map (·.s)).length≤100000:=by rw[List.length_map,List.length_take];omega
   have HLN:=Lib.hid hlen
   clear hzK hlen
   go_upto_region 5 with (first|refine wpList_load34at rfl rfl rfl rfl hcz ?_|refine wpList_alloc34 rfl rfl ?_|(refine wpList_store34 rfl rfl rfl rfl (World.vb_new' _ _ _ rfl) (by rfl) (pcs_one _) ?_;intro w1 hn1 hg1 hz1))
   have hb1:Below wr.heap.size wr w1:=((Below.refl _ wr).alloc (Nat.le_refl _) (.cells vz 39)).grown hg1 (by simp) (fun k hk=>by cases hk;exact Nat.le_refl _)
   have c3:=cells_str hn1
   have HR1:=Lib.hid (HR.out.below hb1)
   have HV1:=Lib.hid (HV.out.below hb1 HV.out.lt)
   have hB1:=hB.trans (hb1.mono hB.size)
   have hB1z:=hB1.size
   have HR8:=Lib.hid (show World.sr (w1.alloc (.cells #[.string z.s] 9)) (w.heap.size+1) _ _ from HR1.out.alloc _)
   have HS:=Lib.hid (World.ownsRow.lt HR8.out)
   clear hcz hg1 hz1 hb1 hn1
   go_wp2_with (first|refine wpList_bslS rfl rfl rfl ?_|(refine wpList_pushS rfl rfl HR8.out HLN.out rfl rfl (cell_new_one w1 _ _) (by have:=HV1.out.lt;simp;omega) ?_;intro v8 w8 hr8 hg8))
   have hvb8:=(HV1.out.alloc (.cells #[.string z.s] 9)).grown hg8 (fun e=>by have:=(HS.out _ e.symm).1;omega)
   have hB8:=hB1.alloc hB1z (.cells #[.string z.s] 9)
   go_roundw
   case rel=>exact⟨K+1,by go_num,by omega,by rw[HTK.out];exact hr8,hvb8,sr_grown HR8.out (Nat.le_succ _) hB8 hB8.size hg8⟩
   case measure=>simp[intOf];omega
  ·obtain rfl:K=zs.length:=by omega
   have hKI:¬((zs.length:Int)<(zs.length:Int)):=by omega
   have hvy:=HV.out
   have hc:=(HBX.out wr hB).cell (j:=0) rfl
   have hd:=HR.out
   rw[List.take_length]at hd
   have HVW:=Lib.hid (HVR.out wr hB)
   have HDD:=Lib.hid hd
   have HBB:=Lib.hid hB
   clear hd HR HV HVR
   go_wp2_with (first|(go_at_fn gd;refine(HG.out _ _ _ HBB.out HDD.out HVW.out).mono ?_;rintro e w4 ⟨rfl,hB4⟩;have hvy:=hvy.below hB4 hvy.lt;have hB:=hB.trans (hB4.mono hB.size))|(refine wpList_store34 rfl rfl rfl rfl hvy (by rfl) (pcs_one _) ?_;intro w9 hn9 hg9 hz9))
   refine bodyPost_ret (results_cell_row rfl _ _ _ 39 _ (0,0) _ rfl hn9 Tryz.underlying39 rfl info34) rfl ?_
   exact⟨rfl,hB.grown hg9 hB.size (fun k9 hk9=>by cases hk9;omega)⟩
theorem txt_size {s:ByteArray} (hs:txtOk s=true):s.size≤200:=by
 unfold txtOk at hs
 simp at hs
 exact hs.1
theorem txt_isT {s:ByteArray} (hs:txtOk s=true):isTextL s.data.toList=true:=by
 unfold txtOk at hs
 rw[Bool.and_eq_true]at hs
 exact hs.2
theorem below_iter (w:World) (s:ByteArray) (p:Nat):Below w.heap.size w (w.iter s p):=(Below.refl _ w).alloc (Nat.le_refl _) _
theorem sgs_size {s:ByteArray} (hs:s.size≤200):(sgs s.data.toList).length≤200:=by
 have h:=sgs_len _ s.data.toList (Nat.le_refl _)
 rw[←Lib.size_eq]at h
 omega
def lenV (s:ByteArray):Vl:=numV (ofD ((sgs s.data.toList).length:Int)).1
set_option maxRecDepth 100000 in
set_option maxHeartbeats 4000000 in
theorem len150 (s:ByteArray) (hs:s.size≤200) (b:Nat) (S L:Value) (w:World) (hS:World.sr w b S [s]):Calls Tryz.prog 150 #[S,L] w (Gives (.agg (pcs (lenV s))) w):=by
 obtain⟨p,c,rfl,_,hp⟩:=hS.slice
 obtain⟨gs,rfl,hgs,hcs⟩:=hp (by simp)
 have c0:=(((Below.refl _ w).alloc (Nat.le_refl _) (.cells vz 39)).cell (p:=⟨gs,0,none⟩) hgs).trans (hcs 0 s rfl)
 have hv0:World.vb (w.alloc (.cells vz 39)) w.heap.size vz:=World.vb_new w vz
 have hB0:Below w.heap.size w (w.alloc (.cells vz 39)):=(Below.refl _ w).alloc (Nat.le_refl _) _
 have HRC:=Lib.hid (fun W=>Tryz.utf8_RuneCountInString s W (by omega))
 rw[rc_sgs]at HRC
 have hl:=sgs_size hs
 have hyy:lenV s=numV (ofD ((sgs s.data.toList).length:Int)).1:=rfl
 obtain⟨n,hn⟩:∃n,n=(sgs s.data.toList).length:=⟨_,rfl⟩
 rw[←hn]at HRC hl hyy
 obtain⟨y,hy⟩:∃y,y=lenV s:=⟨_,rfl⟩
 rw[←hy]at hyy⊢
 have HCO:=Lib.hid (fun W=>count_any (n:Int) W (by omega) (by omega))
 rw[←hyy]at HCO
 clear hS hp hcs hn hy hyy
 go_enter Tryz.func150,Tryz.ntmps150
 go_wp2_with (first|refine wpList_alloc34 rfl rfl ?_|(go_at_call 151;refine(HRC.out _).mono ?_;rintro e w1 ⟨rfl,pos,rfl⟩;have hv1:=hv0.below (below_iter _ s pos) hv0.lt;have hB1:=hB0.trans ((below_iter _ s pos).mono hB0.size))|(go_at_call 121;refine(HCO.out _).mono ?_;rintro e w2 ⟨rfl,hB2⟩;have hvy:=hv1.below hB2 hv1.lt;have hB:=hB1.trans (hB2.mono hB1.size))|(refine wpList_store34 rfl rfl rfl rfl hvy (by rfl) (pcs_one _) ?_;intro w9 hn9 hg9 hz9))
 refine bodyPost_ret (results_cell_row rfl _ _ _ 39 _ (0,0) _ rfl hn9 Tryz.underlying39 rfl info34) rfl ?_
 exact⟨rfl,hB.grown hg9 hB.size (fun k9 hk9=>by cases hk9;omega)⟩
/-- The first of a row's strings. -/
theorem left153 (p:Option Addr) (N k c:Nat) (hk:k≤c) (w:World):Calls Tryz.prog 153 #[.slice p N c,.int .i64 k] w (fun e w'=>e= .returned (.slice p k c)∧w'=w):=by
 have h0:(0:Int)≤(k:Int):=by omega
 have h1:(k:Int)≤(c:Int):=by omega
 go_enter Tryz.func153,Tryz.ntmps153
 go_wp2_with fail
 go_ret
 exact⟨rfl,rfl⟩
theorem right154 (g N k c:Nat) (hk:k≤N) (hc:N≤c) (hl:N≤1000) (w:World):Calls Tryz.prog 154 #[.slice (some ⟨g,0,none⟩) N c,.int .i64 k] w (fun e w'=>∃o,e= .returned (.slice (some ⟨g,o,none⟩) k (c-(N-k)))∧(k≠0→o=N-k)∧w'=w):=by
 obtain⟨j,hj⟩:∃j,j=N-k:=⟨_,rfl⟩
 have e1:IntKind.i64.wrap ((N:Int)-(k:Int))=(j:Int):=by rw[IntKind.wrap_i64];omega
 have e2:N-j=k:=by omega
 have h1:(j:Int)≤(N:Int):=by omega
 have h2:(N:Int)≤(c:Int):=by omega
 have h3:(j:Int)≤(c:Int):=by omega
 obtain⟨o,ho,hoe⟩:∃o,(if c=j then some (⟨g,0,none⟩:Addr)else some ⟨g,j,none⟩)=some ⟨g,o,none⟩∧(k≠0→o=j):=by
  by_cases h:c=j
  ·exact⟨0,if_pos h,fun h2=>by omega⟩
  ·exact⟨j,if_neg h,fun _=>rfl⟩
 rw[←hj]
 clear hj
 go_enter Tryz.func154,Tryz.ntmps154
 go_wp2_with fail
 go_ret
 exact⟨o,rfl,hoe,rfl⟩
theorem right154n (w:World):Calls Tryz.prog 154 #[.slice none 0 0,.int .i64 0] w (fun e w'=>e= .returned (.slice none 0 0)∧w'=w):=by
 go_enter Tryz.func154,Tryz.ntmps154
 go_wp2_with fail
 go_ret
 exact⟨rfl,rfl⟩
set_option maxRecDepth 100000 in
set_option maxHeartbeats 8000000 in
/-- LEFT and RIGHT at a text and a number of signs: A tells where the part begins. -/
theorem part244 (F:Nat) (eF:∀args w,(callFunc F args).run Tryz.prog w= .ok (.enter F args) w) (s:ByteArray) (hs:txtOk s=true) (x z:Vl) (hz:RightP (dcs z)) (hzw:whR z 0 4611686018427387904=true) (k A:Nat) (hk:(whN z:Int)=(k:Int)) (hkG:k≤(sgs s.data.toList).length) (hA:A+k≤(sgs s.data.toList).length)
 (hFn:(sgs s.data.toList).length=0→∀W,Calls Tryz.prog F #[.slice none 0 0,.int .i64 0] W (fun e w'=>e= .returned (.slice none 0 0)∧w'=W))
 (hF:∀g c W,(sgs s.data.toList).length≤c→Calls Tryz.prog F #[.slice (some ⟨g,0,none⟩) (sgs s.data.toList).length c,.int .i64 k] W (fun e w'=>∃o c',e= .returned (.slice (some ⟨g,o,none⟩) k c')∧k≤c'∧(k≠0→o=A)∧w'=W))
 (b base g cap:Nat) (S p1:Value) (w:World) (hS:World.sr w b S [s,z.s]) (hL:World.vr w base (.slice (some ⟨g,0,none⟩) 2 cap) [x,z]) (hE:Env w) (hb:Bx w p1 (.func (.func F) #[] #[])):
 Calls Tryz.prog 244 #[S,.slice (some ⟨g,0,none⟩) 2 cap,p1] w (Gives (.agg (pcs (txtV (mk (((sgs s.data.toList).drop A).take k).flatten)))) w):=by
 obtain⟨p,c,rfl,_,hp⟩:=hS.slice
 obtain⟨gs,rfl,hgs,hcs⟩:=hp (by simp)
 obtain⟨bb,tb,rfl,hbx⟩:=hb
 have hbl:=hbx.lt
 have hc0:=hcs 0 s rfl
 have HS:=Lib.hid (show ∀W,Below w.heap.size w W→W.cell? ⟨gs,0,none⟩=some (.string s)from fun W hW=>(hW.cell (p:=⟨gs,0,none⟩) hgs).trans hc0)
 have HBX:=Lib.hid (show ∀W,Below w.heap.size w W→W.cell? ⟨bb,0,none⟩=some (.func (.func F) #[] #[])from fun W hW=>(hbx.below hW hbl).cell (j:=0) rfl)
 have HVR:=Lib.hid (show ∀W,Below w.heap.size w W→World.vr W base (.slice (some ⟨g,0,none⟩) 2 cap) [x,z]from fun W hW=>World.vr.below hL hW)
 have HEN:=Lib.hid (show ∀W,Below w.heap.size w W→Env W from fun W hW=>hE.below hW)
 have HWZ:=Lib.hid (fun W=>wholeF_any z 0 4611686018427387904 (pcs z) W rfl rfl rfl (pcs_one _) (by have:=hz.1;have:=hz.2.1;simp only at *;omega))
 have hsz:=txt_size hs
 have HSG:=Lib.hid (fun W (hW:Below w.heap.size w W)=>signs_any s (by omega) W (hE.below hW).1)
 have hlen:=sgs_size hsz
 have HL:=Lib.hid (part_text hs A k)
 have HF1:=Lib.hid (show(((sgs s.data.toList).drop A).take k).flatten.length≤200 from by
  have h1:=flat_part (sgs s.data.toList) A k
  rw[sgs_flat _ _ (Nat.le_refl _),←Lib.size_eq]at h1
  omega)
 have HFN:=Lib.hid hFn
 have HFF:=Lib.hid hF
 unfold WholePost at HWZ
 rw[hzw,hk]at HWZ
 clear hF hFn hzw hk
 obtain⟨G,hG⟩:∃G,G=sgs s.data.toList:=⟨_,rfl⟩
 rw[←hG]at HSG hlen HL HF1 HFN HFF hkG hA⊢
 clear hG hE hL hc0 hcs hgs hS hp hs hz hbx
 have HTX2:=Lib.hid (show ∀W,Below w.heap.size w W→Calls Tryz.prog 240 #[.string (mk ((G.drop A).take k).flatten)] W (Gives (.agg (pcs (txtV (mk ((G.drop A).take k).flatten)))) W)from fun W hW=>ftext_any _ HL.out W (HEN.out W hW))
 have hv0:World.vb (w.alloc (.cells vz 39)) w.heap.size vz:=World.vb_new w vz
 have hB0:Below w.heap.size w (w.alloc (.cells vz 39)):=(Below.refl _ w).alloc (Nat.le_refl _) _
 have hcz:=vr_cells (HVR.out _ hB0) (k:=1) (x:=z) rfl
 go_enter Tryz.func244,Tryz.ntmps244
 go_upto_region 4 with (first|refine wpList_alloc34 rfl rfl ?_|refine wpList_load34at rfl rfl rfl rfl hcz ?_|(go_at_call 128;go_fit (HWZ.out _);rintro e w2 ⟨rfl,hB2⟩;have hv2:=hv0.below hB2 hv0.lt;have hB2:=hB0.trans (hB2.mono hB0.size)))
 clear hcz hv0 hB0
 have hc2:=HS.out _ hB2
 go_upto_region 7 with (go_at_call 245;refine(HSG.out _ hB2).mono ?_;rintro e w3 ⟨v3,rfl,hr3,hB3⟩;have hv3:=hv2.below hB3 hv2.lt;have hB3:=hB2.trans (hB3.mono hB2.size))
 have hbb:=HBX.out _ hB3
 have hlj:=HF1.out
 have HFO:=Lib.hid (show((G.drop A).take k).flatten.length≤200 from hlj)
 obtain⟨N3,hN3⟩:∃n,n=G.length:=⟨_,rfl⟩
 have hN3m:(List.map mk G).length=N3:=by rw[List.length_map,hN3]
 rw[←hN3]at hlen HFN HFF hkG hA
 have HN3:=Lib.hid hN3
 clear hN3 hlj hc2 hv2 hB2
 rcases hr3.2 with ⟨rfl,h0⟩|⟨g3,c3,cur,rfl,hb3,hc3,hl3,_⟩
 ·rw[hN3m]at h0
  subst h0
  obtain rfl:k=0:=by omega
  have HJ:=Lib.hid (fun W=>Tryz.strings_Join_none none 0 ⟨#[]⟩ W)
  have HG0:=Lib.hid (HFN.out rfl)
  have em:min (0:Int) 0=0:=by omega
  clear hr3 hN3m
  go_wp2_with (first|(go_at_fn F;refine(HG0.out _).mono ?_;rintro e w4 ⟨rfl,rfl⟩)|(go_at_call 246;refine(HJ.out _).mono ?_;rintro e w4 ⟨rfl,rfl⟩;have hv4:=hv3;have hB4:=hB3)|(go_at_call 240;refine(HTX2.out _ hB4).mono ?_;rintro e w5 ⟨rfl,hB5⟩;have hv5:=hv4.below hB5 hv4.lt;have hB5:=hB4.trans (hB5.mono hB4.size))|(refine wpList_store34 rfl rfl rfl rfl hv5 (by rfl) (pcs_one _) ?_;intro w9 hn9 hg9 hz9))
  refine bodyPost_ret (results_cell_row rfl _ _ _ 39 _ (0,0) _ rfl hn9 Tryz.underlying39 rfl info34) rfl ?_
  exact⟨rfl,hB5.grown hg9 hB5.size (fun k9 hk9=>by cases hk9;omega)⟩
 ·have hcs3:∀(j:Nat) (x:ByteArray),(List.map mk G)[j]? =some x→w3.cell? ⟨g3,j,none⟩=some (.string x):=fun j x hj=>by
   have:=World.ownsRow.cells hr3 (g:=g3) rfl j (.string x) (by rw[List.getElem?_map,hj];rfl)
   rw[add_at,Nat.zero_add]at this
   exact this
  have hg3:=(Array.getElem?_eq_some_iff.1 hc3).1
  rw[hN3m]at hl3⊢
  have HJ:Hid (∀o c',(k≠0→o=A)→k≤c'→Calls Tryz.prog 246 #[.slice (some ⟨g3,o,none⟩) k c',.string ⟨#[]⟩] w3 (Gives (.string (mk ((G.drop A).take k).flatten)) w3)):=Lib.hid fun o c' hoe hkc=>by
   have hxl:(((G.map mk).drop A).take k).length=k:=by rw[List.length_take,List.length_drop,hN3m];omega
   have hxm:(((G.map mk).drop A).take k).map (·.data.toList)=(G.drop A).take k:=by
    rw[List.map_take,List.map_drop,List.map_map]
    have:((fun x:ByteArray=>x.data.toList) ∘ mk)=id:=by funext l;simp[mk]
    rw[this,List.map_id]
   have h:=Tryz.strings_Join g3 o c' (((G.map mk).drop A).take k) ⟨#[]⟩ w3 (fun j x hj=>by
    have hj2:=(List.getElem?_eq_some_iff.1 hj).1
    rw[hoe (by omega)]
    rw[List.getElem?_take,if_pos (by omega),List.getElem?_drop]at hj
    exact hcs3 _ _ hj) hg3 (by omega) (by omega) (by
    rw[hxm]
    show(Lib.join _ []).length≤_
    rw[join_flat];have:=HFO.out;omega)
   rw[hxl,hxm]at h
   refine h.mono ?_
   rintro e w' ⟨rfl,hb⟩
   refine⟨?_,hb⟩
   show Ending.returned (.string ⟨(Lib.join _ []).toArray⟩)=_
   rw[join_flat];rfl
  have em:min (k:Int) (N3:Int)=(k:Int):=by omega
  have HFC:=Lib.hid (HFF.out g3 c3 w3 hl3)
  clear hr3 hcs3 hc3
  go_wp2_with (first|(go_at_fn F;refine HFC.out.mono ?_;rintro e w4 ⟨o,c',rfl,hkc,hoe,rfl⟩)|(go_at_call 246;refine(HJ.out o c' hoe hkc).mono ?_;rintro e w4 ⟨rfl,hB4⟩;have hv4:=hv3.below hB4 hv3.lt;have hB4:=hB3.trans (hB4.mono hB3.size))|(go_at_call 240;refine(HTX2.out _ hB4).mono ?_;rintro e w5 ⟨rfl,hB5⟩;have hv5:=hv4.below hB5 hv4.lt;have hB5:=hB4.trans (hB5.mono hB4.size))|(refine wpList_store34 rfl rfl rfl rfl hv5 (by rfl) (pcs_one _) ?_;intro w9 hn9 hg9 hz9))
  refine bodyPost_ret (results_cell_row rfl _ _ _ 39 _ (0,0) _ rfl hn9 Tryz.underlying39 rfl info34) rfl ?_
  exact⟨rfl,hB5.grown hg9 hB5.size (fun k9 hk9=>by cases hk9;omega)⟩
def findV (l m:List UInt8):Vl:=numV (ofD (1+((sgs (l.take (index l m).toNat)).length:Int))).1
set_option maxRecDepth 100000 in
set_option maxHeartbeats 8000000 in
/-- FIND of a text that is there. -/
theorem find159 (m s:ByteArray) (hs:txtOk s=true) (i:Nat) (hi:index s.data.toList m.data.toList=(i:Int)) (hil:i≤s.size) (b g cap:Nat) (S:Value) (w:World) (hS:World.sr w b S [m,s]) (hE:Env w):
 Calls Tryz.prog 159 #[S,.slice (some ⟨g,0,none⟩) 2 cap] w (Gives (.agg (pcs (findV s.data.toList m.data.toList))) w):=by
 obtain⟨p,c,rfl,_,hp⟩:=hS.slice
 obtain⟨gs,rfl,hgs,hcs⟩:=hp (by simp)
 have hc0:=hcs 0 m rfl
 have hc1:=hcs 1 s rfl
 have HS0:=Lib.hid (show ∀W,Below w.heap.size w W→W.cell? ⟨gs,0,none⟩=some (.string m)from fun W hW=>(hW.cell (p:=⟨gs,0,none⟩) hgs).trans hc0)
 have HS1:=Lib.hid (show ∀W,Below w.heap.size w W→W.cell? ⟨gs,1,none⟩=some (.string s)from fun W hW=>(hW.cell (p:=⟨gs,1,none⟩) hgs).trans hc1)
 have hsz:=txt_size hs
 have HSG:=Lib.hid (fun W (hW:Below w.heap.size w W)=>signs_any s (by omega) W (hE.below hW).1)
 have hlen:=sgs_size hsz
 have hfl:=sgs_flat _ s.data.toList (Nat.le_refl _)
 have HIX:=Lib.hid (show ∀W,Below w.heap.size w W→Calls Tryz.prog 251 #[.string s,.string m] W (fun e w'=>e= .returned (.int .i64 (i:Int))∧w'=W)from fun W hW=>by
  obtain⟨q,hq⟩:=(hE.below hW).2
  have:=Tryz.strings_Index s m q W (by omega) hq
  rwa [hi]at this)
 have hxs:(s.extract 0 i).data.toList=s.data.toList.take i:=by rw[ext_mk];simp[mk]
 have hxz:(s.extract 0 i).size≤200:=by rw[ByteArray.size_extract];omega
 have HRC:=Lib.hid (fun W=>Tryz.utf8_RuneCountInString (s.extract 0 i) W (by omega))
 have hrl:=sgs_size hxz
 rw[rc_sgs,hxs]at HRC
 rw[hxs]at hrl
 have hyy:findV s.data.toList m.data.toList=numV (ofD (1+((sgs (s.data.toList.take i)).length:Int))).1:=by unfold findV;rw[hi];rfl
 rw[hyy]
 obtain⟨r,hr⟩:∃r,r=(sgs (s.data.toList.take i)).length:=⟨_,rfl⟩
 rw[←hr]at HRC hrl⊢
 have HCO:=Lib.hid (fun W=>count_any (1+(r:Int)) W (by omega) (by omega))
 obtain⟨Y,hY⟩:∃Y,Y=numV (ofD (1+(r:Int))).1:=⟨_,rfl⟩
 rw[←hY]at HCO⊢
 obtain⟨G,hG⟩:∃G,G=sgs s.data.toList:=⟨_,rfl⟩
 rw[←hG]at HSG hlen hfl
 have HFL:=Lib.hid hfl
 clear hG hE hc0 hc1 hcs hgs hS hp hs hr hY hyy hxs hxz hi hfl
 have hv0:World.vb (w.alloc (.cells vz 39)) w.heap.size vz:=World.vb_new w vz
 have hB0:Below w.heap.size w (w.alloc (.cells vz 39)):=(Below.refl _ w).alloc (Nat.le_refl _) _
 have hc1:=HS1.out _ hB0
 go_enter Tryz.func159,Tryz.ntmps159
 go_upto_region 5 with (first|refine wpList_alloc34 rfl rfl ?_|(go_at_call 245;refine(HSG.out _ hB0).mono ?_;rintro e w3 ⟨v3,rfl,hr3,hB3⟩;have hv3:=hv0.below hB3 hv0.lt;have hB3:=hB0.trans (hB3.mono hB0.size)))
 obtain⟨N3,hN3⟩:∃n,n=G.length:=⟨_,rfl⟩
 have hN3m:(List.map mk G).length=N3:=by rw[List.length_map,hN3]
 rw[←hN3]at hlen
 clear hc1 hv0 hB0
 have hiI:(i:Int)≤(s.size:Int):=by omega
 have hi0:¬((i:Int)<0):=by omega
 have hgt:decide ((N3:Int)+1<1)=false:=by rw[decide_eq_false_iff_not];omega
 have hw1:IntKind.i64.wrap ((N3:Int)+1)=(N3:Int)+1:=by rw[IntKind.wrap_i64];omega
 have hw2:IntKind.i64.wrap (1+(r:Int))=1+(r:Int):=by rw[IntKind.wrap_i64];omega
 rcases hr3.2 with ⟨rfl,h0⟩|⟨g3,c3,cur,rfl,hb3,hc3,hl3,_⟩
 ·rw[hN3m]at h0
  subst h0
  have hG0:G= []:=List.eq_nil_of_length_eq_zero hN3.symm
  have hs0:s=⟨#[]⟩:=by
   have:=HFL.out
   rw[hG0]at this
   apply ByteArray.ext
   apply Array.toList_inj.1
   rw[←this];rfl
  have HJ:=Lib.hid (show ∀W,Calls Tryz.prog 246 #[.slice none 0 0,.string ⟨#[]⟩] W (fun e w'=>e= .returned (.string s)∧w'=W)from fun W=>(Tryz.strings_Join_none none 0 ⟨#[]⟩ W).mono fun e w' h=>⟨by rw[h.1,hs0],h.2⟩)
  have hm0:=HS0.out _ hB3
  clear hr3 hN3m hs0 hG0 hN3 hgt hw1
  go_wp2_with (first|(go_at_call 246;refine(HJ.out _).mono ?_;rintro e w4 ⟨rfl,rfl⟩)|(go_at_call 251;refine(HIX.out _ hB3).mono ?_;rintro e w4 ⟨rfl,rfl⟩)|(go_at_call 151;refine(HRC.out _).mono ?_;rintro e w6 ⟨rfl,pos,rfl⟩;have hv6:=hv3.below (below_iter _ (s.extract 0 i) pos) hv3.lt;have hB6:=hB3.trans ((below_iter _ (s.extract 0 i) pos).mono hB3.size))|(go_at_call 121;refine(HCO.out _).mono ?_;rintro e w7 ⟨rfl,hB7⟩;have hvy:=hv6.below hB7 hv6.lt;have hB:=hB6.trans (hB7.mono hB6.size))|(refine wpList_store34 rfl rfl rfl rfl hvy (by rfl) (pcs_one _) ?_;intro w9 hn9 hg9 hz9))
  refine bodyPost_ret (results_cell_row rfl _ _ _ 39 _ (0,0) _ rfl hn9 Tryz.underlying39 rfl info34) rfl ?_
  exact⟨rfl,hB.grown hg9 hB.size (fun k9 hk9=>by cases hk9;omega)⟩
 ·have hcs3:∀(j:Nat) (x:ByteArray),(List.map mk G)[j]? =some x→w3.cell? ⟨g3,j,none⟩=some (.string x):=fun j x hj=>by
   have:=World.ownsRow.cells hr3 (g:=g3) rfl j (.string x) (by rw[List.getElem?_map,hj];rfl)
   rw[add_at,Nat.zero_add]at this
   exact this
  have hg3:=(Array.getElem?_eq_some_iff.1 hc3).1
  rw[hN3m]at hl3⊢
  have HJ:Hid (Calls Tryz.prog 246 #[.slice (some ⟨g3,0,none⟩) N3 c3,.string ⟨#[]⟩] w3 (Gives (.string s) w3)):=Lib.hid (by
   have hxm:(G.map mk).map (·.data.toList)=G:=by
    rw[List.map_map]
    have:((fun x:ByteArray=>x.data.toList) ∘ mk)=id:=by funext l;simp[mk]
    rw[this,List.map_id]
   have h:=Tryz.strings_Join g3 0 c3 (G.map mk) ⟨#[]⟩ w3 (fun j x hj=>by rw[Nat.zero_add];exact hcs3 _ _ hj) hg3 (by omega) (by omega) (by
    rw[hxm]
    show(Lib.join _ []).length≤_
    rw[join_flat,HFL.out,←Lib.size_eq];omega)
   rw[hN3m,hxm]at h
   refine h.mono ?_
   rintro e w' ⟨rfl,hb⟩
   refine⟨?_,hb⟩
   show Ending.returned (.string ⟨(Lib.join _ []).toArray⟩)=_
   rw[join_flat,HFL.out])
  have hNc:(N3:Int)≤(c3:Int):=by omega
  have ho:(if c3=0 then some (⟨g3,0,none⟩:Addr)else some ⟨g3,0,none⟩)=some ⟨g3,0,none⟩:=by split<;>rfl
  clear hr3 hcs3 hc3 hN3
  go_upto_region 8 with (go_at_call 246;refine HJ.out.mono ?_;rintro e w4 ⟨rfl,hB4⟩;have hv4:=hv3.below hB4 hv3.lt;have hB4:=hB3.trans (hB4.mono hB3.size))
  have hm0:=HS0.out _ hB4
  go_wp2_with (first|(go_at_call 251;refine(HIX.out _ hB4).mono ?_;rintro e w5 ⟨rfl,rfl⟩)|(go_at_call 151;refine(HRC.out _).mono ?_;rintro e w6 ⟨rfl,pos,rfl⟩;have hv6:=hv4.below (below_iter _ (s.extract 0 i) pos) hv4.lt;have hB6:=hB4.trans ((below_iter _ (s.extract 0 i) pos).mono hB4.size))|(go_at_call 121;refine(HCO.out _).mono ?_;rintro e w7 ⟨rfl,hB7⟩;have hvy:=hv6.below hB7 hv6.lt;have hB:=hB6.trans (hB7.mono hB6.size))|(refine wpList_store34 rfl rfl rfl rfl hvy (by rfl) (pcs_one _) ?_;intro w9 hn9 hg9 hz9))
  refine bodyPost_ret (results_cell_row rfl _ _ _ 39 _ (0,0) _ rfl hn9 Tryz.underlying39 rfl info34) rfl ?_
  exact⟨rfl,hB.grown hg9 hB.size (fun k9 hk9=>by cases hk9;omega)⟩
set_option maxRecDepth 100000 in
set_option maxHeartbeats 4000000 in
theorem sub160 (s m:ByteArray) (hs:txtOk s=true) (b:Nat) (S L:Value) (w:World) (hS:World.sr w b S [s,⟨#[]⟩,m]) (hE:Env w):Calls Tryz.prog 160 #[S,L] w (Gives (.agg (pcs (txtV s))) w):=by
 obtain⟨p,c,rfl,_,hp⟩:=hS.slice
 obtain⟨gs,rfl,hgs,hcs⟩:=hp (by simp)
 have hv0:World.vb (w.alloc (.cells vz 39)) w.heap.size vz:=World.vb_new w vz
 have hB0:Below w.heap.size w (w.alloc (.cells vz 39)):=(Below.refl _ w).alloc (Nat.le_refl _) _
 have c0:=(hB0.cell (p:=⟨gs,0,none⟩) hgs).trans (hcs 0 s rfl)
 have c1:=(hB0.cell (p:=⟨gs,1,none⟩) hgs).trans (hcs 1 ⟨#[]⟩ rfl)
 have HTX:=Lib.hid (ftext_any s hs _ (hE.below hB0))
 clear hS hp hcs hE
 go_enter Tryz.func160,Tryz.ntmps160
 go_wp2_with (first|refine wpList_alloc34 rfl rfl ?_|(go_at_call 240;refine HTX.out.mono ?_;rintro e w2 ⟨rfl,hB2⟩;have hvy:=hv0.below hB2 hv0.lt;have hB:=hB0.trans (hB2.mono hB0.size))|(refine wpList_store34 rfl rfl rfl rfl hvy (by rfl) (pcs_one _) ?_;intro w9 hn9 hg9 hz9))
 refine bodyPost_ret (results_cell_row rfl _ _ _ 39 _ (0,0) _ rfl hn9 Tryz.underlying39 rfl info34) rfl ?_
 exact⟨rfl,hB.grown hg9 hB.size (fun k9 hk9=>by cases hk9;omega)⟩
end Go.Proofs.YtmhfioimgllgeaaGreatDoor
