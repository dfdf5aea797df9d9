/- Fun: great and small letters, texts put together: walked. (By gentxc.py.) -/
import Derived.Test.YtmhfioimgllgeaaGreatDoorR59
import Derived.Test.YtmhfioimgllgeaaGreatDoorR39
namespace Go.Proofs.YtmhfioimgllgeaaGreatDoor
open Go Go.RowKit Go.Shelf Go.Lib
theorem vb_kept {w w':World} {g b:Nat} {cs:Array Value} (h:World.vb w g cs) (hne:g≠b) (ho:Lib.OthersKept 5 (some b) w w'):World.vb w' g cs:=by
 unfold World.vb at*
 exact ho g _ h (by intro e;injection e with e;exact hne e) (by intro c fz e;injection e with _ e;cases e)
theorem iter_kept {w w':World} {k b:Nat} {s:ByteArray} {p:Nat} (h:w.heap[k]? =some (.stringIter s p)) (hne:k≠b) (ho:Lib.OthersKept 5 (some b) w w'):w'.heap[k]? =some (.stringIter s p):=
 ho k _ h (by intro e;injection e with e;exact hne e) (by intro c fz e;cases e)
theorem vb_iterAt {w:World} {g k:Nat} {cs:Array Value} {s:ByteArray} {pos:Nat} (h:World.vb w g cs) (hne:g≠k):World.vb (w.iterAt k s pos) g cs:=by
 unfold World.vb at*
 rw[iterAt_other w k g s pos hne];exact h
def casN (a b:Nat) (l:List UInt8) (pos:Nat):List Value:=byteCells (casL a b (l.take pos))
/-- One sign more. -/
theorem casN_step {a b:Nat} (h:Cased a b) (s:ByteArray) (pos:Nat) (hp:pos<s.size) (ht:isTextL (s.data.toList.drop pos)=true):
 casN a b s.data.toList (pos+(Utf8.decode s pos).2)=casN a b s.data.toList pos++runeCells ((casR a b (Utf8.decode s pos).1:Nat):Int)∧isTextL (s.data.toList.drop (pos+(Utf8.decode s pos).2))=true∧pos+(Utf8.decode s pos).2≤s.size∧1≤(Utf8.decode s pos).2:=by
 obtain⟨l,hl⟩:∃l,s.data.toList.drop pos=l:=⟨_,rfl⟩
 have hne:l≠ []:=by rw[←hl];intro e;have:=congrArg List.length e;rw[List.length_drop,←size_eq]at this;simp at this;omega
 have hlen:l.length=s.size-pos:=by rw[←hl,List.length_drop,←size_eq]
 rw[hl]at ht
 obtain⟨h0,_,h2,_⟩:=text_open hne ht
 have hle:=sgnL_le l
 have hd:(Utf8.decode s pos).2=sgnL l:=by
  rw[←decodeL_drop,hl]
  rcases sgnL_decode l hne with ⟨h1,_⟩|⟨h1,_,h2⟩|⟨h1,_,h2,_⟩
  ·omega
  ·rw[h2,h1]
  ·rw[h2]
 have hr:(Utf8.decode s pos).1=(decodeL l).1:=by rw[←decodeL_drop,hl]
 have hc:=cas_sign h hne h0
 refine⟨?_,?_,by omega,by omega⟩
 ·unfold casN
  rw[hd,hr,←byteCells_encodeRune,hc,List.take_add,casL_app,hl]
  unfold byteCells
  rw[List.map_append]
 ·rw[hd,←List.drop_drop,hl];exact h2
def casV (a b:Nat) (s:ByteArray):Vl:=txtV (mk (casL a b s.data.toList))
theorem cas_ok {a b:Nat} (h:Cased a b) {s:ByteArray} (hs:txtOk s=true):txtOk (mk (casL a b s.data.toList))=true:=by
 have h1:=txt_size hs
 have h2:=(cas_text h _ s.data.toList (Nat.le_refl _) (txt_isT hs)).1
 unfold txtOk
 rw[Bool.and_eq_true,decide_eq_true_iff]
 refine⟨?_,?_⟩
 ·show(mk _).data.size≤200
  have:(mk (casL a b s.data.toList)).data.size=(casL a b s.data.toList).length:=by unfold mk;simp
  rw[this,casL_len,←Lib.size_eq];exact h1
 ·have:(mk (casL a b s.data.toList)).data.toList=casL a b s.data.toList:=by unfold mk;simp
  rw[this];exact h2
theorem casN_len (a b:Nat) (s:ByteArray) (pos:Nat):(casN a b s.data.toList pos).length≤s.size:=by
 unfold casN byteCells casL
 rw[List.length_map,List.length_map,List.length_take,←Lib.size_eq];omega
set_option maxRecDepth 100000 in
set_option maxHeartbeats 8000000 in
theorem cased247 (a b:Nat) (h:Cased a b) (s:ByteArray) (hs:txtOk s=true) (bs:Nat) (S L p q:Value) (w:World) (hS:World.sr w bs S [s]) (hE:Env w) (hp:Bx w p (.int .i32 (a:Int))) (hq:Bx w q (.int .i32 (b:Int))):
 Calls Tryz.prog 247 #[S,L,p,q] w (Gives (.agg (pcs (casV a b s))) w):=by
 obtain⟨pp,cc,rfl,_,hpp⟩:=hS.slice
 obtain⟨gs,rfl,hgs,hcs⟩:=hpp (by simp)
 obtain⟨g2,t2,rfl,hx2⟩:=hp
 obtain⟨g3,t3,rfl,hx3⟩:=hq
 have hl2:=hx2.lt
 have hl3:=hx3.lt
 have hc0:=hcs 0 s rfl
 have HS:=Lib.hid (show ∀W,Below w.heap.size w W→W.cell? ⟨gs,0,none⟩=some (.string s)from fun W hW=>(hW.cell (p:=⟨gs,0,none⟩) hgs).trans hc0)
 have HB2:=Lib.hid (show ∀W,Below w.heap.size w W→W.cell? ⟨g2,0,none⟩=some (.int .i32 (a:Int))from fun W hW=>(hx2.below hW hl2).cell (j:=0) rfl)
 have HB3:=Lib.hid (show ∀W,Below w.heap.size w W→W.cell? ⟨g3,0,none⟩=some (.int .i32 (b:Int))from fun W hW=>(hx3.below hW hl3).cell (j:=0) rfl)
 have HTX:=Lib.hid (show ∀W,Below w.heap.size w W→Calls Tryz.prog 240 #[.string (mk (casL a b s.data.toList))] W (Gives (.agg (pcs (casV a b s))) W)from fun W hW=>ftext_any _ (cas_ok h hs) W (hE.below hW))
 have hsz:=txt_size hs
 have HIT:=Lib.hid (txt_isT hs)
 have HST:=Lib.hid (fun pos hp ht=>casN_step h s pos hp ht)
 have HLN:=Lib.hid (casN_len a b s)
 have HEND:Hid (∀pos,¬pos<s.size→casN a b s.data.toList pos=byteCells (casL a b s.data.toList)):=Lib.hid fun pos hpos=>by
  unfold casN
  rw[List.take_of_length_le (by rw[←Lib.size_eq];omega)]
 have HN0:Hid (casN a b s.data.toList 0= []):=Lib.hid rfl
 obtain⟨Y,hY⟩:∃Y,Y=casV a b s:=⟨_,rfl⟩
 rw[←hY]at HTX⊢
 obtain⟨R,hR⟩:∃R,R=casL a b s.data.toList:=⟨_,rfl⟩
 rw[←hR]at HTX HEND
 clear hY hR hE hx2 hx3 hc0 hcs hgs hS hpp hs
 obtain⟨W0,hW0⟩:∃W,W=(w.alloc (.cells vz 39)).alloc (.cells #[.pointer none,.slice none 0 0] 122):=⟨_,rfl⟩
 have hv0:World.vb W0 w.heap.size vz:=by rw[hW0];exact(World.vb_new w vz).alloc _
 have hB0:Below w.heap.size w W0:=by rw[hW0];exact((Below.refl _ w).alloc (Nat.le_refl _) _).alloc (by simp) _
 have hz0:W0.heap.size=w.heap.size+2:=by rw[hW0];simp
 have hbu:Lib.IsBuilderF 122 5 w.heap.size (w.heap.size+1) [] W0:=by
  refine .inl ⟨by omega,.slice none 0 0,?_,World.ownsRowF_nil _ _ _ _,by simp[Value.ownBlock]⟩
  rw[hW0]
  have:=heap_alloc_new (w.alloc (.cells vz 39)) (.cells #[.pointer none,.slice none 0 0] 122)
  simpa using this
 have hc0:=HS.out _ hB0
 go_enter Tryz.func247,Tryz.ntmps247
 go_upto_region 2 with (refine wpList_alloc34 rfl rfl ?_)
 go_simp
 rw[←hW0]
 clear hW0
 go_wp2_with fail
 have hit0:(W0.iter s 0).heap[W0.heap.size]? =some (.stringIter s 0):=World.iter_heap _ _ _
 have hv0':World.vb (W0.iter s 0) w.heap.size vz:=hv0.alloc _
 have hB0':Below w.heap.size w (W0.iter s 0):=hB0.alloc hB0.size _
 have hbu':Lib.IsBuilderF 122 5 w.heap.size (w.heap.size+1) [] (W0.iter s 0):=hbu.alloc _
 rw[hz0]at hit0
 try rw[hz0]
 obtain⟨W1,hW1⟩:∃W,W=W0.iter s 0:=⟨_,rfl⟩
 rw[←hW1]at hit0 hv0' hB0' hbu'⊢
 clear hW1 hv0 hB0 hbu hz0 hc0
 go_loopw [9] (fun _ wr=>∃pos:Nat,pos≤s.size∧Hid (isTextL (s.data.toList.drop pos)=true)∧wr.heap[w.heap.size+2]? =some (.stringIter s pos)∧Hid (Lib.IsBuilderF 122 5 w.heap.size (w.heap.size+1) (casN a b s.data.toList pos) wr)∧Hid (World.vb wr w.heap.size vz)∧Below w.heap.size w wr) (fun _ wr=>match wr.heap[w.heap.size+2]? with|some (.stringIter t p)=>t.size-p|_=>0)
 case atStart=>exact⟨0,Nat.zero_le _,HIT.out,hit0,by rw[HN0.out];exact hbu',hv0',hB0'⟩
 case round=>
  clear hit0 hv0' hB0' hbu'
  obtain⟨pos,hpos,HT,hit,HBU,HV,hB⟩:=hrel
  by_cases hlt:pos<s.size
  ·obtain⟨hs1,hs2,hs3,hs4⟩:=HST.out pos hlt HT.out
   have hle:=decode_le s pos
   have hnx:∀ty,(Instr.next (.pointer (some ⟨w.heap.size+2,0,none⟩)) true ty).run Tryz.prog wr=_:=fun ty=>run_next_any_at wr (w.heap.size+2) s pos ty hit hlt
   obtain⟨d,hd⟩:∃d,d=(Utf8.decode s pos).1:=⟨_,rfl⟩
   obtain⟨k,hk⟩:∃k,k=(Utf8.decode s pos).2:=⟨_,rfl⟩
   rw[←hd,←hk]at hnx
   rw[←hk]at hs1 hs2 hs3 hs4
   rw[←hd]at hs1 hle
   have hit2:=iterAt_heap wr (w.heap.size+2) s pos (pos+k) hit
   have HIT0:=Lib.hid hit
   have HV2:=Lib.hid (vb_iterAt (k:=w.heap.size+2) (s:=s) (pos:=pos+k) HV.out (by omega))
   have HBU2:=Lib.hid (HBU.out.iterAt hit (pos+k))
   have hB2:=below_iterAt hB (k:=w.heap.size+2) (by omega) s (pos+k)
   have HLN2:=Lib.hid (HLN.out pos)
   have HS1:=Lib.hid hs1
   have HS2:=Lib.hid hs2
   clear hs1 hs2 hd hk HBU HV hit
   obtain⟨W2,hW2⟩:∃W,W=wr.iterAt (w.heap.size+2) s (pos+k):=⟨_,rfl⟩
   rw[←hW2]at hit2 HV2 HBU2 hB2 hnx
   clear hW2 hB
   have c2:=HB2.out _ hB2
   have c3:=HB3.out _ hB2
   have hsz2:=hB2.size
   rcases h with ⟨rfl,rfl⟩|⟨rfl,rfl⟩
   ·have r0:casR 97 65 d=if 97≤d∧d<97+26 then d+65-97 else d:=rfl
    rcases Nat.lt_or_ge d 97 with hd1|hd1
    ·have hdI:¬((97:Int)≤(d:Int)):=by omega
     have e1:((casR 97 65 d:Nat):Int)=(d:Int):=by rw[r0,if_neg (by omega)]
     clear r0
     go_wp2_with fail
     refine(Tryz.Builder_WriteRune_k _ _ _ _ (by omega) (by omega) _ HBU2.out (by have:=HLN2.out;omega) hsz2).mono ?_
     rintro e w3 ⟨rfl,hbu3,hb3,ho3⟩
     have hit3:=iter_kept hit2 (by omega) ho3
     have hv3:=vb_kept HV2.out (by omega) ho3
     go_wp2_with fail
     go_roundw
     case rel=>exact⟨pos+k,hs3,HS2.out,hit3,by rw[HS1.out,e1];exact .inr hbu3,hv3,hB2.trans hb3⟩
     case measure=>rw[hit3,HIT0.out];simp only;omega
    ·rcases Nat.lt_or_ge d 123 with hd2|hd2
     ·have hdI:((97:Int)≤(d:Int)):=by omega
      have hdJ:((d:Int)<123):=by omega
      have e1:((casR 97 65 d:Nat):Int)=(d:Int)+(-32):=by rw[r0,if_pos (by omega)];omega
      have hwr:IntKind.i32.wrap ((d:Int)+(-32))=(d:Int)+(-32):=by rw[IntKind.wrap_i32];omega
      clear r0
      go_wp2_with fail
      refine(Tryz.Builder_WriteRune_k _ _ _ _ (by omega) (by omega) _ HBU2.out (by have:=HLN2.out;omega) hsz2).mono ?_
      rintro e w3 ⟨rfl,hbu3,hb3,ho3⟩
      have hit3:=iter_kept hit2 (by omega) ho3
      have hv3:=vb_kept HV2.out (by omega) ho3
      go_wp2_with fail
      go_roundw
      case rel=>exact⟨pos+k,hs3,HS2.out,hit3,by rw[HS1.out,e1];exact .inr hbu3,hv3,hB2.trans hb3⟩
      case measure=>rw[hit3,HIT0.out];simp only;omega
     ·have hdI:((97:Int)≤(d:Int)):=by omega
      have hdJ:¬((d:Int)<123):=by omega
      have e1:((casR 97 65 d:Nat):Int)=(d:Int):=by rw[r0,if_neg (by omega)]
      clear r0
      go_wp2_with fail
      refine(Tryz.Builder_WriteRune_k _ _ _ _ (by omega) (by omega) _ HBU2.out (by have:=HLN2.out;omega) hsz2).mono ?_
      rintro e w3 ⟨rfl,hbu3,hb3,ho3⟩
      have hit3:=iter_kept hit2 (by omega) ho3
      have hv3:=vb_kept HV2.out (by omega) ho3
      go_wp2_with fail
      go_roundw
      case rel=>exact⟨pos+k,hs3,HS2.out,hit3,by rw[HS1.out,e1];exact .inr hbu3,hv3,hB2.trans hb3⟩
      case measure=>rw[hit3,HIT0.out];simp only;omega
   ·have r0:casR 65 97 d=if 65≤d∧d<65+26 then d+97-65 else d:=rfl
    rcases Nat.lt_or_ge d 65 with hd1|hd1
    ·have hdI:¬((65:Int)≤(d:Int)):=by omega
     have e1:((casR 65 97 d:Nat):Int)=(d:Int):=by rw[r0,if_neg (by omega)]
     clear r0
     go_wp2_with fail
     refine(Tryz.Builder_WriteRune_k _ _ _ _ (by omega) (by omega) _ HBU2.out (by have:=HLN2.out;omega) hsz2).mono ?_
     rintro e w3 ⟨rfl,hbu3,hb3,ho3⟩
     have hit3:=iter_kept hit2 (by omega) ho3
     have hv3:=vb_kept HV2.out (by omega) ho3
     go_wp2_with fail
     go_roundw
     case rel=>exact⟨pos+k,hs3,HS2.out,hit3,by rw[HS1.out,e1];exact .inr hbu3,hv3,hB2.trans hb3⟩
     case measure=>rw[hit3,HIT0.out];simp only;omega
    ·rcases Nat.lt_or_ge d 91 with hd2|hd2
     ·have hdI:((65:Int)≤(d:Int)):=by omega
      have hdJ:((d:Int)<91):=by omega
      have e1:((casR 65 97 d:Nat):Int)=(d:Int)+(32):=by rw[r0,if_pos (by omega)];omega
      have hwr:IntKind.i32.wrap ((d:Int)+(32))=(d:Int)+(32):=by rw[IntKind.wrap_i32];omega
      clear r0
      go_wp2_with fail
      refine(Tryz.Builder_WriteRune_k _ _ _ _ (by omega) (by omega) _ HBU2.out (by have:=HLN2.out;omega) hsz2).mono ?_
      rintro e w3 ⟨rfl,hbu3,hb3,ho3⟩
      have hit3:=iter_kept hit2 (by omega) ho3
      have hv3:=vb_kept HV2.out (by omega) ho3
      go_wp2_with fail
      go_roundw
      case rel=>exact⟨pos+k,hs3,HS2.out,hit3,by rw[HS1.out,e1];exact .inr hbu3,hv3,hB2.trans hb3⟩
      case measure=>rw[hit3,HIT0.out];simp only;omega
     ·have hdI:((65:Int)≤(d:Int)):=by omega
      have hdJ:¬((d:Int)<91):=by omega
      have e1:((casR 65 97 d:Nat):Int)=(d:Int):=by rw[r0,if_neg (by omega)]
      clear r0
      go_wp2_with fail
      refine(Tryz.Builder_WriteRune_k _ _ _ _ (by omega) (by omega) _ HBU2.out (by have:=HLN2.out;omega) hsz2).mono ?_
      rintro e w3 ⟨rfl,hbu3,hb3,ho3⟩
      have hit3:=iter_kept hit2 (by omega) ho3
      have hv3:=vb_kept HV2.out (by omega) ho3
      go_wp2_with fail
      go_roundw
      case rel=>exact⟨pos+k,hs3,HS2.out,hit3,by rw[HS1.out,e1];exact .inr hbu3,hv3,hB2.trans hb3⟩
      case measure=>rw[hit3,HIT0.out];simp only;omega
  ·obtain rfl:pos=s.size:=by omega
   have hnx:∀ty,(Instr.next (.pointer (some ⟨w.heap.size+2,0,none⟩)) true ty).run Tryz.prog wr=_:=fun ty=>run_next_end_at wr (w.heap.size+2) s s.size ty hit hlt
   have hbu:=HBU.out
   rw[HEND.out _ (Nat.lt_irrefl _)]at hbu
   have HSTR:=Lib.hid (Any.Builder_String_any_k Tryz.lays169 Tryz.Builder_Extra_169 _ _ _ wr hbu hB.size)
   have hv:=HV.out
   clear hit HBU hbu HT
   go_wp2_with fail
   refine HSTR.out.mono ?_
   rintro e w2 ⟨rfl,_,hb2,ho2⟩
   have hv2:=vb_kept hv (by omega) ho2
   have hB2:=hB.trans hb2
   go_wp2_with (first|(go_at_call 240;refine(HTX.out _ hB2).mono ?_;rintro e w5 ⟨rfl,hB5⟩;have hv5:=hv2.below hB5 hv2.lt;have hB5:=hB2.trans (hB5.mono hB2.size))|(refine wpList_store34 rfl rfl rfl rfl hv5 (by rfl) (pcs_one _) ?_;intro w9 hn9 hg9 hz9))
   refine bodyPost_ret (results_cell_row rfl _ _ _ 39 _ (0,0) _ rfl hn9 Tryz.underlying39 rfl info34) rfl ?_
   exact⟨rfl,hB5.grown hg9 hB5.size (fun k9 hk9=>by cases hk9;omega)⟩
def sumS (ts:List ByteArray):Nat:=(ts.map (·.size)).sum
theorem sumS_snoc (ts:List ByteArray) (t:ByteArray):sumS (ts++ [t])=sumS ts+t.size:=by unfold sumS;simp
theorem sumS_take (ts:List ByteArray) (K:Nat):sumS (ts.take K)≤sumS ts:=by
 have h:sumS ts=sumS (ts.take K)+sumS (ts.drop K):=by
  unfold sumS
  rw[←List.sum_append,←List.map_append,List.take_append_drop]
 omega
theorem sumS_flat (ts:List ByteArray):((ts.map (·.data.toList)).flatten).length=sumS ts:=by
 unfold sumS
 rw[List.length_flatten,List.map_map]
 congr 1
def catV (ts:List ByteArray):Vl:=txtV (mk ((ts.map (·.data.toList)).flatten))
theorem cat_ok {ts:List ByteArray} (h:∀t∈ts,txtOk t=true) (hs:sumS ts≤200):txtOk (mk ((ts.map (·.data.toList)).flatten))=true:=by
 unfold txtOk
 rw[Bool.and_eq_true,decide_eq_true_iff]
 refine⟨?_,?_⟩
 ·show(mk _).data.size≤200
  have:(mk ((ts.map (·.data.toList)).flatten)).data.size=((ts.map (·.data.toList)).flatten).length:=by unfold mk;simp
  rw[this,sumS_flat];exact hs
 ·have:(mk ((ts.map (·.data.toList)).flatten)).data.toList=(ts.map (·.data.toList)).flatten:=by unfold mk;simp
  rw[this]
  refine flat_text _ fun c hc=> ?_
  obtain⟨t,ht,rfl⟩:=List.mem_map.1 hc
  exact txt_isT (h t ht)
theorem flat_txts (ts:List ByteArray):flatV (ts.map txtV)=ts.map txtV:=by
 unfold flatV
 induction ts with
 |nil=>rfl
 |cons t ts ih=>rw[List.map_cons,List.flatMap_cons,ih];rfl
set_option maxRecDepth 100000 in
set_option maxHeartbeats 16000000 in
theorem join_txt (ts:List ByteArray) (hok:∀t∈ts,txtOk t=true) (hsum:sumS ts≤200) (hne:ts≠ []) (hn:ts.length≤20) (L:Value) (w:World) (hA:ArgsAt w L (ts.map txtV)) (hV:Env w):Calls Tryz.prog 192 #[.string ⟨#[]⟩,.bool false,L] w (Gives (.agg (pcs (catV ts))) w):=by
 have HEN:=Lib.hid (show ∀W,Below w.heap.size w W→Env W from fun W hW=>hV.below hW)
 have hvy0:World.vb (w.alloc (.cells vz 39)) w.heap.size vz:=World.vb_new w vz
 have hB0:Below w.heap.size w (w.alloc (.cells vz 39)):=(Below.refl _ w).alloc (Nat.le_refl _) _
 obtain⟨p,c,rfl,_⟩:=id hA.1
 have hfl:=flat_any (ts.map txtV) _ _ (hA.below hB0) (by rw[List.length_map];omega)
 rw[flat_txts,List.length_map]at hfl
 rw[List.length_map]
 have HFL:=Lib.hid hfl
 have HOK:=Lib.hid hok
 have HTX:=Lib.hid (show ∀W,Below w.heap.size w W→Calls Tryz.prog 240 #[.string (mk ((ts.map (·.data.toList)).flatten))] W (Gives (.agg (pcs (catV ts))) W)from fun W hW=>ftext_any _ (cat_ok hok hsum) W (hV.below hW))
 obtain⟨Y,hY⟩:∃Y,Y=catV ts:=⟨_,rfl⟩
 rw[←hY]at HTX⊢
 have hpos:0<ts.length:=List.length_pos_iff.2 hne
 have HNE:=Lib.hid hne
 clear hA hV hok hY hne hfl
 go_enter Tryz.func192,Tryz.ntmps192
 go_wp2_with (refine wpList_alloc34 rfl rfl ?_)
 refine HFL.out.mono ?_
 rintro e W6 ⟨v6,rfl,hr6,hb6⟩
 have hv6:=hvy0.below hb6 hvy0.lt
 have hB6:=hB0.trans (hb6.mono hB0.size)
 obtain⟨g6,cap6,rfl⟩:=vr_pos hr6 (by simpa using HNE.out)
 have hg6:=(World.ownsRow.lt hr6 g6 rfl).2
 have hvl:=hv6.lt
 try rw[List.length_map]
 have hr6':World.vr W6 0 (.slice (some ⟨g6,0,none⟩) ts.length cap6) (ts.map txtV):=by
  have:=hr6.mono (Nat.zero_le _)
  rwa [List.length_map]at this
 have HVZ:=Lib.hid (show ∀W,Below W6.heap.size W6 W→World.vb W w.heap.size vz from fun W hW=>hv6.below hW hvl)
 have HRW:=Lib.hid (show ∀W,Below W6.heap.size W6 W→World.vr W 0 (.slice (some ⟨g6,0,none⟩) ts.length cap6) (ts.map txtV)from fun W hW=>World.vr.below hr6' hW)
 have HBW:=Lib.hid (show ∀W,Below W6.heap.size W6 W→Below w.heap.size w W from fun W hW=>hB6.trans (hW.mono hB6.size))
 have hsz6:w.heap.size<W6.heap.size:=hvl
 clear hr6 hr6' hb6 hB0 hvy0 HFL hv6 hB6 hg6 hvl
 go_wp2_with fail
 go_loopw [7,8,15] (fun o z i wr=>∃K:Nat,i= .int .i64 (K:Int)∧K≤ts.length∧z= .int .i64 ((sumS (ts.take K):Nat):Int)∧Hid (World.sr wr W6.heap.size o (ts.take K))∧Below W6.heap.size W6 wr) (fun _ _ i _=>ts.length-(intOf i).toNat)
 case atStart=>exact⟨0,rfl,Nat.zero_le _,rfl,World.sr_nil,Below.refl _ _⟩
 case round=>
  obtain⟨K,rfl,hK,rfl,HR,hB⟩:=hrel
  have hsK:=sumS_take ts K
  by_cases hlt:K<ts.length
  ·have hKI:(K:Int)<(ts.length:Int):=by omega
   obtain⟨x,hxK⟩:∃x,ts[K]? =some x:=⟨_,List.getElem?_eq_getElem hlt⟩
   have hcell:=vr_cells (HRW.out wr hB) (k:=K) (x:=txtV x) (by rw[List.getElem?_map,hxK];rfl)
   have htk:ts.take (K+1)=ts.take K++ [x]:=by rw[List.take_add_one,hxK];rfl
   have hs1:=sumS_take ts (K+1)
   rw[htk,sumS_snoc]at hs1
   have HSN:Hid (sumS (ts.take (K+1))=sumS (ts.take K)+x.size):=Lib.hid (by rw[htk,sumS_snoc])
   have HTK:=Lib.hid htk
   have HXK:=Lib.hid (HOK.out x (List.mem_of_getElem? hxK))
   have hlen:(ts.take K).length≤100000:=by rw[List.length_take];omega
   have HLN:=Lib.hid hlen
   obtain⟨q,hq⟩:∃q,q=sumS (ts.take K):=⟨_,rfl⟩
   rw[←hq]at hs1 hsK HSN⊢
   clear hxK htk hlen hq
   go_upto_region 6 with (first|refine wpList_load34at rfl rfl rfl rfl hcell ?_|refine wpList_alloc34 rfl rfl ?_|(refine wpList_store34 rfl rfl rfl rfl (World.vb_new' _ _ _ rfl) (by rfl) (pcs_one _) ?_;intro w1 hn1 hg1 hz1))
   have hb1:Below wr.heap.size wr w1:=((Below.refl _ wr).alloc (Nat.le_refl _) (.cells vz 39)).grown hg1 (by simp) (fun k hk=>by cases hk;exact Nat.le_refl _)
   have hB1:=hB.trans (hb1.mono hB.size)
   have HR1:=Lib.hid (HR.out.below hb1)
   have HCT:=Lib.hid (show Calls Tryz.prog 221 #[.agg (pcs (txtV x))] w1 (Gives (.agg (pcs (txtV x))) w1)from totxt_one (txtV x) w1 (plain_txt HXK.out) (HEN.out w1 (HBW.out _ hB1)).1)
   clear hg1 hz1 hcell hb1 HR hB
   go_upto_region 7 with (first|refine wpList_load34 rfl rfl rfl hn1 (by rfl) ?_|(go_at_call 221;refine HCT.out.mono ?_;rintro e w2 ⟨rfl,hB2⟩)|refine wpList_alloc34 rfl rfl ?_|(refine wpList_store34 rfl rfl rfl rfl (World.vb_new' _ _ _ rfl) (by rfl) (pcs_one _) ?_;intro w3 hn3 hg3 hz3))
   have hb3:Below w2.heap.size w2 w3:=((Below.refl _ w2).alloc (Nat.le_refl _) (.cells vz 39)).grown hg3 (by simp) (fun k hk=>by cases hk;exact Nat.le_refl _)
   have hb4:=hB2.trans (hb3.mono hB2.size)
   have hB3:=hB1.trans (hb4.mono hB1.size)
   have HR3:=Lib.hid (HR1.out.below hb4)
   clear hg3 hz3 hb3 hb4 HR1 hB1 hB2 HCT hn1
   go_upto_region 9 with (first|refine wpList_load34 rfl rfl rfl hn3 (by rfl) ?_|(go_at_call 144;refine(isfault_any (txtV x) (pcs (txtV x)) _ rfl (pcs_one _)).mono ?_;rintro e w4 ⟨rfl,hB4⟩;have hn4:=hn3.below hB4 hn3.lt;have hB4':=hB3.trans (hB4.mono hB3.size)))
   have HR4:=Lib.hid (HR3.out.below hB4)
   have cS:_=some (Value.string x):=cells_str hn4
   have HR8:=Lib.hid (show World.sr (w4.alloc (.cells #[.string x] 9)) W6.heap.size _ _ from HR4.out.alloc _)
   have hB8:=hB4'.alloc hB4'.size (.cells #[.string x] 9)
   have hzz:=hB4'.size
   have i1:((q+x.size:Nat):Int)≤200:=by omega
   have hcmp:((q:Int)+(x.size:Int))≤400:=by omega
   have hxs:(x.size:Int)≤200:=by omega
   have hqs:(q:Int)≤200:=by omega
   clear HR3 HR4 hB3 hB4 hn3
   go_wp2_with (first|refine wpList_bslS rfl rfl rfl ?_|(refine wpList_pushS rfl rfl HR8.out HLN.out rfl rfl (cell_new_one w4 _ _) (by simp;omega) ?_;intro v8 w8 hr8 hg8))
   go_roundw
   case rel=>exact⟨K+1,by go_num,by omega,by rw[HSN.out];go_num,by rw[HTK.out];exact hr8,sr_grown HR8.out (Nat.le_refl _) hB8 hB8.size hg8⟩
   case measure=>simp[intOf];omega
  ·obtain rfl:K=ts.length:=by omega
   have hKI:¬((ts.length:Int)<(ts.length:Int)):=by omega
   have hr:=HR.out
   rw[List.take_length]at hr
   rw[List.take_length]at hsK
   obtain⟨pj,cj,rfl,hcj,hpj⟩:=hr.slice
   obtain⟨gj,rfl,hgj,hcsj⟩:=hpj HNE.out
   have HJ:=Lib.hid (show Calls Tryz.prog 246 #[.slice (some ⟨gj,0,none⟩) ts.length cj,.string ⟨#[]⟩] wr (Gives (.string (mk ((ts.map (·.data.toList)).flatten))) wr)from by
    have h:=Tryz.strings_Join gj 0 cj ts ⟨#[]⟩ wr (fun j x hj=>by rw[Nat.zero_add];exact hcsj j x hj) hgj (by omega) hcj (by
     show(Lib.join _ []).length≤_
     rw[join_flat,sumS_flat];omega)
    refine h.mono ?_
    rintro e w' ⟨rfl,hb⟩
    refine⟨?_,hb⟩
    show Ending.returned (.string ⟨(Lib.join _ []).toArray⟩)=_
    rw[join_flat];rfl)
   have hgt:¬((400:Int)<((sumS ts:Nat):Int)):=by omega
   have HX:=Lib.hid (show ts.take ts.length=ts from List.take_length)
   rw[HX.out]
   clear hr hpj hcsj HR
   go_wp2_with (first|(go_at_call 246;refine HJ.out.mono ?_;rintro e w4 ⟨rfl,hB4⟩;have hB4:=hB.trans (hB4.mono hB.size))|(go_at_call 240;refine(HTX.out _ (HBW.out _ hB4)).mono ?_;rintro e w5 ⟨rfl,hB5⟩;have hB5:=hB4.trans (hB5.mono hB4.size);have hv5:=HVZ.out _ hB5;have hB5:=HBW.out _ hB5)|(refine wpList_store34 rfl rfl rfl rfl hv5 (by rfl) (pcs_one _) ?_;intro w9 hn9 hg9 hz9))
   refine bodyPost_ret (results_cell_row rfl _ _ _ 39 _ (0,0) _ rfl hn9 Tryz.underlying39 rfl info34) rfl ?_
   exact⟨rfl,hB5.grown hg9 hB5.size (fun k9 hk9=>by cases hk9;omega)⟩
set_option maxRecDepth 100000 in
set_option maxHeartbeats 8000000 in
theorem concat_txt (ts:List ByteArray) (hok:∀t∈ts,txtOk t=true) (hsum:sumS ts≤200) (hne:ts≠ []) (hn:ts.length≤20) (L:Value) (w:World) (hA:ArgsAt w L (ts.map txtV)) (hV:Env w):Calls Tryz.prog 191 #[L] w (Gives (.agg (pcs (catV ts))) w):=by
 have hv0:World.vb (w.alloc (.cells vz 39)) w.heap.size vz:=World.vb_new w vz
 have hB0:Below w.heap.size w (w.alloc (.cells vz 39)):=(Below.refl _ w).alloc (Nat.le_refl _) _
 have HJ:=Lib.hid (join_txt ts hok hsum hne hn L _ (hA.below hB0) (hV.below hB0))
 obtain⟨Y,hY⟩:∃Y,Y=catV ts:=⟨_,rfl⟩
 rw[←hY]at HJ⊢
 clear hA hV hY
 go_enter Tryz.func191,Tryz.ntmps191
 go_wp2_with (first|refine wpList_alloc34 rfl rfl ?_|(go_at_call 192;refine HJ.out.mono ?_;rintro e w1 ⟨rfl,hB1⟩;have hvy:=hv0.below hB1 hv0.lt;have hB:=hB0.trans (hB1.mono hB0.size))|(refine wpList_store34 rfl rfl rfl rfl hvy (by rfl) (pcs_one _) ?_;intro w9 hn9 hg9 hz9))
 refine bodyPost_ret (results_cell_row rfl _ _ _ 39 _ (0,0) _ rfl hn9 Tryz.underlying39 rfl info34) rfl ?_
 exact⟨rfl,hB.grown hg9 hB.size (fun k9 hk9=>by cases hk9;omega)⟩
end Go.Proofs.YtmhfioimgllgeaaGreatDoor
