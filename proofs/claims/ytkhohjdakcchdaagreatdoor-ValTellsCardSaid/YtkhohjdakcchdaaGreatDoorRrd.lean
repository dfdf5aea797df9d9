/- Merged: Rfigs, Rrp, Rread. -/
import Derived.Test.YtkhohjdakcchdaaGreatDoorRmore
import Derived.Test.YtkhohjdakcchdaaGreatDoorBe
import Derived.Deep.DeepCutAuto
namespace Go.Proofs.YtkhohjdakcchdaaGreatDoor
open Go.RowKit Go.Shelf
/-- How many digits stand ahead. -/
def runL (l:List UInt8):Nat:=(l.takeWhile (fun c=>digS.contains c)).length
theorem runL_le (l:List UInt8):runL l≤l.length:=by
 unfold runL
 exact List.Sublist.length_le (List.takeWhile_sublist _)
theorem runL_dig :∀(l:List UInt8) (k:Nat) (h:k<runL l),digS.contains (l[k]'(Nat.lt_of_lt_of_le h (runL_le l)))=true
 | [],k,h=>absurd h (by simp[runL])
 |c :: l,k,h=>by
  by_cases hc:digS.contains c=true
  ·cases k with
   |zero=>exact hc
   |succ k=>
    have h2:k<runL l:=by
     have:runL (c :: l)=runL l+1:=by unfold runL;rw[List.takeWhile_cons,if_pos hc];rfl
     omega
    exact runL_dig l k h2
  ·exfalso
   have:runL (c :: l)=0:=by unfold runL;rw[List.takeWhile_cons,if_neg hc];rfl
   omega
theorem runL_stop :∀(l:List UInt8) (h:runL l<l.length),digS.contains (l[runL l]'h)=false
 | [],h=>absurd h (by simp)
 |c :: l,h=>by
  by_cases hc:digS.contains c=true
  ·have e:runL (c :: l)=runL l+1:=by unfold runL;rw[List.takeWhile_cons,if_pos hc];rfl
   have h2:runL l<l.length:=by rw[e]at h;exact Nat.lt_of_succ_lt_succ h
   have:=runL_stop l h2
   simp only[e,List.getElem_cons_succ]
   exact this
  ·have e:runL (c :: l)=0:=by unfold runL;rw[List.takeWhile_cons,if_neg hc];rfl
   simp only[e,List.getElem_cons_zero]
   simpa using hc
theorem dig_iff (c:UInt8):digS.contains c=true↔48≤c.toNat∧c.toNat≤57:=by
 constructor
 ·exact isDig_bd
 ·rintro⟨h0,h1⟩
  have:c=UInt8.ofNat (48+(c.toNat-48)):=by rw[show 48+(c.toNat-48)=c.toNat by omega,UInt8.ofNat_toNat]
  rw[this]
  exact(dig_is _ (by omega)).1
theorem at_list (s:ByteArray) (f k:Nat) (h:f+k<s.size) (h2:k<(s.data.toList.drop f).length):(s.data.toList.drop f)[k]'h2=s[f+k]'h:=by
 rw[List.getElem_drop];rfl
theorem drop_len (s:ByteArray) (f:Nat):(s.data.toList.drop f).length=s.size-f:=by rw[List.length_drop];rfl
set_option maxRecDepth 100000 in
set_option maxHeartbeats 4000000 in
theorem figs_any (s:ByteArray) (f:Nat) (w:World) (hs:s.size≤4294967280) (hf:f≤s.size):
 Calls Tryz.prog 106 #[.string s,.int .i64 (f:Int)] w fun e w'=>e= .returned (.int .i64 ((runL (s.data.toList.drop f):Nat):Int))∧w'=w:=by
 obtain⟨R,hR⟩:∃R,runL (s.data.toList.drop f)=R:=⟨_,rfl⟩
 have hRl:f+R≤s.size:=by have:=runL_le (s.data.toList.drop f);rw[drop_len]at this;omega
 have hdig:∀k (hk:k<R) (h:f+k<s.size),48≤(s[f+k]'h).toNat∧(s[f+k]'h).toNat≤57:=by
  intro k hk h
  have h2:k<(s.data.toList.drop f).length:=by rw[drop_len];omega
  have:=runL_dig (s.data.toList.drop f) k (by omega)
  rw[at_list s f k h h2]at this
  exact isDig_bd this
 have hstop:∀(h:f+R<s.size),(s[f+R]'h).toNat<48∨57<(s[f+R]'h).toNat:=by
  intro h
  have h2:R<(s.data.toList.drop f).length:=by rw[drop_len];omega
  have:=runL_stop (s.data.toList.drop f) (by rw[hR];exact h2)
  simp only[hR]at this
  rw[at_list s f R h h2]at this
  have h3:¬(48≤(s[f+R]'h).toNat∧(s[f+R]'h).toNat≤57):=fun c=>by rw[(dig_iff _).2 c]at this;cases this
  omega
 rw[hR]
 have HD:=Lib.hid hdig
 have HS:=Lib.hid hstop
 clear hR hdig hstop
 have hsz:(s.size:Int)≤4294967280:=by omega
 go_enter Tryz.func106,Tryz.ntmps106
 go_wp2_with fail
 go_loopw [5] (fun n wr=>∃K:Nat,n= .int .i64 (K:Int)∧K≤R∧wr=w) (fun n _=>(R-intOf n).toNat)
 case atStart=>exact⟨0,rfl,Nat.zero_le _,rfl⟩
 case round=>
  obtain⟨K,rfl,hK,rfl⟩:=hrel
  obtain⟨p,hp⟩:∃p,f+K=p:=⟨_,rfl⟩
  have hpI:(f:Int)+(K:Int)=(p:Int):=by omega
  by_cases c:K<R
  ·have hlt:p<s.size:=by omega
   have hltI:(p:Int)<(s.size:Int):=by omega
   obtain⟨h48,h57⟩:48≤(s[p]'hlt).toNat∧(s[p]'hlt).toNat≤57:=by subst hp;exact HD.out K c hlt
   have h48I:(48:Int)≤((s[p]'hlt).toNat:Int):=by omega
   have h57I:((s[p]'hlt).toNat:Int)≤57:=by omega
   clear hp
   go_wp2_with fail
   go_roundw
   case rel=>exact⟨K+1,by go_num,by omega,by first|rfl|trivial⟩
   case measure=>first|(simp[intOf];done)|(simp[intOf];omega)
  ·obtain rfl:K=R:=by omega
   by_cases hlt:p<s.size
   ·have hltI:(p:Int)<(s.size:Int):=by omega
    have h:(s[p]'hlt).toNat<48∨57<(s[p]'hlt).toNat:=by subst hp;exact HS.out hlt
    clear hp
    rcases h with h|h
    ·have h48I:¬(48:Int)≤((s[p]'hlt).toNat:Int):=by omega
     have h48J:((s[p]'hlt).toNat:Int)<48:=by omega
     go_wp2_with fail
     go_ret
     exact⟨rfl,rfl⟩
    ·have h48I:(48:Int)≤((s[p]'hlt).toNat:Int):=by omega
     have h57I:¬((s[p]'hlt).toNat:Int)≤57:=by omega
     have h57J:(57:Int)<((s[p]'hlt).toNat:Int):=by omega
     go_wp2_with fail
     go_ret
     exact⟨rfl,rfl⟩
   ·have hltI:¬(p:Int)<(s.size:Int):=by omega
    have hltJ:(s.size:Int)≤(p:Int):=by omega
    clear hp
    go_wp2_with fail
    go_ret
    exact⟨rfl,rfl⟩
end Go.Proofs.YtkhohjdakcchdaaGreatDoor
namespace Go.Proofs.YtkhohjdakcchdaaGreatDoor
open Go.RowKit Go.Shelf
theorem dg_val :∀(l:List UInt8),l.all (fun c=>digS.contains c)=true→∀k (h:k<l.length),dg (valW l) k=((l[l.length-1-k]'(by omega)).toNat:Int)-48
 | [],_,k,h=>absurd h (by simp)
 |c :: l,hl,k,h=>by
  rw[List.all_cons,Bool.and_eq_true]at hl
  have hb:=isDig_bd hl.1
  have hlt:=valW_lt l hl.2
  have hz:dg (valW l) l.length=0:=dg_of_lt hlt
  rw[valW,Nat.add_comm,dg_put hz (by omega)]
  by_cases e:k=l.length
  ·subst e
   rw[if_pos rfl]
   have:(c :: l)[(c :: l).length-1-l.length]'(by simp)=c:=by simp
   rw[this];omega
  ·rw[if_neg e]
   have h2:k<l.length:=by rw[List.length_cons]at h;omega
   rw[dg_val l hl.2 k h2]
   have h3:(c :: l).length-1-k=(l.length-1-k)+1:=by rw[List.length_cons];omega
   have:(c :: l)[(c :: l).length-1-k]'(by rw[List.length_cons];omega)=l[l.length-1-k]'(by omega):=by
    simp only[h3,List.getElem_cons_succ]
   rw[this]
theorem runL_all :∀l:List UInt8,runL l=l.length↔l.all (fun c=>digS.contains c)=true
 | []=>by simp[runL]
 |c :: l=>by
  have ih:=runL_all l
  by_cases hc:digS.contains c=true
  ·have e:runL (c :: l)=runL l+1:=by unfold runL;rw[List.takeWhile_cons,if_pos hc];rfl
   rw[e,List.length_cons,List.all_cons,hc,Bool.true_and,←ih];omega
  ·have e:runL (c :: l)=0:=by unfold runL;rw[List.takeWhile_cons,if_neg hc];rfl
   rw[e,List.length_cons,List.all_cons,Bool.eq_false_iff.2 hc];simp
theorem run_take :∀l:List UInt8,(l.take (runL l)).all (fun c=>digS.contains c)=true
 | []=>by simp
 |c :: l=>by
  by_cases hc:digS.contains c=true
  ·have e:runL (c :: l)=runL l+1:=by unfold runL;rw[List.takeWhile_cons,if_pos hc];rfl
   rw[e,List.take_succ_cons,List.all_cons,hc,run_take l];rfl
  ·have e:runL (c :: l)=0:=by unfold runL;rw[List.takeWhile_cons,if_neg hc];rfl
   rw[e,List.take_zero];rfl
theorem run_dot :∀(A B:List UInt8),A.all (fun c=>digS.contains c)=true→runL (A++46 :: B)=A.length
 | [],B,_=>by unfold runL;rw[List.nil_append,List.takeWhile_cons,if_neg (by decide)]
 |c :: A,B,h=>by
  rw[List.all_cons,Bool.and_eq_true]at h
  have:=run_dot A B h.2
  unfold runL at this⊢
  rw[List.cons_append,List.takeWhile_cons,if_pos h.1,List.length_cons,List.length_cons,this]
theorem index_dot :∀(l:List UInt8),0≤Lib.index l [46]→∃i,Lib.index l [46]=((i:Nat):Int)∧l=l.take i++46 :: l.drop (i+1)
 | [],h=>absurd h (by decide)
 |c :: l,h=>by
  rw[Lib.index]at h⊢
  by_cases hc:([46]:List UInt8).isPrefixOf (c :: l)=true
  ·rw[if_pos hc]
   refine⟨0,rfl,?_⟩
   have:46=c:=by simpa [List.isPrefixOf]using hc
   rw[←this];simp
  ·rw[if_neg hc]at h⊢
   by_cases h1:(Lib.index l [46]== -1)=true
   ·rw[if_pos h1]at h;exact absurd h (by decide)
   ·rw[if_neg h1]at h⊢
    have h0:0≤Lib.index l [46]:=by
     have:Lib.index l [46]≠ -1:=by simpa using h1
     omega
    obtain⟨i,h2,h3⟩:=index_dot l h0
    refine⟨i+1,by omega,?_⟩
    rw[List.take_succ_cons,List.drop_succ_cons,List.cons_append,←h3]
theorem figB_run {l:List UInt8} (h:l.all (fun c=>digS.contains c)=true):figB l=(decide (1≤l.length)&&decide (l.length≤40)):=by
 unfold figB;rw[h];simp
/-- The three ways. -/
theorem readD_all {l:List UInt8} (h:runL (Lib.trimPrefix l [45])=(Lib.trimPrefix l [45]).length):readD l=if 1≤runL (Lib.trimPrefix l [45])∧runL (Lib.trimPrefix l [45])≤40 then readR (readS l) (readN (Lib.trimPrefix l [45]) [])else((0,0),12):=by
 unfold readD readW
 have ha:=(runL_all _).1 h
 rw[cut_no ha,figB_run ha,h]
 simp
theorem readD_dot {l A B:List UInt8} (he:Lib.trimPrefix l [45]=A++46 :: B) (hA:A.all (fun c=>digS.contains c)=true):readD l=if(1≤A.length∧A.length≤40)∧figB B=true then readR (readS l) (readN A B)else((0,0),12):=by
 unfold readD readW
 rw[he,cut_at hA,figB_run hA]
 simp
theorem readD_odd {l:List UInt8} (h:runL (Lib.trimPrefix l [45])<(Lib.trimPrefix l [45]).length) (hc:((Lib.trimPrefix l [45])[runL (Lib.trimPrefix l [45])]'h).toNat≠46):readD l=((0,0),12):=by
 unfold readD readW
 generalize Lib.trimPrefix l [45]=l' at*
 rw[if_neg]
 rintro⟨h1,h2⟩
 have ha:=(figB_iff h1).2.2
 unfold Lib.cut at ha
 by_cases hi:0≤Lib.index l' [46]
 ·rw[if_pos hi]at ha
  obtain⟨i,e1,e2⟩:=index_dot l' hi
  rw[e1,Int.toNat_natCast]at ha
  have hr:=run_dot (l'.take i) (l'.drop (i+1)) ha
  rw[←e2]at hr
  have hlen:i<l'.length:=by
   refine Classical.byContradiction fun c=> ?_
   have:=congrArg List.length e2
   rw[List.length_append,List.length_take,List.length_cons,List.length_drop]at this
   omega
  rw[List.length_take,Nat.min_eq_left (by omega)]at hr
  have:l'[runL l']'h=46:=by
   have h3:l'[i]'hlen=46:=by
    have h4:(l'.take i++46 :: l'.drop (i+1))[i]'(by rw[←e2];exact hlen)=46:=by
     rw[List.getElem_append_right (by rw[List.length_take];omega)]
     simp[Nat.min_eq_left (Nat.le_of_lt hlen)]
    rw[←h4];congr 1
   simp only[hr];exact h3
  rw[this]at hc
  exact hc rfl
 ·rw[if_neg hi]at ha
  have:=(runL_all l').2 ha
  omega
/-- How many digits are in the list when index f + K is the next one above. -/
def dK (R Q K:Nat):Nat:=if K≤R then R+Q-K else R+1+Q-K
theorem pre_three (s:ByteArray):(s.size=0∧readS s.data.toList=false∧Lib.trimPrefix s.data.toList [45]=s.data.toList.drop 0)∨(∃h:0<s.size,(s[0]'h).toNat=45∧readS s.data.toList=true∧Lib.trimPrefix s.data.toList [45]=s.data.toList.drop 1)∨(∃h:0<s.size,(s[0]'h).toNat≠45∧readS s.data.toList=false∧Lib.trimPrefix s.data.toList [45]=s.data.toList.drop 0):=by
 have hat:∀h:0<s.size,s[0]'h=s.data.toList[0]'h:=fun h=>rfl
 have hsz:s.size=s.data.toList.length:=rfl
 unfold readS Lib.trimPrefix
 by_cases h0:0<s.size
 ·right
  have h1:=hat h0
  cases hl:s.data.toList with
  |nil=>rw[hsz,hl]at h0;exact absurd h0 (by simp)
  |cons c l=>
   have h2:s[0]'h0=c:=by rw[h1];simp[hl]
   by_cases hc:c.toNat=45
   ·left
    have:c=45:=UInt8.toNat_inj.1 hc
    refine⟨h0,by rw[h2];exact hc,?_,?_⟩
    ·rw[prefix_one,this];rfl
    ·rw[if_pos (by rw[prefix_one,this];rfl)];rfl
   ·right
    have:(45==c)=false:=by rw[beq_eq_false_iff_ne];intro e;rw[←e]at hc;exact hc rfl
    refine⟨h0,by rw[h2];exact hc,?_,?_⟩
    ·rw[prefix_one,this]
    ·rw[if_neg (by rw[prefix_one,this];decide)];rfl
 ·left
  have:s.data.toList= []:=List.eq_nil_of_length_eq_zero (by omega)
  rw[this]
  exact⟨by omega,rfl,rfl⟩
theorem digits_all (s:ByteArray) (f R:Nat) (hR:runL (s.data.toList.drop f)=R) (hT:f+R=s.size):∀K,1≤K→K≤R→K≠R+1→∀h:f+K-1<s.size,48≤(s[f+K-1]'h).toNat∧(s[f+K-1]'h).toNat≤57∧dg (valW (s.data.toList.drop f)) (dK R 0 K)=((s[f+K-1]'h).toNat:Int)-48:=by
 intro K k1 k2 _ h
 have hl:(s.data.toList.drop f).length=R:=by rw[drop_len];omega
 have ha:=(runL_all _).1 (hR.trans hl.symm)
 have hlt:K-1<(s.data.toList.drop f).length:=by omega
 have e:=at_list s f (K-1) (by omega) hlt
 have e2:s[f+K-1]'h=s[f+(K-1)]'(by omega):=by congr 1;omega
 have hd:=isDig_bd (List.all_eq_true.1 ha _ (List.getElem_mem hlt))
 rw[e2,←e]
 refine⟨hd.1,hd.2,?_⟩
 have hk:dK R 0 K<(s.data.toList.drop f).length:=by unfold dK;rw[if_pos k2];omega
 rw[dg_val _ ha _ hk]
 have:(s.data.toList.drop f).length-1-dK R 0 K=K-1:=by unfold dK;rw[if_pos k2,hl];omega
 simp only[this]
theorem digits_dot (s:ByteArray) (f R Q:Nat) (hR:runL (s.data.toList.drop f)=R) (hQ:runL (s.data.toList.drop (f+R+1))=Q) (hT:f+(R+1+Q)=s.size) (hd:∀h:f+R<s.size,(s[f+R]'h).toNat=46):
 s.data.toList.drop f=(s.data.toList.drop f).take R++46 :: s.data.toList.drop (f+R+1)∧((s.data.toList.drop f).take R).length=R∧((s.data.toList.drop f).take R).all (fun c=>digS.contains c)=true∧(s.data.toList.drop (f+R+1)).all (fun c=>digS.contains c)=true∧(s.data.toList.drop (f+R+1)).length=Q∧
 ∀K,1≤K→K≤R+1+Q→K≠R+1→∀h:f+K-1<s.size,48≤(s[f+K-1]'h).toNat∧(s[f+K-1]'h).toNat≤57∧dg (valW ((s.data.toList.drop f).take R++s.data.toList.drop (f+R+1))) (dK R Q K)=((s[f+K-1]'h).toNat:Int)-48:=by
 have hl:(s.data.toList.drop f).length=R+1+Q:=by rw[drop_len];omega
 have hlB:(s.data.toList.drop (f+R+1)).length=Q:=by rw[drop_len];omega
 have hA:=run_take (s.data.toList.drop f)
 rw[hR]at hA
 have hB:=(runL_all _).1 (hQ.trans hlB.symm)
 have hlA:((s.data.toList.drop f).take R).length=R:=by rw[List.length_take];omega
 have hc:(s.data.toList.drop f)[R]'(by omega)=46:=by
  rw[at_list s f R (by omega) (by omega)]
  exact UInt8.toNat_inj.1 (hd (by omega))
 have hsplit:s.data.toList.drop f=(s.data.toList.drop f).take R++46 :: s.data.toList.drop (f+R+1):=by
  have h1:=(List.take_append_drop R (s.data.toList.drop f)).symm
  rw[List.drop_eq_getElem_cons (show R<(s.data.toList.drop f).length by omega),hc,List.drop_drop]at h1
  exact h1
 refine⟨hsplit,hlA,hA,hB,hlB,?_⟩
 intro K k1 k2 k3 h
 have hAB:((s.data.toList.drop f).take R++s.data.toList.drop (f+R+1)).all (fun c=>digS.contains c)=true:=by rw[List.all_append,hA,hB];rfl
 have hlAB:((s.data.toList.drop f).take R++s.data.toList.drop (f+R+1)).length=R+Q:=by rw[List.length_append,hlA,hlB]
 have hk:dK R Q K<((s.data.toList.drop f).take R++s.data.toList.drop (f+R+1)).length:=by rw[hlAB];unfold dK;split<;>omega
 have hv:=dg_val _ hAB _ hk
 have key:((s.data.toList.drop f).take R++s.data.toList.drop (f+R+1))[((s.data.toList.drop f).take R++s.data.toList.drop (f+R+1)).length-1-dK R Q K]'(by omega)=s[f+K-1]'h:=by
  by_cases c:K≤R
  ·have e:((s.data.toList.drop f).take R++s.data.toList.drop (f+R+1)).length-1-dK R Q K=K-1:=by rw[hlAB];unfold dK;rw[if_pos c];omega
   simp only[e]
   rw[List.getElem_append_left (by omega),List.getElem_take,at_list s f (K-1) (by omega) (by omega)]
   congr 1;omega
  ·have e:((s.data.toList.drop f).take R++s.data.toList.drop (f+R+1)).length-1-dK R Q K=K-2:=by rw[hlAB];unfold dK;rw[if_neg c];omega
   simp only[e]
   rw[List.getElem_append_right (by omega)]
   simp only[hlA]
   rw[at_list s (f+R+1) (K-2-R) (by omega) (by omega)]
   congr 1;omega
 rw[key]at hv
 have hd2:=List.all_eq_true.1 hAB _ (List.getElem_mem (show((s.data.toList.drop f).take R++s.data.toList.drop (f+R+1)).length-1-dK R Q K<((s.data.toList.drop f).take R++s.data.toList.drop (f+R+1)).length by omega))
 rw[key]at hd2
 exact⟨(isDig_bd hd2).1,(isDig_bd hd2).2,hv⟩
end Go.Proofs.YtkhohjdakcchdaaGreatDoor
namespace Go.Proofs.YtkhohjdakcchdaaGreatDoor
open Go.RowKit Go.Shelf
/-- How a text begins: with a sign or not; how many bytes that takes. -/
def PreB (s:ByteArray) (sb:Bool) (f:Nat):Prop:=(s.size=0∧sb=false∧f=0)∨(∃h:0<s.size,(s[0]'h).toNat=45∧sb=true∧f=1)∨(∃h:0<s.size,(s[0]'h).toNat≠45∧sb=false∧f=0)
set_option maxRecDepth 100000 in
set_option maxHeartbeats 4000000 in
theorem rread_b1 (s:ByteArray) (w:World) (hs:s.size≤4294967280) (sb:Bool) (f:Nat) (hp:PreB s sb f) (R:Nat) (hR:runL (s.data.toList.drop f)=R) (hpe:f+R=s.size) (h1:R<1):
 Calls Tryz.prog 53 #[.string s] w (DecPost ((0,0),12) w):=by
 obtain⟨p,hpp⟩:∃p,f+R=p:=⟨_,rfl⟩
 have hpI:(f:Int)+(R:Int)=(p:Int):=by omega
 have hRle:=runL_le (s.data.toList.drop f)
 rw[drop_len,hR]at hRle
 have hps:p≤s.size:=by omega
 have CR:=fun w=>figs_any s f w hs (by rcases hp with ⟨_,_,h⟩|⟨h,_,_,h2⟩|⟨h,_,_,h2⟩<;>omega)
 rw[hR]at CR
 have KR:=Lib.hid CR
 clear CR hR hRle
 have hlt:¬(p:Int)<(s.size:Int):=by omega
 have hlt2:(s.size:Int)≤(p:Int):=by omega
 have hRI:(R:Int)<1:=by omega
 clear hpp
 have hsz0:(s.size:Int)≤4294967280:=by omega
 have hfs:f≤s.size:=by rcases hp with ⟨_,_,h⟩|⟨h,_,_,h2⟩|⟨h,_,_,h2⟩<;>omega
 have hfb:f=if sb=true then 1 else 0:=by rcases hp with ⟨_,h,h2⟩|⟨_,_,h,h2⟩|⟨_,_,h,h2⟩<;>rw[h,h2]<;>rfl
 have hs':=hs
 have HP:=Lib.hid hp
 have HFB:=Lib.hid hfb
 clear hp hfb
 go_enter Tryz.func53,Tryz.ntmps53
 go_upto_region 1 with fail
 obtain⟨W,hW⟩:∃W,W=w.alloc (.cells #[.int .i64 0,.int .i64 0] 23):=⟨_,rfl⟩
 rw[←hW]
 have d2:World.dec W w.heap.size 0 0:=by rw[hW];exact World.dec_new w 0 0 _ rfl
 have hB:Below w.heap.size w W:=by rw[hW];exact(Below.refl _ w).alloc (Nat.le_refl _) _
 have hsz:=hB.size
 clear hW
 go_cut [4] (fun v wc=>v= .bool sb∧wc=W)
 case first=>
  rcases HP.out with ⟨h,h2,_⟩|⟨h,h3,h2,_⟩|⟨h,h3,h2,_⟩
  ·have hI:(s.size:Int)=0:=by omega
   have hJ:¬(0:Int)<(s.size:Int):=by omega
   subst h2
   go_wp2_with fail
   go_meet
   case rel=>exact⟨rfl,rfl⟩
  ·have hI:(0:Int)<(s.size:Int):=by omega
   have hJ:(((s[0]'h).toNat:Int)==45)=true:=by rw[beq_iff_eq];omega
   have hK:(s[0]'h).toNat=45:=h3
   subst h2
   go_wp2_with fail
   go_meet
   case rel=>exact⟨rfl,rfl⟩
  ·have hI:(0:Int)<(s.size:Int):=by omega
   have hJ:(((s[0]'h).toNat:Int)==45)=false:=by rw[beq_eq_false_iff_ne];omega
   subst h2
   go_wp2_with fail
   go_meet
   case rel=>exact⟨rfl,rfl⟩
 case rest=>
 obtain⟨rfl,rfl⟩:=hcut
 go_upto_if 24 with fail
 go_cut [5] (fun v wx=>v= .int .i64 (f:Int)∧wx=wc)
 case first=>
  cases sb
  ·have hf0:(f:Int)=0:=by rw[HFB.out];rfl
   go_wp2_with fail
   go_meet
   case rel=>exact⟨by rw[hf0],rfl⟩
  ·have hf0:(f:Int)=1:=by rw[HFB.out];rfl
   go_wp2_with fail
   go_meet
   case rel=>exact⟨by rw[hf0],rfl⟩
 case rest=>
 obtain⟨rfl,rfl⟩:=hcut
 have g0:=d2.c0
 have g1:=d2.c1
 have gf0:=d2.frozen 0
 have gf1:=d2.frozen 1
 go_wp2_with fail
 refine(KR.out _).mono ?_
 rintro e' w1 ⟨rfl,hw1⟩
 subst hw1
 go_wp2_with fail
 refine bodyPost_ret (results_dec_tmp rfl _ _ _ 0 0 rfl (World.dec.set1 (World.dec.set0 d2 0) 0)) rfl ?_
 exact⟨rfl,(hB.setCell (by simp) _).setCell (by simp) _⟩
set_option maxRecDepth 100000 in
set_option maxHeartbeats 4000000 in
theorem rread_b2 (s:ByteArray) (w:World) (hs:s.size≤4294967280) (sb:Bool) (f:Nat) (hp:PreB s sb f) (R:Nat) (hR:runL (s.data.toList.drop f)=R) (hpe:f+R=s.size) (h1:40<R):
 Calls Tryz.prog 53 #[.string s] w (DecPost ((0,0),12) w):=by
 obtain⟨p,hpp⟩:∃p,f+R=p:=⟨_,rfl⟩
 have hpI:(f:Int)+(R:Int)=(p:Int):=by omega
 have hRle:=runL_le (s.data.toList.drop f)
 rw[drop_len,hR]at hRle
 have hps:p≤s.size:=by omega
 have CR:=fun w=>figs_any s f w hs (by rcases hp with ⟨_,_,h⟩|⟨h,_,_,h2⟩|⟨h,_,_,h2⟩<;>omega)
 rw[hR]at CR
 have KR:=Lib.hid CR
 clear CR hR hRle
 have hlt:¬(p:Int)<(s.size:Int):=by omega
 have hlt2:(s.size:Int)≤(p:Int):=by omega
 have hRI:(40:Int)<(R:Int):=by omega
 have hRJ:¬(R:Int)<1:=by omega
 clear hpp
 have hsz0:(s.size:Int)≤4294967280:=by omega
 have hfs:f≤s.size:=by rcases hp with ⟨_,_,h⟩|⟨h,_,_,h2⟩|⟨h,_,_,h2⟩<;>omega
 have hfb:f=if sb=true then 1 else 0:=by rcases hp with ⟨_,h,h2⟩|⟨_,_,h,h2⟩|⟨_,_,h,h2⟩<;>rw[h,h2]<;>rfl
 have hs':=hs
 have HP:=Lib.hid hp
 have HFB:=Lib.hid hfb
 clear hp hfb
 go_enter Tryz.func53,Tryz.ntmps53
 go_upto_region 1 with fail
 obtain⟨W,hW⟩:∃W,W=w.alloc (.cells #[.int .i64 0,.int .i64 0] 23):=⟨_,rfl⟩
 rw[←hW]
 have d2:World.dec W w.heap.size 0 0:=by rw[hW];exact World.dec_new w 0 0 _ rfl
 have hB:Below w.heap.size w W:=by rw[hW];exact(Below.refl _ w).alloc (Nat.le_refl _) _
 have hsz:=hB.size
 clear hW
 go_cut [4] (fun v wc=>v= .bool sb∧wc=W)
 case first=>
  rcases HP.out with ⟨h,h2,_⟩|⟨h,h3,h2,_⟩|⟨h,h3,h2,_⟩
  ·have hI:(s.size:Int)=0:=by omega
   have hJ:¬(0:Int)<(s.size:Int):=by omega
   subst h2
   go_wp2_with fail
   go_meet
   case rel=>exact⟨rfl,rfl⟩
  ·have hI:(0:Int)<(s.size:Int):=by omega
   have hJ:(((s[0]'h).toNat:Int)==45)=true:=by rw[beq_iff_eq];omega
   have hK:(s[0]'h).toNat=45:=h3
   subst h2
   go_wp2_with fail
   go_meet
   case rel=>exact⟨rfl,rfl⟩
  ·have hI:(0:Int)<(s.size:Int):=by omega
   have hJ:(((s[0]'h).toNat:Int)==45)=false:=by rw[beq_eq_false_iff_ne];omega
   subst h2
   go_wp2_with fail
   go_meet
   case rel=>exact⟨rfl,rfl⟩
 case rest=>
 obtain⟨rfl,rfl⟩:=hcut
 go_upto_if 24 with fail
 go_cut [5] (fun v wx=>v= .int .i64 (f:Int)∧wx=wc)
 case first=>
  cases sb
  ·have hf0:(f:Int)=0:=by rw[HFB.out];rfl
   go_wp2_with fail
   go_meet
   case rel=>exact⟨by rw[hf0],rfl⟩
  ·have hf0:(f:Int)=1:=by rw[HFB.out];rfl
   go_wp2_with fail
   go_meet
   case rel=>exact⟨by rw[hf0],rfl⟩
 case rest=>
 obtain⟨rfl,rfl⟩:=hcut
 have g0:=d2.c0
 have g1:=d2.c1
 have gf0:=d2.frozen 0
 have gf1:=d2.frozen 1
 go_wp2_with fail
 refine(KR.out _).mono ?_
 rintro e' w1 ⟨rfl,hw1⟩
 subst hw1
 go_wp2_with fail
 refine bodyPost_ret (results_dec_tmp rfl _ _ _ 0 0 rfl (World.dec.set1 (World.dec.set0 d2 0) 0)) rfl ?_
 exact⟨rfl,(hB.setCell (by simp) _).setCell (by simp) _⟩
set_option maxRecDepth 100000 in
set_option maxHeartbeats 4000000 in
theorem rread_b3 (s:ByteArray) (w:World) (hs:s.size≤4294967280) (sb:Bool) (f:Nat) (hp:PreB s sb f) (R:Nat) (hR:runL (s.data.toList.drop f)=R) (hpl:f+R<s.size) (hc:(s[f+R]'hpl).toNat≠46):
 Calls Tryz.prog 53 #[.string s] w (DecPost ((0,0),12) w):=by
 obtain⟨p,hpp⟩:∃p,f+R=p:=⟨_,rfl⟩
 have hpI:(f:Int)+(R:Int)=(p:Int):=by omega
 have hRle:=runL_le (s.data.toList.drop f)
 rw[drop_len,hR]at hRle
 have hps:p≤s.size:=by omega
 have CR:=fun w=>figs_any s f w hs (by rcases hp with ⟨_,_,h⟩|⟨h,_,_,h2⟩|⟨h,_,_,h2⟩<;>omega)
 rw[hR]at CR
 have KR:=Lib.hid CR
 clear CR hR hRle
 have hlt:p<s.size:=by omega
 have hltI:(p:Int)<(s.size:Int):=by omega
 have hc2:(s[p]'hlt).toNat≠46:=by subst hpp;exact hc
 have hcI:(((s[p]'hlt).toNat:Int)==46)=false:=by rw[beq_eq_false_iff_ne];omega
 have hne:((p:Int) != (s.size:Int))=true:=by rw[bne_iff_ne];omega
 clear hc hc2 hpp
 have hsz0:(s.size:Int)≤4294967280:=by omega
 have hfs:f≤s.size:=by rcases hp with ⟨_,_,h⟩|⟨h,_,_,h2⟩|⟨h,_,_,h2⟩<;>omega
 have hfb:f=if sb=true then 1 else 0:=by rcases hp with ⟨_,h,h2⟩|⟨_,_,h,h2⟩|⟨_,_,h,h2⟩<;>rw[h,h2]<;>rfl
 have hs':=hs
 have HP:=Lib.hid hp
 have HFB:=Lib.hid hfb
 clear hp hfb
 go_enter Tryz.func53,Tryz.ntmps53
 go_upto_region 1 with fail
 obtain⟨W,hW⟩:∃W,W=w.alloc (.cells #[.int .i64 0,.int .i64 0] 23):=⟨_,rfl⟩
 rw[←hW]
 have d2:World.dec W w.heap.size 0 0:=by rw[hW];exact World.dec_new w 0 0 _ rfl
 have hB:Below w.heap.size w W:=by rw[hW];exact(Below.refl _ w).alloc (Nat.le_refl _) _
 have hsz:=hB.size
 clear hW
 go_cut [4] (fun v wc=>v= .bool sb∧wc=W)
 case first=>
  rcases HP.out with ⟨h,h2,_⟩|⟨h,h3,h2,_⟩|⟨h,h3,h2,_⟩
  ·have hI:(s.size:Int)=0:=by omega
   have hJ:¬(0:Int)<(s.size:Int):=by omega
   subst h2
   go_wp2_with fail
   go_meet
   case rel=>exact⟨rfl,rfl⟩
  ·have hI:(0:Int)<(s.size:Int):=by omega
   have hJ:(((s[0]'h).toNat:Int)==45)=true:=by rw[beq_iff_eq];omega
   have hK:(s[0]'h).toNat=45:=h3
   subst h2
   go_wp2_with fail
   go_meet
   case rel=>exact⟨rfl,rfl⟩
  ·have hI:(0:Int)<(s.size:Int):=by omega
   have hJ:(((s[0]'h).toNat:Int)==45)=false:=by rw[beq_eq_false_iff_ne];omega
   subst h2
   go_wp2_with fail
   go_meet
   case rel=>exact⟨rfl,rfl⟩
 case rest=>
 obtain⟨rfl,rfl⟩:=hcut
 go_upto_if 24 with fail
 go_cut [5] (fun v wx=>v= .int .i64 (f:Int)∧wx=wc)
 case first=>
  cases sb
  ·have hf0:(f:Int)=0:=by rw[HFB.out];rfl
   go_wp2_with fail
   go_meet
   case rel=>exact⟨by rw[hf0],rfl⟩
  ·have hf0:(f:Int)=1:=by rw[HFB.out];rfl
   go_wp2_with fail
   go_meet
   case rel=>exact⟨by rw[hf0],rfl⟩
 case rest=>
 obtain⟨rfl,rfl⟩:=hcut
 have g0:=d2.c0
 have g1:=d2.c1
 have gf0:=d2.frozen 0
 have gf1:=d2.frozen 1
 rcases(by omega:R<1∨40<R∨(1≤R∧R≤40))with h|h|⟨h,h'⟩
 ·have hRI:(R:Int)<1:=by omega
  go_wp2_with fail
  refine(KR.out _).mono ?_
  rintro e' w1 ⟨rfl,hw1⟩
  subst hw1
  go_wp2_with fail
  refine bodyPost_ret (results_dec_tmp rfl _ _ _ 0 0 rfl (World.dec.set1 (World.dec.set0 d2 0) 0)) rfl ?_
  exact⟨rfl,(hB.setCell (by simp) _).setCell (by simp) _⟩
 ·have hRI:(40:Int)<(R:Int):=by omega
  have hRJ:¬(R:Int)<1:=by omega
  go_wp2_with fail
  refine(KR.out _).mono ?_
  rintro e' w1 ⟨rfl,hw1⟩
  subst hw1
  go_wp2_with fail
  refine bodyPost_ret (results_dec_tmp rfl _ _ _ 0 0 rfl (World.dec.set1 (World.dec.set0 d2 0) 0)) rfl ?_
  exact⟨rfl,(hB.setCell (by simp) _).setCell (by simp) _⟩
 ·have hRI:¬(40:Int)<(R:Int):=by omega
  have hRJ:¬(R:Int)<1:=by omega
  go_wp2_with fail
  refine(KR.out _).mono ?_
  rintro e' w1 ⟨rfl,hw1⟩
  subst hw1
  go_wp2_with fail
  refine bodyPost_ret (results_dec_tmp rfl _ _ _ 0 0 rfl (World.dec.set1 (World.dec.set0 d2 0) 0)) rfl ?_
  exact⟨rfl,(hB.setCell (by simp) _).setCell (by simp) _⟩
set_option maxRecDepth 100000 in
set_option maxHeartbeats 4000000 in
theorem rread_b4 (s:ByteArray) (w:World) (hs:s.size≤4294967280) (sb:Bool) (f:Nat) (hp:PreB s sb f) (R:Nat) (hR:runL (s.data.toList.drop f)=R) (hpl:f+R<s.size) (hc:(s[f+R]'hpl).toNat=46) (Q:Nat) (hQ:runL (s.data.toList.drop (f+R+1))=Q) (h0:Q=0):
 Calls Tryz.prog 53 #[.string s] w (DecPost ((0,0),12) w):=by
 obtain⟨p,hpp⟩:∃p,f+R=p:=⟨_,rfl⟩
 have hpI:(f:Int)+(R:Int)=(p:Int):=by omega
 have hRle:=runL_le (s.data.toList.drop f)
 rw[drop_len,hR]at hRle
 have hps:p≤s.size:=by omega
 have CR:=fun w=>figs_any s f w hs (by rcases hp with ⟨_,_,h⟩|⟨h,_,_,h2⟩|⟨h,_,_,h2⟩<;>omega)
 rw[hR]at CR
 have KR:=Lib.hid CR
 clear CR hR hRle
 have hlt:p<s.size:=by omega
 have hltI:(p:Int)<(s.size:Int):=by omega
 have hcI:(((s[p]'hlt).toNat:Int)==46)=true:=by subst hpp;rw[beq_iff_eq];omega
 have hcN:(s[p]'hlt).toNat=46:=by subst hpp;exact hc
 have hQ2:runL (s.data.toList.drop (p+1))=Q:=by subst hpp;exact hQ
 have CQ:∀m:Int,m=(p:Int)+1→∀w,Calls Tryz.prog 106 #[.string s,.int .i64 m] w fun e w'=>e= .returned (.int .i64 (Q:Int))∧w'=w:=by
  rintro _ rfl w
  have:=figs_any s (p+1) w hs (by omega)
  rw[hQ2]at this
  exact this
 have hQle:=runL_le (s.data.toList.drop (p+1))
 rw[drop_len,hQ2]at hQle
 have KQ:=Lib.hid CQ
 have hQb:(Q:Int)≤4294967280:=by omega
 obtain⟨q,hq⟩:∃q,p+1+Q=q:=⟨_,rfl⟩
 have hqI:(p:Int)+1+(Q:Int)=(q:Int):=by omega
 have hqs:q≤s.size:=by omega
 clear hc hQ hQ2 hQle CQ
 have hQI:((Q:Int)==0)=true:=by rw[beq_iff_eq];omega
 clear hpp hq
 have hsz0:(s.size:Int)≤4294967280:=by omega
 have hfs:f≤s.size:=by rcases hp with ⟨_,_,h⟩|⟨h,_,_,h2⟩|⟨h,_,_,h2⟩<;>omega
 have hfb:f=if sb=true then 1 else 0:=by rcases hp with ⟨_,h,h2⟩|⟨_,_,h,h2⟩|⟨_,_,h,h2⟩<;>rw[h,h2]<;>rfl
 have hs':=hs
 have HP:=Lib.hid hp
 have HFB:=Lib.hid hfb
 clear hp hfb
 go_enter Tryz.func53,Tryz.ntmps53
 go_upto_region 1 with fail
 obtain⟨W,hW⟩:∃W,W=w.alloc (.cells #[.int .i64 0,.int .i64 0] 23):=⟨_,rfl⟩
 rw[←hW]
 have d2:World.dec W w.heap.size 0 0:=by rw[hW];exact World.dec_new w 0 0 _ rfl
 have hB:Below w.heap.size w W:=by rw[hW];exact(Below.refl _ w).alloc (Nat.le_refl _) _
 have hsz:=hB.size
 clear hW
 go_cut [4] (fun v wc=>v= .bool sb∧wc=W)
 case first=>
  rcases HP.out with ⟨h,h2,_⟩|⟨h,h3,h2,_⟩|⟨h,h3,h2,_⟩
  ·have hI:(s.size:Int)=0:=by omega
   have hJ:¬(0:Int)<(s.size:Int):=by omega
   subst h2
   go_wp2_with fail
   go_meet
   case rel=>exact⟨rfl,rfl⟩
  ·have hI:(0:Int)<(s.size:Int):=by omega
   have hJ:(((s[0]'h).toNat:Int)==45)=true:=by rw[beq_iff_eq];omega
   have hK:(s[0]'h).toNat=45:=h3
   subst h2
   go_wp2_with fail
   go_meet
   case rel=>exact⟨rfl,rfl⟩
  ·have hI:(0:Int)<(s.size:Int):=by omega
   have hJ:(((s[0]'h).toNat:Int)==45)=false:=by rw[beq_eq_false_iff_ne];omega
   subst h2
   go_wp2_with fail
   go_meet
   case rel=>exact⟨rfl,rfl⟩
 case rest=>
 obtain⟨rfl,rfl⟩:=hcut
 go_upto_if 24 with fail
 go_cut [5] (fun v wx=>v= .int .i64 (f:Int)∧wx=wc)
 case first=>
  cases sb
  ·have hf0:(f:Int)=0:=by rw[HFB.out];rfl
   go_wp2_with fail
   go_meet
   case rel=>exact⟨by rw[hf0],rfl⟩
  ·have hf0:(f:Int)=1:=by rw[HFB.out];rfl
   go_wp2_with fail
   go_meet
   case rel=>exact⟨by rw[hf0],rfl⟩
 case rest=>
 obtain⟨rfl,rfl⟩:=hcut
 have g0:=d2.c0
 have g1:=d2.c1
 have gf0:=d2.frozen 0
 have gf1:=d2.frozen 1
 go_wp2_with fail
 refine(KR.out _).mono ?_
 rintro e' w1 ⟨rfl,hw1⟩
 subst hw1
 go_wp2_with fail
 refine(KQ.out _ rfl _).mono ?_
 rintro e' w1 ⟨rfl,hw1⟩
 subst hw1
 go_wp2_with fail
 refine bodyPost_ret (results_dec_tmp rfl _ _ _ 0 0 rfl (World.dec.set1 (World.dec.set0 d2 0) 0)) rfl ?_
 exact⟨rfl,(hB.setCell (by simp) _).setCell (by simp) _⟩
set_option maxRecDepth 100000 in
set_option maxHeartbeats 4000000 in
theorem rread_b5 (s:ByteArray) (w:World) (hs:s.size≤4294967280) (sb:Bool) (f:Nat) (hp:PreB s sb f) (R:Nat) (hR:runL (s.data.toList.drop f)=R) (hpl:f+R<s.size) (hc:(s[f+R]'hpl).toNat=46) (Q:Nat) (hQ:runL (s.data.toList.drop (f+R+1))=Q) (h0:0<Q) (hb:R<1∨40<R∨40<Q∨f+R+1+Q≠s.size):
 Calls Tryz.prog 53 #[.string s] w (DecPost ((0,0),12) w):=by
 obtain⟨p,hpp⟩:∃p,f+R=p:=⟨_,rfl⟩
 have hpI:(f:Int)+(R:Int)=(p:Int):=by omega
 have hRle:=runL_le (s.data.toList.drop f)
 rw[drop_len,hR]at hRle
 have hps:p≤s.size:=by omega
 have CR:=fun w=>figs_any s f w hs (by rcases hp with ⟨_,_,h⟩|⟨h,_,_,h2⟩|⟨h,_,_,h2⟩<;>omega)
 rw[hR]at CR
 have KR:=Lib.hid CR
 clear CR hR hRle
 have hlt:p<s.size:=by omega
 have hltI:(p:Int)<(s.size:Int):=by omega
 have hcI:(((s[p]'hlt).toNat:Int)==46)=true:=by subst hpp;rw[beq_iff_eq];omega
 have hcN:(s[p]'hlt).toNat=46:=by subst hpp;exact hc
 have hQ2:runL (s.data.toList.drop (p+1))=Q:=by subst hpp;exact hQ
 have CQ:∀m:Int,m=(p:Int)+1→∀w,Calls Tryz.prog 106 #[.string s,.int .i64 m] w fun e w'=>e= .returned (.int .i64 (Q:Int))∧w'=w:=by
  rintro _ rfl w
  have:=figs_any s (p+1) w hs (by omega)
  rw[hQ2]at this
  exact this
 have hQle:=runL_le (s.data.toList.drop (p+1))
 rw[drop_len,hQ2]at hQle
 have KQ:=Lib.hid CQ
 have hQb:(Q:Int)≤4294967280:=by omega
 obtain⟨q,hq⟩:∃q,p+1+Q=q:=⟨_,rfl⟩
 have hqI:(p:Int)+1+(Q:Int)=(q:Int):=by omega
 have hqs:q≤s.size:=by omega
 clear hc hQ hQ2 hQle CQ
 have hQI:((Q:Int)==0)=false:=by rw[beq_eq_false_iff_ne];omega
 have hb2:R<1∨40<R∨40<Q∨q≠s.size:=by subst hq hpp;exact hb
 clear hpp hq hb
 have hsz0:(s.size:Int)≤4294967280:=by omega
 have hfs:f≤s.size:=by rcases hp with ⟨_,_,h⟩|⟨h,_,_,h2⟩|⟨h,_,_,h2⟩<;>omega
 have hfb:f=if sb=true then 1 else 0:=by rcases hp with ⟨_,h,h2⟩|⟨_,_,h,h2⟩|⟨_,_,h,h2⟩<;>rw[h,h2]<;>rfl
 have hs':=hs
 have HP:=Lib.hid hp
 have HFB:=Lib.hid hfb
 clear hp hfb
 go_enter Tryz.func53,Tryz.ntmps53
 go_upto_region 1 with fail
 obtain⟨W,hW⟩:∃W,W=w.alloc (.cells #[.int .i64 0,.int .i64 0] 23):=⟨_,rfl⟩
 rw[←hW]
 have d2:World.dec W w.heap.size 0 0:=by rw[hW];exact World.dec_new w 0 0 _ rfl
 have hB:Below w.heap.size w W:=by rw[hW];exact(Below.refl _ w).alloc (Nat.le_refl _) _
 have hsz:=hB.size
 clear hW
 go_cut [4] (fun v wc=>v= .bool sb∧wc=W)
 case first=>
  rcases HP.out with ⟨h,h2,_⟩|⟨h,h3,h2,_⟩|⟨h,h3,h2,_⟩
  ·have hI:(s.size:Int)=0:=by omega
   have hJ:¬(0:Int)<(s.size:Int):=by omega
   subst h2
   go_wp2_with fail
   go_meet
   case rel=>exact⟨rfl,rfl⟩
  ·have hI:(0:Int)<(s.size:Int):=by omega
   have hJ:(((s[0]'h).toNat:Int)==45)=true:=by rw[beq_iff_eq];omega
   have hK:(s[0]'h).toNat=45:=h3
   subst h2
   go_wp2_with fail
   go_meet
   case rel=>exact⟨rfl,rfl⟩
  ·have hI:(0:Int)<(s.size:Int):=by omega
   have hJ:(((s[0]'h).toNat:Int)==45)=false:=by rw[beq_eq_false_iff_ne];omega
   subst h2
   go_wp2_with fail
   go_meet
   case rel=>exact⟨rfl,rfl⟩
 case rest=>
 obtain⟨rfl,rfl⟩:=hcut
 go_upto_if 24 with fail
 go_cut [5] (fun v wx=>v= .int .i64 (f:Int)∧wx=wc)
 case first=>
  cases sb
  ·have hf0:(f:Int)=0:=by rw[HFB.out];rfl
   go_wp2_with fail
   go_meet
   case rel=>exact⟨by rw[hf0],rfl⟩
  ·have hf0:(f:Int)=1:=by rw[HFB.out];rfl
   go_wp2_with fail
   go_meet
   case rel=>exact⟨by rw[hf0],rfl⟩
 case rest=>
 obtain⟨rfl,rfl⟩:=hcut
 have g0:=d2.c0
 have g1:=d2.c1
 have gf0:=d2.frozen 0
 have gf1:=d2.frozen 1
 rcases(by omega:R<1∨40<R∨(1≤R∧R≤40∧40<Q)∨(1≤R∧R≤40∧Q≤40∧q≠s.size))with h|h|⟨h,h',h2⟩|⟨h,h',h2,h3⟩
 ·have hRI:(R:Int)<1:=by omega
  go_wp2_with fail
  refine(KR.out _).mono ?_
  rintro e' w1 ⟨rfl,hw1⟩
  subst hw1
  go_wp2_with fail
  refine(KQ.out _ rfl _).mono ?_
  rintro e' w1 ⟨rfl,hw1⟩
  subst hw1
  go_wp2_with fail
  refine bodyPost_ret (results_dec_tmp rfl _ _ _ 0 0 rfl (World.dec.set1 (World.dec.set0 d2 0) 0)) rfl ?_
  exact⟨rfl,(hB.setCell (by simp) _).setCell (by simp) _⟩
 ·have hRI:(40:Int)<(R:Int):=by omega
  have hRJ:¬(R:Int)<1:=by omega
  go_wp2_with fail
  refine(KR.out _).mono ?_
  rintro e' w1 ⟨rfl,hw1⟩
  subst hw1
  go_wp2_with fail
  refine(KQ.out _ rfl _).mono ?_
  rintro e' w1 ⟨rfl,hw1⟩
  subst hw1
  go_wp2_with fail
  refine bodyPost_ret (results_dec_tmp rfl _ _ _ 0 0 rfl (World.dec.set1 (World.dec.set0 d2 0) 0)) rfl ?_
  exact⟨rfl,(hB.setCell (by simp) _).setCell (by simp) _⟩
 ·have hRI:¬(40:Int)<(R:Int):=by omega
  have hRJ:¬(R:Int)<1:=by omega
  have hQ4:(40:Int)<(Q:Int):=by omega
  go_wp2_with fail
  refine(KR.out _).mono ?_
  rintro e' w1 ⟨rfl,hw1⟩
  subst hw1
  go_wp2_with fail
  refine(KQ.out _ rfl _).mono ?_
  rintro e' w1 ⟨rfl,hw1⟩
  subst hw1
  go_wp2_with fail
  refine bodyPost_ret (results_dec_tmp rfl _ _ _ 0 0 rfl (World.dec.set1 (World.dec.set0 d2 0) 0)) rfl ?_
  exact⟨rfl,(hB.setCell (by simp) _).setCell (by simp) _⟩
 ·have hRI:¬(40:Int)<(R:Int):=by omega
  have hRJ:¬(R:Int)<1:=by omega
  have hQ4:¬(40:Int)<(Q:Int):=by omega
  have hne:((q:Int) != (s.size:Int))=true:=by rw[bne_iff_ne];omega
  go_wp2_with fail
  refine(KR.out _).mono ?_
  rintro e' w1 ⟨rfl,hw1⟩
  subst hw1
  go_wp2_with fail
  refine(KQ.out _ rfl _).mono ?_
  rintro e' w1 ⟨rfl,hw1⟩
  subst hw1
  go_wp2_with fail
  refine bodyPost_ret (results_dec_tmp rfl _ _ _ 0 0 rfl (World.dec.set1 (World.dec.set0 d2 0) 0)) rfl ?_
  exact⟨rfl,(hB.setCell (by simp) _).setCell (by simp) _⟩
/-- What comes of the nearest decimal T of N by ten to Q. -/
def ReadRes (N Q:Nat) (T res:(Int×Int)×Int):Prop:=
 (T=((0,0),10)∧res=((0,0),10))∨(∃x y,T=((x,y),0)∧RightP (x,y)∧((wholeN x y*10 ^ Q<N*10 ^ 9∧res=((0,0),10))∨(N*10 ^ 9<wholeN x y*10 ^ Q∧res=((0,0),10))∨(wholeN x y*10 ^ Q=N*10 ^ 9∧res=((x,y),0))))
theorem unit_nat (Q:Nat) (w:World) (h:Q≤1000):Calls Tryz.prog 108 #[.int .i64 (Q:Int)] w (DlPost (10 ^ Q) w):=by
 have:=unit_any (Q:Int) w (by omega) (by omega)
 rwa [Int.toNat_natCast]at this
theorem ten_nat (b:Nat) (v:Value) (n Q:Nat) (w:World) (h:World.dl w b v n) (hn:lenD n≤500) (hQ:Q≤1000):Calls Tryz.prog 89 #[v,.int .i64 (Q:Int)] w (DlPost (n*10 ^ Q) w):=by
 have:=ten_any b v n (Q:Int) w h hn (by omega) (by omega)
 rwa [Int.toNat_natCast]at this
theorem ten_nine (b:Nat) (v:Value) (n:Nat) (w:World) (h:World.dl w b v n) (hn:lenD n≤500):Calls Tryz.prog 89 #[v,.int .i64 9] w (DlPost (n*10 ^ 9) w):=ten_any b v n 9 w h hn (by omega) (by omega)
set_option maxRecDepth 100000 in
set_option maxHeartbeats 16000000 in
theorem rread_ga (s:ByteArray) (w:World) (hs:s.size≤4294967280) (sb:Bool) (f:Nat) (hp:PreB s sb f) (R:Nat) (hR:runL (s.data.toList.drop f)=R) (hpe:f+R=s.size) (r1:1≤R) (r40:R≤40) (N:Nat) (T res:(Int×Int)×Int)
 (hdig:∀K,1≤K→K≤R→K≠R+1→∀h:f+K-1<s.size,48≤(s[f+K-1]'h).toNat∧(s[f+K-1]'h).toNat≤57∧dg N (dK R 0 K)=((s[f+K-1]'h).toNat:Int)-48)
 (hNl:lenD N≤R+0) (hn:refQ sb N (10 ^ 0)=T) (hres:ReadRes N 0 T res):
 Calls Tryz.prog 53 #[.string s] w (DecPost res w):=by
 have CN:=fun (W:World) (v v':Value) (h:World.dl W (w.heap.size+1) v N) (h':World.dl W (w.heap.size+1) v' (10 ^ 0))=>near_any sb (w.heap.size+1) (w.heap.size+1) v v' N (10 ^ 0) W h h' (by omega) (by rw[pow_len];omega) (pow10_pos _)
 rw[hn]at CN
 have KN:=Lib.hid CN
 have HRES:=Lib.hid hres
 have HDIG:=Lib.hid hdig
 have HNL:=Lib.hid hNl
 have HTT:Hid (f+(R)=s.size):=by show _=_;omega
 clear CN hres hdig hNl hn
 obtain⟨p,hpp⟩:∃p,f+R=p:=⟨_,rfl⟩
 have hpI:(f:Int)+(R:Int)=(p:Int):=by omega
 have hRle:=runL_le (s.data.toList.drop f)
 rw[drop_len,hR]at hRle
 have hps:p≤s.size:=by omega
 have CR:=fun w=>figs_any s f w hs (by rcases hp with ⟨_,_,h⟩|⟨h,_,_,h2⟩|⟨h,_,_,h2⟩<;>omega)
 rw[hR]at CR
 have KR:=Lib.hid CR
 clear CR hR hRle
 have hlt:¬(p:Int)<(s.size:Int):=by omega
 have hlt2:(s.size:Int)≤(p:Int):=by omega
 have hpeb:((p:Int) != (s.size:Int))=false:=by rw[show p=s.size by omega];simp
 have HQE:Hid (p=s.size):=by show _=_;omega
 have HPP:=Lib.hid hpp
 clear hpp
 have hRI:¬(40:Int)<(R:Int):=by omega
 have hRJ:¬(R:Int)<1:=by omega
 have hsz0:(s.size:Int)≤4294967280:=by omega
 have hfs:f≤s.size:=by rcases hp with ⟨_,_,h⟩|⟨h,_,_,h2⟩|⟨h,_,_,h2⟩<;>omega
 have hfb:f=if sb=true then 1 else 0:=by rcases hp with ⟨_,h,h2⟩|⟨_,_,h,h2⟩|⟨_,_,h,h2⟩<;>rw[h,h2]<;>rfl
 have hs':=hs
 have HP:=Lib.hid hp
 have HFB:=Lib.hid hfb
 clear hp hfb
 go_enter Tryz.func53,Tryz.ntmps53
 go_upto_region 1 with fail
 obtain⟨W,hW⟩:∃W,W=w.alloc (.cells #[.int .i64 0,.int .i64 0] 23):=⟨_,rfl⟩
 rw[←hW]
 have d2:World.dec W w.heap.size 0 0:=by rw[hW];exact World.dec_new w 0 0 _ rfl
 have hB:Below w.heap.size w W:=by rw[hW];exact(Below.refl _ w).alloc (Nat.le_refl _) _
 have hsz:=hB.size
 clear hW
 go_cut [4] (fun v wc=>v= .bool sb∧wc=W)
 case first=>
  rcases HP.out with ⟨h,h2,_⟩|⟨h,h3,h2,_⟩|⟨h,h3,h2,_⟩
  ·have hI:(s.size:Int)=0:=by omega
   have hJ:¬(0:Int)<(s.size:Int):=by omega
   subst h2
   go_wp2_with fail
   go_meet
   case rel=>exact⟨rfl,rfl⟩
  ·have hI:(0:Int)<(s.size:Int):=by omega
   have hJ:(((s[0]'h).toNat:Int)==45)=true:=by rw[beq_iff_eq];omega
   have hK:(s[0]'h).toNat=45:=h3
   subst h2
   go_wp2_with fail
   go_meet
   case rel=>exact⟨rfl,rfl⟩
  ·have hI:(0:Int)<(s.size:Int):=by omega
   have hJ:(((s[0]'h).toNat:Int)==45)=false:=by rw[beq_eq_false_iff_ne];omega
   subst h2
   go_wp2_with fail
   go_meet
   case rel=>exact⟨rfl,rfl⟩
 case rest=>
 obtain⟨rfl,rfl⟩:=hcut
 go_upto_if 24 with fail
 go_cut [5] (fun v wx=>v= .int .i64 (f:Int)∧wx=wc)
 case first=>
  cases sb
  ·have hf0:(f:Int)=0:=by rw[HFB.out];rfl
   go_wp2_with fail
   go_meet
   case rel=>exact⟨by rw[hf0],rfl⟩
  ·have hf0:(f:Int)=1:=by rw[HFB.out];rfl
   go_wp2_with fail
   go_meet
   case rel=>exact⟨by rw[hf0],rfl⟩
 case rest=>
 obtain⟨rfl,rfl⟩:=hcut
 go_wp2_with fail
 refine(KR.out _).mono ?_
 rintro e' w1 ⟨rfl,hw1⟩
 subst hw1
 go_wp2_with fail
 go_loopw [9,10] (fun v i wr=>∃K:Nat,i= .int .i64 (((f+K:Nat):Int)-1)∧K≤R∧World.dr wr (w.heap.size+1) v N (dK R 0 K)∧World.dec wr w.heap.size 0 0∧Below w.heap.size w wr) (fun _ i _=>(intOf i+1).toNat)
 case atStart=>
  refine⟨R,?_,Nat.le_refl _,?_,d2,hB⟩
  ·have:=HTT.out
   have:=HQE.out
   rw[show f+(R)=p by omega]
  ·rw[show dK R 0 (R)=0 by unfold dK;split<;>omega];exact World.dr.nil _ _ _
 case round=>
  clear d2 hB hsz
  obtain⟨K,rfl,hK,hown,d2,hB⟩:=hrel
  have hsz:=hB.size
  cases K with
  |succ k=>
   obtain⟨j,hj⟩:∃j,f+k=j:=⟨_,rfl⟩
   have hjs:j<s.size:=by have:=HTT.out;omega
   rw[show (((f+(k+1):Nat):Int)-1)=(j:Int) by omega]
   have hjI:(j:Int)<(s.size:Int):=by omega
   have hjf:(f:Int)≤(j:Int):=by omega
   obtain⟨e0,e1,e2⟩:48≤(s[j]'hjs).toNat∧(s[j]'hjs).toNat≤57∧dg N (dK R 0 (k+1))=((s[j]'hjs).toNat:Int)-48:=by
    have:=HDIG.out (k+1) (by omega) hK (by omega) (by omega)
    have e:f+(k+1)-1=j:=by omega
    simpa only[e]using this
   have e0I:(48:Int)≤((s[j]'hjs).toNat:Int):=by omega
   have e1I:((s[j]'hjs).toNat:Int)≤57:=by omega
   have hne:(((s[j]'hjs).toNat:Int) != 46)=true:=by rw[bne_iff_ne];omega
   obtain⟨d,hd⟩:∃d:Int,((s[j]'hjs).toNat:Int)-48=d:=⟨_,rfl⟩
   have hd0:0≤d:=by omega
   have hd9:d≤9:=by omega
   have hmod:d%256=d:=by omega
   rw[hd]at e2
   have hdk:Hid (dK R 0 k=dK R 0 (k+1)+1):=by show _=_;unfold dK;(repeat' split)<;>omega
   have hdl:Hid (dK R 0 (k+1)≤100):=by show _≤_;unfold dK;split<;>omega
   have HE2:=Lib.hid e2
   have HJ:=Lib.hid hj
   obtain⟨m,hm⟩:∃m,dK R 0 (k+1)=m:=⟨_,rfl⟩
   rw[hm]at hown hdl HE2 hdk
   clear e2 hm hj
   have l2:=d2.lt
   go_wp2_with (at_builtin;refine wpList_push rfl _ _ rfl (w.heap.size+1) _ N m wr.heap.size d (hown.alloc _) (by have:=hdl.out;omega) rfl rfl (by simp) HE2.out.symm (by simp;omega) ?_;intro v' w2 hown2 hgrow)
   go_roundw
   case rel=>
    refine⟨k,by rw[HJ.out],by omega,?_,World.dec.below (d2.alloc _) hgrow (by omega),(hB.alloc hsz _).trans (hgrow.mono (by omega))⟩
    rw[hdk.out];exact hown2
   case measure=>first|(simp[intOf];done)|(simp[intOf];omega)
  |zero=>
   have hfe:(((f+0:Nat):Int)-1)=(f:Int)-1:=by omega
   rw[hfe]
   clear hfe
   rw[show dK R 0 0=R+0 by unfold dK;rw[if_pos (Nat.zero_le _)];omega]at hown
   go_wp2_with fail
   refine(cutd_any (w.heap.size+1) _ N (R+0) _ hown HNL.out (by omega)).mono ?_
   rintro e' w3 ⟨vn,rfl,hn,hw3⟩
   subst hw3
   clear hown
   go_wp2_with fail
   refine(unit_nat 0 _ (by omega)).mono ?_
   rintro e' w4 ⟨vu,rfl,hu,hB1⟩
   have hu:=hu.mono (show w.heap.size+1≤_ from d2.lt)
   have d2:=d2.below hB1 d2.lt
   have hn:=hn.below hB1
   have hB:=hB.trans (hB1.mono hB.size)
   have hsz:=hB.size
   clear hB1
   go_wp2_with fail
   refine(KN.out _ _ _ hn hu).mono ?_
   rintro e' w5 ⟨rfl,hB1⟩
   have d2:=d2.below hB1 d2.lt
   have hn:=hn.below hB1
   have hB:=hB.trans (hB1.mono hB.size)
   have hsz:=hB.size
   clear hB1 hu
   rcases HRES.out with ⟨hT,hr⟩|⟨x,y,hT,hx0,hr⟩
   ·subst hr
    rw[hT]
    have HT:=Lib.hid hT
    clear hT
    have d2:=d2.alloc (.cells #[.int .i64 0,.int .i64 0] 23)
    have hB:=hB.alloc hsz (.cells #[.int .i64 0,.int .i64 0] 23)
    have g0:=d2.c0
    have g1:=d2.c1
    have gf0:=d2.frozen 0
    have gf1:=d2.frozen 1
    go_wp2_with fail
    refine bodyPost_ret (results_dec_tmp rfl _ _ _ 0 0 rfl (World.dec.set1 (World.dec.set0 d2 0) 0)) rfl ?_
    exact⟨rfl,(hB.setCell (by simp) _).setCell (by simp) _⟩
   ·rw[hT]
    have HR2:=Lib.hid hr
    obtain⟨x0,x1,y0,y1,_⟩:=hx0
    simp only at x0 x1 y0 y1
    have CW:=fun w=>whole_any x y w (by omega) (by omega) y0 y1
    have lx:=wholeN_len (M:=x) (E:=y) (by rw[p15n];omega) y1
    obtain⟨X,hX⟩:∃X,wholeN x y=X:=⟨_,rfl⟩
    rw[hX]at CW lx HR2
    have KW:=Lib.hid CW
    have LX:=Lib.hid lx
    clear hr hT hX CW lx
    have l2:=d2.lt
    go_wp2_with fail
    obtain⟨W5,hW⟩:∃W,W=w5.alloc (.cells #[.int .i64 x,.int .i64 y] 23):=⟨_,rfl⟩
    rw[←hW]
    obtain⟨g,hg⟩:∃g,g=w5.heap.size:=⟨_,rfl⟩
    rw[←hg]
    have d5:World.dec W5 g x y:=by rw[hW];exact World.dec_new w5 _ _ _ hg
    have hB1:Below w5.heap.size w5 W5:=by rw[hW];exact(Below.refl _ _).alloc (Nat.le_refl _) _
    have hne:w.heap.size<g:=by omega
    clear hW hg l2
    have d2:=d2.below hB1 d2.lt
    have hn:=hn.below hB1
    have hB:=hB.trans (hB1.mono hB.size)
    have hsz:=hB.size
    clear hB1
    have a0:=d5.c0
    have a1:=d5.c1
    refine(KW.out _).mono ?_
    rintro e' w6 ⟨vx,rfl,hx,hB1⟩
    have hx:=hx.mono (show w.heap.size+1≤_ from d2.lt)
    have d2:=d2.below hB1 d2.lt
    have d5:=d5.below hB1 d5.lt
    have hn:=hn.below hB1
    have hB:=hB.trans (hB1.mono hB.size)
    have hsz:=hB.size
    clear hB1 a0 a1
    go_wp2_with fail
    refine(ten_nat (w.heap.size+1) vx X 0 _ hx (by have:=LX.out;omega) (by omega)).mono ?_
    rintro e' w7 ⟨va,rfl,ha,hB1⟩
    have ha:=ha.mono (show w.heap.size+1≤_ from d2.lt)
    have d2:=d2.below hB1 d2.lt
    have d5:=d5.below hB1 d5.lt
    have hn:=hn.below hB1
    have hB:=hB.trans (hB1.mono hB.size)
    have hsz:=hB.size
    clear hB1 hx
    go_wp2_with fail
    refine(ten_nine (w.heap.size+1) vn N _ hn (by have:=HNL.out;omega)).mono ?_
    rintro e' w8 ⟨vb,rfl,hb,hB1⟩
    have hb:=hb.mono (show w.heap.size+1≤_ from d2.lt)
    have d2:=d2.below hB1 d2.lt
    have d5:=d5.below hB1 d5.lt
    have ha:=ha.below hB1
    have hB:=hB.trans (hB1.mono hB.size)
    have hsz:=hB.size
    clear hB1 hn
    have la:lenD (X*10 ^ 0)≤73:=Nat.le_trans tens_len (by have:=LX.out;omega)
    have lb:lenD (N*10 ^ 9)≤89:=Nat.le_trans tens_len (by have:=HNL.out;omega)
    have HL1:=Lib.hid (less_below (w.heap.size+1) (w.heap.size+1) va vb (X*10 ^ 0) (N*10 ^ 9) w8 ha hb (by omega) (by omega))
    have HL2:=Lib.hid (fun (w9:World) (ha:World.dl w9 (w.heap.size+1) va (X*10 ^ 0)) (hb:World.dl w9 (w.heap.size+1) vb (N*10 ^ 9))=>less_below (w.heap.size+1) (w.heap.size+1) vb va (N*10 ^ 9) (X*10 ^ 0) w9 hb ha (by omega) (by omega))
    obtain⟨Xa,hXa⟩:∃Z,X*10 ^ 0=Z:=⟨_,rfl⟩
    obtain⟨Nb,hNb⟩:∃Z,N*10 ^ 9=Z:=⟨_,rfl⟩
    rw[hXa]at ha HL1 HL2 HR2
    rw[hNb]at hb HL1 HL2 HR2
    clear la lb hXa hNb
    go_wp2_with fail
    rcases HR2.out with ⟨h,hr⟩|⟨h,hr⟩|⟨h,hr⟩
    ·subst hr
     have HC:=Lib.hid h
     clear h
     rw[show decide (Xa<Nb)=true from decide_eq_true HC.out]at HL1
     refine HL1.out.mono ?_
     rintro e' w9 ⟨rfl,hB1⟩
     have d2:=d2.below hB1 d2.lt
     have d5:=d5.below hB1 d5.lt
     have ha:=ha.below hB1
     have hb:=hb.below hB1
     have hB:=hB.trans (hB1.mono hB.size)
     have hsz:=hB.size
     clear hB1
     have g0:=d2.c0
     have g1:=d2.c1
     have gf0:=d2.frozen 0
     have gf1:=d2.frozen 1
     have a0:=d5.c0
     have a1:=d5.c1
     go_wp2_with fail
     refine bodyPost_ret (results_dec_tmp rfl _ _ _ _ _ rfl (World.dec.set1 (World.dec.set0 d2 0) 0)) rfl ?_
     exact⟨rfl,(hB.setCell (by simp) _).setCell (by simp) _⟩
    ·subst hr
     have HC:=Lib.hid h
     clear h
     rw[show decide (Xa<Nb)=false from decide_eq_false (by have:=HC.out;omega)]at HL1
     refine HL1.out.mono ?_
     rintro e' w9 ⟨rfl,hB1⟩
     have d2:=d2.below hB1 d2.lt
     have d5:=d5.below hB1 d5.lt
     have ha:=ha.below hB1
     have hb:=hb.below hB1
     have hB:=hB.trans (hB1.mono hB.size)
     have hsz:=hB.size
     clear hB1
     go_wp2_with fail
     rw[show decide (Nb<Xa)=true from decide_eq_true HC.out]at HL2
     refine(HL2.out _ ha hb).mono ?_
     rintro e' w10 ⟨rfl,hB1⟩
     have d2:=d2.below hB1 d2.lt
     have d5:=d5.below hB1 d5.lt
     have hB:=hB.trans (hB1.mono hB.size)
     have hsz:=hB.size
     clear hB1
     have g0:=d2.c0
     have g1:=d2.c1
     have gf0:=d2.frozen 0
     have gf1:=d2.frozen 1
     have a0:=d5.c0
     have a1:=d5.c1
     go_wp2_with fail
     refine bodyPost_ret (results_dec_tmp rfl _ _ _ _ _ rfl (World.dec.set1 (World.dec.set0 d2 0) 0)) rfl ?_
     exact⟨rfl,(hB.setCell (by simp) _).setCell (by simp) _⟩
    ·subst hr
     have HC:=Lib.hid h
     clear h
     rw[show decide (Xa<Nb)=false from decide_eq_false (by have:=HC.out;omega)]at HL1
     refine HL1.out.mono ?_
     rintro e' w9 ⟨rfl,hB1⟩
     have d2:=d2.below hB1 d2.lt
     have d5:=d5.below hB1 d5.lt
     have ha:=ha.below hB1
     have hb:=hb.below hB1
     have hB:=hB.trans (hB1.mono hB.size)
     have hsz:=hB.size
     clear hB1
     go_wp2_with fail
     rw[show decide (Nb<Xa)=false from decide_eq_false (by have:=HC.out;omega)]at HL2
     refine(HL2.out _ ha hb).mono ?_
     rintro e' w10 ⟨rfl,hB1⟩
     have d2:=d2.below hB1 d2.lt
     have d5:=d5.below hB1 d5.lt
     have hB:=hB.trans (hB1.mono hB.size)
     have hsz:=hB.size
     clear hB1
     have g0:=d2.c0
     have g1:=d2.c1
     have gf0:=d2.frozen 0
     have gf1:=d2.frozen 1
     have a0:=d5.c0
     have a1:=d5.c1
     go_wp2_with fail
     refine bodyPost_ret (results_dec_tmp rfl _ _ _ _ _ rfl (World.dec.set1 (World.dec.set0 d2 x) y)) rfl ?_
     exact⟨rfl,(hB.setCell (by simp) _).setCell (by simp) _⟩
set_option maxRecDepth 100000 in
set_option maxHeartbeats 16000000 in
theorem rread_gd (s:ByteArray) (w:World) (hs:s.size≤4294967280) (sb:Bool) (f:Nat) (hp:PreB s sb f) (R:Nat) (hR:runL (s.data.toList.drop f)=R) (Q:Nat) (hQ:runL (s.data.toList.drop (f+R+1))=Q) (hpl:f+R<s.size) (hc:(s[f+R]'hpl).toNat=46) (q1:1≤Q) (q40:Q≤40) (hT:f+R+1+Q=s.size) (r1:1≤R) (r40:R≤40) (N:Nat) (T res:(Int×Int)×Int)
 (hdig:∀K,1≤K→K≤R+1+Q→K≠R+1→∀h:f+K-1<s.size,48≤(s[f+K-1]'h).toNat∧(s[f+K-1]'h).toNat≤57∧dg N (dK R Q K)=((s[f+K-1]'h).toNat:Int)-48)
 (hNl:lenD N≤R+Q) (hn:refQ sb N (10 ^ Q)=T) (hres:ReadRes N Q T res):
 Calls Tryz.prog 53 #[.string s] w (DecPost res w):=by
 have CN:=fun (W:World) (v v':Value) (h:World.dl W (w.heap.size+1) v N) (h':World.dl W (w.heap.size+1) v' (10 ^ Q))=>near_any sb (w.heap.size+1) (w.heap.size+1) v v' N (10 ^ Q) W h h' (by omega) (by rw[pow_len];omega) (pow10_pos _)
 rw[hn]at CN
 have KN:=Lib.hid CN
 have HRES:=Lib.hid hres
 have HDIG:=Lib.hid hdig
 have HNL:=Lib.hid hNl
 have HTT:Hid (f+(R+1+Q)=s.size):=by show _=_;omega
 clear CN hres hdig hNl hn
 obtain⟨p,hpp⟩:∃p,f+R=p:=⟨_,rfl⟩
 have hpI:(f:Int)+(R:Int)=(p:Int):=by omega
 have hRle:=runL_le (s.data.toList.drop f)
 rw[drop_len,hR]at hRle
 have hps:p≤s.size:=by omega
 have CR:=fun w=>figs_any s f w hs (by rcases hp with ⟨_,_,h⟩|⟨h,_,_,h2⟩|⟨h,_,_,h2⟩<;>omega)
 rw[hR]at CR
 have KR:=Lib.hid CR
 clear CR hR hRle
 have hlt:p<s.size:=by omega
 have hltI:(p:Int)<(s.size:Int):=by omega
 have hcI:(((s[p]'hlt).toNat:Int)==46)=true:=by subst hpp;rw[beq_iff_eq];omega
 have hcN:(s[p]'hlt).toNat=46:=by subst hpp;exact hc
 have hQ2:runL (s.data.toList.drop (p+1))=Q:=by subst hpp;exact hQ
 have CQ:∀m:Int,m=(p:Int)+1→∀w,Calls Tryz.prog 106 #[.string s,.int .i64 m] w fun e w'=>e= .returned (.int .i64 (Q:Int))∧w'=w:=by
  rintro _ rfl w
  have:=figs_any s (p+1) w hs (by omega)
  rw[hQ2]at this
  exact this
 have hQle:=runL_le (s.data.toList.drop (p+1))
 rw[drop_len,hQ2]at hQle
 have KQ:=Lib.hid CQ
 have hQb:(Q:Int)≤4294967280:=by omega
 obtain⟨q,hq⟩:∃q,p+1+Q=q:=⟨_,rfl⟩
 have hqI:(p:Int)+1+(Q:Int)=(q:Int):=by omega
 have hqs:q≤s.size:=by omega
 clear hc hQ hQ2 hQle CQ
 have hQI:((Q:Int)==0)=false:=by rw[beq_eq_false_iff_ne];omega
 have hqe:q=s.size:=by omega
 have hqeb:((q:Int) != (s.size:Int))=false:=by rw[hqe];simp
 have hQ4:¬(40:Int)<(Q:Int):=by omega
 have HQE:=Lib.hid hqe
 have HPP:=Lib.hid hpp
 clear hpp hq hqe
 have hRI:¬(40:Int)<(R:Int):=by omega
 have hRJ:¬(R:Int)<1:=by omega
 have hsz0:(s.size:Int)≤4294967280:=by omega
 have hfs:f≤s.size:=by rcases hp with ⟨_,_,h⟩|⟨h,_,_,h2⟩|⟨h,_,_,h2⟩<;>omega
 have hfb:f=if sb=true then 1 else 0:=by rcases hp with ⟨_,h,h2⟩|⟨_,_,h,h2⟩|⟨_,_,h,h2⟩<;>rw[h,h2]<;>rfl
 have hs':=hs
 have HP:=Lib.hid hp
 have HFB:=Lib.hid hfb
 clear hp hfb
 go_enter Tryz.func53,Tryz.ntmps53
 go_upto_region 1 with fail
 obtain⟨W,hW⟩:∃W,W=w.alloc (.cells #[.int .i64 0,.int .i64 0] 23):=⟨_,rfl⟩
 rw[←hW]
 have d2:World.dec W w.heap.size 0 0:=by rw[hW];exact World.dec_new w 0 0 _ rfl
 have hB:Below w.heap.size w W:=by rw[hW];exact(Below.refl _ w).alloc (Nat.le_refl _) _
 have hsz:=hB.size
 clear hW
 go_cut [4] (fun v wc=>v= .bool sb∧wc=W)
 case first=>
  rcases HP.out with ⟨h,h2,_⟩|⟨h,h3,h2,_⟩|⟨h,h3,h2,_⟩
  ·have hI:(s.size:Int)=0:=by omega
   have hJ:¬(0:Int)<(s.size:Int):=by omega
   subst h2
   go_wp2_with fail
   go_meet
   case rel=>exact⟨rfl,rfl⟩
  ·have hI:(0:Int)<(s.size:Int):=by omega
   have hJ:(((s[0]'h).toNat:Int)==45)=true:=by rw[beq_iff_eq];omega
   have hK:(s[0]'h).toNat=45:=h3
   subst h2
   go_wp2_with fail
   go_meet
   case rel=>exact⟨rfl,rfl⟩
  ·have hI:(0:Int)<(s.size:Int):=by omega
   have hJ:(((s[0]'h).toNat:Int)==45)=false:=by rw[beq_eq_false_iff_ne];omega
   subst h2
   go_wp2_with fail
   go_meet
   case rel=>exact⟨rfl,rfl⟩
 case rest=>
 obtain⟨rfl,rfl⟩:=hcut
 go_upto_if 24 with fail
 go_cut [5] (fun v wx=>v= .int .i64 (f:Int)∧wx=wc)
 case first=>
  cases sb
  ·have hf0:(f:Int)=0:=by rw[HFB.out];rfl
   go_wp2_with fail
   go_meet
   case rel=>exact⟨by rw[hf0],rfl⟩
  ·have hf0:(f:Int)=1:=by rw[HFB.out];rfl
   go_wp2_with fail
   go_meet
   case rel=>exact⟨by rw[hf0],rfl⟩
 case rest=>
 obtain⟨rfl,rfl⟩:=hcut
 go_wp2_with fail
 refine(KR.out _).mono ?_
 rintro e' w1 ⟨rfl,hw1⟩
 subst hw1
 go_wp2_with fail
 refine(KQ.out _ rfl _).mono ?_
 rintro e' w1 ⟨rfl,hw1⟩
 subst hw1
 go_wp2_with fail
 go_loopw [9,10] (fun v i wr=>∃K:Nat,i= .int .i64 (((f+K:Nat):Int)-1)∧K≤R+1+Q∧World.dr wr (w.heap.size+1) v N (dK R Q K)∧World.dec wr w.heap.size 0 0∧Below w.heap.size w wr) (fun _ i _=>(intOf i+1).toNat)
 case atStart=>
  refine⟨R+1+Q,?_,Nat.le_refl _,?_,d2,hB⟩
  ·have:=HTT.out
   have:=HQE.out
   rw[show f+(R+1+Q)=q by omega]
  ·rw[show dK R Q (R+1+Q)=0 by unfold dK;split<;>omega];exact World.dr.nil _ _ _
 case round=>
  clear d2 hB hsz
  obtain⟨K,rfl,hK,hown,d2,hB⟩:=hrel
  have hsz:=hB.size
  cases K with
  |succ k=>
   obtain⟨j,hj⟩:∃j,f+k=j:=⟨_,rfl⟩
   have hjs:j<s.size:=by have:=HTT.out;omega
   rw[show (((f+(k+1):Nat):Int)-1)=(j:Int) by omega]
   have hjI:(j:Int)<(s.size:Int):=by omega
   have hjf:(f:Int)≤(j:Int):=by omega
   by_cases ck:k=R
   ·subst ck
    have hne:(((s[j]'hjs).toNat:Int) != 46)=false:=by
     have e:j=p:=by have:=HPP.out;omega
     subst e
     rw[show (s[j]'hjs).toNat=46 from hcN];rfl
    have hdk:dK k Q (k+1)=dK k Q k:=by unfold dK;rw[if_neg (by omega),if_pos (Nat.le_refl _)];omega
    rw[hdk]at hown
    have HJ:=Lib.hid hj
    clear hdk hj
    go_wp2_with fail
    go_roundw
    case rel=>exact⟨k,by rw[HJ.out],by omega,hown,d2,hB⟩
    case measure=>first|(simp[intOf];done)|(simp[intOf];omega)
   ·obtain⟨e0,e1,e2⟩:48≤(s[j]'hjs).toNat∧(s[j]'hjs).toNat≤57∧dg N (dK R Q (k+1))=((s[j]'hjs).toNat:Int)-48:=by
     have:=HDIG.out (k+1) (by omega) hK (by omega) (by omega)
     have e:f+(k+1)-1=j:=by omega
     simpa only[e]using this
    have e0I:(48:Int)≤((s[j]'hjs).toNat:Int):=by omega
    have e1I:((s[j]'hjs).toNat:Int)≤57:=by omega
    have hne:(((s[j]'hjs).toNat:Int) != 46)=true:=by rw[bne_iff_ne];omega
    obtain⟨d,hd⟩:∃d:Int,((s[j]'hjs).toNat:Int)-48=d:=⟨_,rfl⟩
    have hd0:0≤d:=by omega
    have hd9:d≤9:=by omega
    have hmod:d%256=d:=by omega
    rw[hd]at e2
    have hdk:Hid (dK R Q k=dK R Q (k+1)+1):=by show _=_;unfold dK;(repeat' split)<;>omega
    have hdl:Hid (dK R Q (k+1)≤100):=by show _≤_;unfold dK;split<;>omega
    have HE2:=Lib.hid e2
    have HJ:=Lib.hid hj
    obtain⟨m,hm⟩:∃m,dK R Q (k+1)=m:=⟨_,rfl⟩
    rw[hm]at hown hdl HE2 hdk
    clear e2 hm hj
    have l2:=d2.lt
    go_wp2_with (at_builtin;refine wpList_push rfl _ _ rfl (w.heap.size+1) _ N m wr.heap.size d (hown.alloc _) (by have:=hdl.out;omega) rfl rfl (by simp) HE2.out.symm (by simp;omega) ?_;intro v' w2 hown2 hgrow)
    go_roundw
    case rel=>
     refine⟨k,by rw[HJ.out],by omega,?_,World.dec.below (d2.alloc _) hgrow (by omega),(hB.alloc hsz _).trans (hgrow.mono (by omega))⟩
     rw[hdk.out];exact hown2
    case measure=>first|(simp[intOf];done)|(simp[intOf];omega)
  |zero=>
   have hfe:(((f+0:Nat):Int)-1)=(f:Int)-1:=by omega
   rw[hfe]
   clear hfe
   rw[show dK R Q 0=R+Q by unfold dK;rw[if_pos (Nat.zero_le _)];omega]at hown
   go_wp2_with fail
   refine(cutd_any (w.heap.size+1) _ N (R+Q) _ hown HNL.out (by omega)).mono ?_
   rintro e' w3 ⟨vn,rfl,hn,hw3⟩
   subst hw3
   clear hown
   go_wp2_with fail
   refine(unit_nat Q _ (by omega)).mono ?_
   rintro e' w4 ⟨vu,rfl,hu,hB1⟩
   have hu:=hu.mono (show w.heap.size+1≤_ from d2.lt)
   have d2:=d2.below hB1 d2.lt
   have hn:=hn.below hB1
   have hB:=hB.trans (hB1.mono hB.size)
   have hsz:=hB.size
   clear hB1
   go_wp2_with fail
   refine(KN.out _ _ _ hn hu).mono ?_
   rintro e' w5 ⟨rfl,hB1⟩
   have d2:=d2.below hB1 d2.lt
   have hn:=hn.below hB1
   have hB:=hB.trans (hB1.mono hB.size)
   have hsz:=hB.size
   clear hB1 hu
   rcases HRES.out with ⟨hT,hr⟩|⟨x,y,hT,hx0,hr⟩
   ·subst hr
    rw[hT]
    have HT:=Lib.hid hT
    clear hT
    have d2:=d2.alloc (.cells #[.int .i64 0,.int .i64 0] 23)
    have hB:=hB.alloc hsz (.cells #[.int .i64 0,.int .i64 0] 23)
    have g0:=d2.c0
    have g1:=d2.c1
    have gf0:=d2.frozen 0
    have gf1:=d2.frozen 1
    go_wp2_with fail
    refine bodyPost_ret (results_dec_tmp rfl _ _ _ 0 0 rfl (World.dec.set1 (World.dec.set0 d2 0) 0)) rfl ?_
    exact⟨rfl,(hB.setCell (by simp) _).setCell (by simp) _⟩
   ·rw[hT]
    have HR2:=Lib.hid hr
    obtain⟨x0,x1,y0,y1,_⟩:=hx0
    simp only at x0 x1 y0 y1
    have CW:=fun w=>whole_any x y w (by omega) (by omega) y0 y1
    have lx:=wholeN_len (M:=x) (E:=y) (by rw[p15n];omega) y1
    obtain⟨X,hX⟩:∃X,wholeN x y=X:=⟨_,rfl⟩
    rw[hX]at CW lx HR2
    have KW:=Lib.hid CW
    have LX:=Lib.hid lx
    clear hr hT hX CW lx
    have l2:=d2.lt
    go_wp2_with fail
    obtain⟨W5,hW⟩:∃W,W=w5.alloc (.cells #[.int .i64 x,.int .i64 y] 23):=⟨_,rfl⟩
    rw[←hW]
    obtain⟨g,hg⟩:∃g,g=w5.heap.size:=⟨_,rfl⟩
    rw[←hg]
    have d5:World.dec W5 g x y:=by rw[hW];exact World.dec_new w5 _ _ _ hg
    have hB1:Below w5.heap.size w5 W5:=by rw[hW];exact(Below.refl _ _).alloc (Nat.le_refl _) _
    have hne:w.heap.size<g:=by omega
    clear hW hg l2
    have d2:=d2.below hB1 d2.lt
    have hn:=hn.below hB1
    have hB:=hB.trans (hB1.mono hB.size)
    have hsz:=hB.size
    clear hB1
    have a0:=d5.c0
    have a1:=d5.c1
    refine(KW.out _).mono ?_
    rintro e' w6 ⟨vx,rfl,hx,hB1⟩
    have hx:=hx.mono (show w.heap.size+1≤_ from d2.lt)
    have d2:=d2.below hB1 d2.lt
    have d5:=d5.below hB1 d5.lt
    have hn:=hn.below hB1
    have hB:=hB.trans (hB1.mono hB.size)
    have hsz:=hB.size
    clear hB1 a0 a1
    go_wp2_with fail
    refine(ten_nat (w.heap.size+1) vx X Q _ hx (by have:=LX.out;omega) (by omega)).mono ?_
    rintro e' w7 ⟨va,rfl,ha,hB1⟩
    have ha:=ha.mono (show w.heap.size+1≤_ from d2.lt)
    have d2:=d2.below hB1 d2.lt
    have d5:=d5.below hB1 d5.lt
    have hn:=hn.below hB1
    have hB:=hB.trans (hB1.mono hB.size)
    have hsz:=hB.size
    clear hB1 hx
    go_wp2_with fail
    refine(ten_nine (w.heap.size+1) vn N _ hn (by have:=HNL.out;omega)).mono ?_
    rintro e' w8 ⟨vb,rfl,hb,hB1⟩
    have hb:=hb.mono (show w.heap.size+1≤_ from d2.lt)
    have d2:=d2.below hB1 d2.lt
    have d5:=d5.below hB1 d5.lt
    have ha:=ha.below hB1
    have hB:=hB.trans (hB1.mono hB.size)
    have hsz:=hB.size
    clear hB1 hn
    have la:lenD (X*10 ^ Q)≤73:=Nat.le_trans tens_len (by have:=LX.out;omega)
    have lb:lenD (N*10 ^ 9)≤89:=Nat.le_trans tens_len (by have:=HNL.out;omega)
    have HL1:=Lib.hid (less_below (w.heap.size+1) (w.heap.size+1) va vb (X*10 ^ Q) (N*10 ^ 9) w8 ha hb (by omega) (by omega))
    have HL2:=Lib.hid (fun (w9:World) (ha:World.dl w9 (w.heap.size+1) va (X*10 ^ Q)) (hb:World.dl w9 (w.heap.size+1) vb (N*10 ^ 9))=>less_below (w.heap.size+1) (w.heap.size+1) vb va (N*10 ^ 9) (X*10 ^ Q) w9 hb ha (by omega) (by omega))
    obtain⟨Xa,hXa⟩:∃Z,X*10 ^ Q=Z:=⟨_,rfl⟩
    obtain⟨Nb,hNb⟩:∃Z,N*10 ^ 9=Z:=⟨_,rfl⟩
    rw[hXa]at ha HL1 HL2 HR2
    rw[hNb]at hb HL1 HL2 HR2
    clear la lb hXa hNb
    go_wp2_with fail
    rcases HR2.out with ⟨h,hr⟩|⟨h,hr⟩|⟨h,hr⟩
    ·subst hr
     have HC:=Lib.hid h
     clear h
     rw[show decide (Xa<Nb)=true from decide_eq_true HC.out]at HL1
     refine HL1.out.mono ?_
     rintro e' w9 ⟨rfl,hB1⟩
     have d2:=d2.below hB1 d2.lt
     have d5:=d5.below hB1 d5.lt
     have ha:=ha.below hB1
     have hb:=hb.below hB1
     have hB:=hB.trans (hB1.mono hB.size)
     have hsz:=hB.size
     clear hB1
     have g0:=d2.c0
     have g1:=d2.c1
     have gf0:=d2.frozen 0
     have gf1:=d2.frozen 1
     have a0:=d5.c0
     have a1:=d5.c1
     go_wp2_with fail
     refine bodyPost_ret (results_dec_tmp rfl _ _ _ _ _ rfl (World.dec.set1 (World.dec.set0 d2 0) 0)) rfl ?_
     exact⟨rfl,(hB.setCell (by simp) _).setCell (by simp) _⟩
    ·subst hr
     have HC:=Lib.hid h
     clear h
     rw[show decide (Xa<Nb)=false from decide_eq_false (by have:=HC.out;omega)]at HL1
     refine HL1.out.mono ?_
     rintro e' w9 ⟨rfl,hB1⟩
     have d2:=d2.below hB1 d2.lt
     have d5:=d5.below hB1 d5.lt
     have ha:=ha.below hB1
     have hb:=hb.below hB1
     have hB:=hB.trans (hB1.mono hB.size)
     have hsz:=hB.size
     clear hB1
     go_wp2_with fail
     rw[show decide (Nb<Xa)=true from decide_eq_true HC.out]at HL2
     refine(HL2.out _ ha hb).mono ?_
     rintro e' w10 ⟨rfl,hB1⟩
     have d2:=d2.below hB1 d2.lt
     have d5:=d5.below hB1 d5.lt
     have hB:=hB.trans (hB1.mono hB.size)
     have hsz:=hB.size
     clear hB1
     have g0:=d2.c0
     have g1:=d2.c1
     have gf0:=d2.frozen 0
     have gf1:=d2.frozen 1
     have a0:=d5.c0
     have a1:=d5.c1
     go_wp2_with fail
     refine bodyPost_ret (results_dec_tmp rfl _ _ _ _ _ rfl (World.dec.set1 (World.dec.set0 d2 0) 0)) rfl ?_
     exact⟨rfl,(hB.setCell (by simp) _).setCell (by simp) _⟩
    ·subst hr
     have HC:=Lib.hid h
     clear h
     rw[show decide (Xa<Nb)=false from decide_eq_false (by have:=HC.out;omega)]at HL1
     refine HL1.out.mono ?_
     rintro e' w9 ⟨rfl,hB1⟩
     have d2:=d2.below hB1 d2.lt
     have d5:=d5.below hB1 d5.lt
     have ha:=ha.below hB1
     have hb:=hb.below hB1
     have hB:=hB.trans (hB1.mono hB.size)
     have hsz:=hB.size
     clear hB1
     go_wp2_with fail
     rw[show decide (Nb<Xa)=false from decide_eq_false (by have:=HC.out;omega)]at HL2
     refine(HL2.out _ ha hb).mono ?_
     rintro e' w10 ⟨rfl,hB1⟩
     have d2:=d2.below hB1 d2.lt
     have d5:=d5.below hB1 d5.lt
     have hB:=hB.trans (hB1.mono hB.size)
     have hsz:=hB.size
     clear hB1
     have g0:=d2.c0
     have g1:=d2.c1
     have gf0:=d2.frozen 0
     have gf1:=d2.frozen 1
     have a0:=d5.c0
     have a1:=d5.c1
     go_wp2_with fail
     refine bodyPost_ret (results_dec_tmp rfl _ _ _ _ _ rfl (World.dec.set1 (World.dec.set0 d2 x) y)) rfl ?_
     exact⟨rfl,(hB.setCell (by simp) _).setCell (by simp) _⟩
theorem readRes_of (sb:Bool) {A B:List UInt8} (hA:figB A=true) (hB:B= []∨figB B=true):ReadRes (valW (A++B)) B.length (near sb (readN A B) false) (readR sb (readN A B)):=by
 rcases near_two sb (readN A B)with h|h
 ·obtain⟨⟨x,y⟩,hp⟩:∃p,near sb (readN A B) false=(p,0):=⟨_,Prod.ext rfl h⟩
  have hR:=near_right hp
  have hs:=read_same (A:=A) (B:=B) hR hA hB
  right
  refine⟨x,y,hp,hR,?_⟩
  simp only at hs
  rcases Nat.lt_trichotomy (wholeN x y*10 ^ B.length) (valW (A++B)*10 ^ 9)with c|c|c
  ·exact .inl ⟨c,readR_no hp (by rw[hs];exact decide_eq_false (by omega))⟩
  ·exact .inr (.inr ⟨c,readR_yes hp (by rw[hs];exact decide_eq_true c)⟩)
  ·exact .inr (.inl ⟨c,readR_no hp (by rw[hs];exact decide_eq_false (by omega))⟩)
 ·exact .inl ⟨h,readR_bad h⟩
theorem val_len {C:List UInt8} (h:C.all (fun c=>digS.contains c)=true):lenD (valW C)≤C.length:=(lenD_iff _ _).2 (valW_lt C h)
theorem figB_no {B:List UInt8} (h:figB B=true):1≤runL B∧runL B≤40∧runL B=B.length:=by
 obtain⟨a,b,c⟩:=figB_iff h
 have:=(runL_all B).2 c
 omega
theorem rread_any (s:ByteArray) (w:World) (hs:s.size≤4294967280):
 Calls Tryz.prog 53 #[.string s] w (DecPost (readD s.data.toList) w):=by
 obtain⟨sb,f,hp,hS,hT,hf⟩:∃sb f,PreB s sb f∧readS s.data.toList=sb∧Lib.trimPrefix s.data.toList [45]=s.data.toList.drop f∧f≤s.size:=by
  rcases pre_three s with ⟨a,b,c⟩|⟨a,b,c,d⟩|⟨a,b,c,d⟩
  ·exact⟨false,0,.inl ⟨a,rfl,rfl⟩,b,c,by omega⟩
  ·exact⟨true,1,.inr (.inl ⟨a,b,rfl,rfl⟩),c,d,by omega⟩
  ·exact⟨false,0,.inr (.inr ⟨a,b,rfl,rfl⟩),c,d,by omega⟩
 obtain⟨R,hR⟩:∃R,runL (s.data.toList.drop f)=R:=⟨_,rfl⟩
 have hle:=runL_le (s.data.toList.drop f)
 rw[drop_len,hR]at hle
 by_cases hE:f+R=s.size
 ·have h1:=readD_all (l:=s.data.toList) (by rw[hT,hR,drop_len];omega)
  rw[hT,hR,hS]at h1
  by_cases c1:R<1
  ·rw[h1,if_neg (by omega)];exact rread_b1 s w hs sb f hp R hR hE c1
  ·by_cases c2:40<R
   ·rw[h1,if_neg (by omega)];exact rread_b2 s w hs sb f hp R hR hE c2
   ·rw[if_pos (by omega)]at h1
    have ha:=(runL_all (s.data.toList.drop f)).1 (by rw[hR,drop_len];omega)
    have hl:(s.data.toList.drop f).length=R:=by rw[drop_len];omega
    have hA:figB (s.data.toList.drop f)=true:=figB_mk (by omega) (by omega) ha
    have hres:=readRes_of sb (B:= []) hA (.inl rfl)
    have hn:=read_near sb (A:=s.data.toList.drop f) (B:= []) (by decide)
    rw[List.append_nil]at hres hn
    rw[h1]
    exact rread_ga s w hs sb f hp R hR hE (by omega) (by omega) _ _ _ (digits_all s f R hR hE) (by have:=val_len ha;omega) hn hres
 ·have hlt:f+R<s.size:=by omega
  have h2:R<(s.data.toList.drop f).length:=by rw[drop_len];omega
  by_cases hc:(s[f+R]'hlt).toNat=46
  ·obtain⟨Q,hQ⟩:∃Q,runL (s.data.toList.drop (f+R+1))=Q:=⟨_,rfl⟩
   have hQle:=runL_le (s.data.toList.drop (f+R+1))
   have hlB:(s.data.toList.drop (f+R+1)).length=s.size-(f+R+1):=drop_len _ _
   have hA:=run_take (s.data.toList.drop f)
   rw[hR]at hA
   have hlA:((s.data.toList.drop f).take R).length=R:=by rw[List.length_take];omega
   have hsplit:Lib.trimPrefix s.data.toList [45]=(s.data.toList.drop f).take R++46 :: s.data.toList.drop (f+R+1):=by
    have h1:=(List.take_append_drop R (s.data.toList.drop f)).symm
    have hc2:(s.data.toList.drop f)[R]'h2=46:=by
     rw[at_list s f R hlt h2];exact UInt8.toNat_inj.1 hc
    rw[List.drop_eq_getElem_cons h2,hc2,List.drop_drop]at h1
    rw[hT];exact h1
   have hD:=readD_dot hsplit hA
   rw[hlA,hS]at hD
   by_cases hok:(1≤R∧R≤40)∧figB (s.data.toList.drop (f+R+1))=true
   ·rw[if_pos hok]at hD
    obtain⟨b1,b2,b3⟩:=figB_no hok.2
    rw[hQ]at b1 b2 b3
    obtain⟨_,_,_,e4,e5,e6⟩:=digits_dot s f R Q hR hQ (by omega) (fun _=>hc)
    have hfA:figB ((s.data.toList.drop f).take R)=true:=figB_mk (by omega) (by omega) hA
    have hres:=readRes_of sb (B:=s.data.toList.drop (f+R+1)) hfA (.inr hok.2)
    have hn:=read_near sb (A:=(s.data.toList.drop f).take R) (B:=s.data.toList.drop (f+R+1)) (by omega)
    rw[←b3]at hres hn
    have hv:=val_len (C:=(s.data.toList.drop f).take R++s.data.toList.drop (f+R+1)) (by rw[List.all_append,hA,e4];rfl)
    rw[List.length_append,hlA,←b3]at hv
    rw[hD]
    exact rread_gd s w hs sb f hp R hR Q hQ hlt hc b1 b2 (by omega) hok.1.1 hok.1.2 _ _ _ e6 hv hn hres
   ·rw[if_neg hok]at hD
    rw[hD]
    by_cases c0:Q=0
    ·exact rread_b4 s w hs sb f hp R hR hlt hc Q hQ c0
    ·refine rread_b5 s w hs sb f hp R hR hlt hc Q hQ (by omega) ?_
     refine Classical.byContradiction fun hn=>hok ⟨by omega,?_⟩
     exact figB_mk (by omega) (by omega) ((runL_all _).1 (by rw[hQ];omega))
  ·have hD:=readD_odd (l:=s.data.toList) (by rw[hT,hR];exact h2) (by
    simp only[hT,hR]
    rw[at_list s f R hlt h2];exact hc)
   rw[hD]
   exact rread_b3 s w hs sb f hp R hR hlt hc
end Go.Proofs.YtkhohjdakcchdaaGreatDoor
