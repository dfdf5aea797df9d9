/- More of the decimals' theory. -/
import Derived.Test.YtmhfioimgllgeaaGreatDoorR21
import Derived.Test.YtmhfioimgllgeaaGreatDoorR14
import Derived.Test.YtmhfioimgllgeaaGreatDoorR12
import Derived.Test.YtmhfioimgllgeaaGreatDoorR08
import Derived.Test.YtmhfioimgllgeaaGreatDoorR05
import Derived.Deep.DeepCutAuto
import Derived.RegionTactic
import Derived.ChangeAlike
namespace Go.Proofs.YtmhfioimgllgeaaGreatDoor
open Go.RowKit Go.Shelf
def runD (D hi:Nat):Nat→List UInt8
 |0=> []
 |n+1=>runD D hi n++ [UInt8.ofNat (48+D / 10 ^ (hi-n)%10)]
theorem runD_len (D hi:Nat):∀n,(runD D hi n).length=n
 |0=>rfl
 |n+1=>by rw[runD,List.length_append,runD_len D hi n];rfl
theorem runD_all (D hi:Nat):∀n,(runD D hi n).all (fun c=>digS.contains c)=true
 |0=>rfl
 |n+1=>by
  rw[runD,List.all_append,runD_all D hi n,List.all_cons,(dig_is _ (Nat.mod_lt _ (by decide))).1];rfl
theorem runD_val (D hi:Nat):∀n,n≤hi+1→valW (runD D hi n)=D / 10 ^ (hi+1-n)%10 ^ n
 |0,_=>by rw[runD,valW,Nat.pow_zero,Nat.mod_one]
 |n+1,h=>by
  rw[runD,valW_snoc,runD_val D hi n (by omega),(dig_is _ (Nat.mod_lt _ (by decide))).2,show hi+1-(n+1)=hi-n by omega,show hi+1-n=(hi-n)+1 by omega,Nat.pow_succ 10 (hi-n),←Nat.div_div_eq_div_mul,Nat.pow_succ 10 n,Nat.mul_comm (10 ^ n) 10,Nat.mod_mul]
  omega
theorem wrt_whole (D hi:Nat):∀n,n≤hi-47→wrt D hi n=runD D hi n
 |0,_=>rfl
 |n+1,h=>by
  rw[wrt,runD,wrt_whole D hi n (by omega),chunk,if_neg (by omega)];rfl
theorem wrt_part (D hi:Nat) (h:48≤hi):∀m,m≤48→wrt D hi (hi-47+m)=runD D hi (hi-47)++(if m=0 then []else 46 :: runD D 47 m)
 |0,_=>by rw[if_pos rfl,List.append_nil,Nat.add_zero,wrt_whole D hi _ (Nat.le_refl _)]
 |m+1,hm=>by
  have e0:¬m+1=0:=by omega
  rw[←Nat.add_assoc,wrt,wrt_part D hi h m (by omega),if_neg e0,show hi-(hi-47+m)=47-m by omega,List.append_assoc,runD,chunk]
  by_cases c:m=0
  ·subst c;simp[runD]
  ·have e:¬47-m=47:=by omega
   simp[c,e]
theorem low_mod (D:Nat):∀n,(∀k,k<n→dg D k=0)→D%10 ^ n=0
 |0,_=>by rw[Nat.pow_zero,Nat.mod_one]
 |n+1,h=>by
  have a:=low_mod D n (fun k hk=>h k (by omega))
  have b:=h n (by omega)
  unfold dg at b
  rw[Nat.pow_succ,Nat.mod_mul,a,show D / 10 ^ n%10=0 by omega,Nat.mul_zero]
theorem high_lt (D m:Nat):∀n,m≤n→D<10 ^ n→(∀k,m≤k→k<n→dg D k=0)→D<10 ^ m
 |0,h,hD,_=>by obtain rfl:m=0:=by omega
               exact hD
 |n+1,h,hD,hk=>by
  by_cases e:m=n+1
  ·rw[e];exact hD
  ·refine high_lt D m n (by omega) ?_ (fun k a b=>hk k a (by omega))
   have b:=hk n (by omega) (by omega)
   unfold dg at b
   have c:D / 10 ^ n<10:=Nat.div_lt_of_lt_mul (by rw[←Nat.pow_succ];exact hD)
   have d:D / 10 ^ n=0:=by
    generalize D / 10 ^ n=q at b c⊢
    omega
   rcases Nat.div_eq_zero_iff.1 d with z|z
   ·exact absurd z (Nat.ne_of_gt (pow10_pos n))
   ·exact z
theorem dg_small {D n k:Nat} (h:D<10 ^ n) (hk:n≤k):dg D k=0:=dg_of_lt (Nat.lt_of_lt_of_le h (Nat.pow_le_pow_right (by decide) hk))
theorem hi_small {D:Nat} (h:D<10 ^ 72):hiOf D≤71∧D<10 ^ (hiOf D+1):=by
 obtain⟨a,b,_⟩:=hiOf_eq D
 obtain⟨s1,s2,s3,s4⟩:=topF_spec D 96
 have ht:topF D 96≤71:=by
  rcases Int.lt_or_le (topF D 96) 72 with c|c
  ·omega
  ·exact absurd (dg_small h (by omega)) (s4 (topF D 96).toNat (by omega))
 refine⟨by omega,high_lt D _ 96 (by omega) (Nat.lt_trans h (by decide)) (fun k h1 h2=>s3 k h2 (by omega))⟩
theorem join_val {D hi low:Nat} (hl:low≤48) (hh:48≤hi) (h0:D%10 ^ low=0) (h1:D<10 ^ (hi+1)):readN (runD D hi (hi-47)) (runD D 47 (48-low))=D:=by
 unfold readN
 rw[runD_val D hi _ (by omega),runD_val D 47 _ (by omega),runD_len,show hi+1-(hi-47)=48 by omega,show 47+1-(48-low)=low by omega]
 have e1:D / 10 ^ 48%10 ^ (hi-47)=D / 10 ^ 48:=Nat.mod_eq_of_lt (Nat.div_lt_of_lt_mul (by rw[←Nat.pow_add,show 48+(hi-47)=hi+1 by omega];exact h1))
 rw[e1]
 obtain⟨X,hX⟩:∃X,X=D / 10 ^ low:=⟨_,rfl⟩
 have hD:D=X*10 ^ low:=by
  have:=Nat.div_add_mod D (10 ^ low)
  rw[h0,←hX,Nat.add_zero,Nat.mul_comm]at this;exact this.symm
 obtain⟨j,hj⟩:∃j,j=48-low:=⟨_,rfl⟩
 have e2:D / 10 ^ 48=X / 10 ^ j:=by
  rw[show 48=low+j by omega,Nat.pow_add,←Nat.div_div_eq_div_mul,←hX]
 have e3:(10:Nat) ^ 48=10 ^ j*10 ^ low:=by rw[←Nat.pow_add];congr 1;omega
 rw[e2,e3,←hX,←hj,←Nat.mul_assoc,←Nat.add_mul,Nat.mul_comm (X / 10 ^ j),Nat.div_add_mod,←hD]
def joinL (A P:List UInt8) (m:Bool):List UInt8:=A++(if m=true then 46 :: P else [])
theorem readD_of (sg:Bool) {A P:List UInt8} {m:Bool} (hA:figB A=true) (hP:m=true→figB P=true) (h0:m=false→P= []):readD ((if sg=true then [45]else [])++joinL A P m)=readR sg (readN A P):=by
 obtain⟨a1,a2,a3⟩:=figB_iff hA
 have hcut:Lib.cut (joinL A P m) [46]=(A,P,m):=by
  unfold joinL
  cases m
  ·simp only[Bool.false_eq_true,if_false,List.append_nil];rw[cut_no a3,h0 rfl]
  ·simp only[if_true];exact cut_at a3
 have hpre:Lib.hasPrefix (joinL A P m) [45]=false:=by
  cases A with
  |nil=>exact absurd a1 (by decide)
  |cons c l=>
   rw[List.all_cons,Bool.and_eq_true]at a3
   have hb:=isDig_bd a3.1
   unfold joinL
   rw[List.cons_append,prefix_one,beq_eq_false_iff_ne]
   exact fun e=>by rw[←e]at hb;exact absurd hb.1 (by decide)
 have hs:readS ((if sg=true then [45]else [])++joinL A P m)=sg∧Lib.trimPrefix ((if sg=true then [45]else [])++joinL A P m) [45]=joinL A P m:=by
  cases sg
  ·simp only[Bool.false_eq_true,if_false,List.nil_append]
   unfold readS Lib.trimPrefix
   rw[hpre];exact⟨rfl,rfl⟩
  ·simp only[if_true,List.singleton_append]
   unfold readS Lib.trimPrefix
   rw[prefix_one];exact⟨rfl,rfl⟩
 have hw:readW ((if sg=true then [45]else [])++joinL A P m)=(A,P,m):=by unfold readW;rw[hs.2,hcut]
 unfold readD
 rw[hs.1,hw,if_pos ⟨hA,hP⟩]
theorem readD_minus (l:List UInt8):readD (48 :: 45 :: l)=((0,0),12):=by
 have hp:Lib.trimPrefix (48 :: 45 :: l) [45]=48 :: 45 :: l:=by unfold Lib.trimPrefix;rw[prefix_one];rfl
 have hf:figB (readW (48 :: 45 :: l)).1=false:=by
  unfold readW;rw[hp]
  have hi:Lib.index (48 :: 45 :: l) [46]= -1∨∃k:Nat,Lib.index (48 :: 45 :: l) [46]=(k+2:Nat):=by
   have h1:([46]:List UInt8).isPrefixOf (48 :: 45 :: l)=false:=by simp[List.isPrefixOf]
   have h2:([46]:List UInt8).isPrefixOf (45 :: l)=false:=by simp[List.isPrefixOf]
   rw[Lib.index,h1,Lib.index,h2]
   have:=Lib.index_ge l [46]
   by_cases c:Lib.index l [46]= -1
   ·left;rw[c];rfl
   ·right
    refine⟨(Lib.index l [46]).toNat,?_⟩
    have e1:(Lib.index l [46]== -1)=false:=by simpa using c
    have e2:(Lib.index l [46]+1== -1)=false:=by rw[beq_eq_false_iff_ne];omega
    simp only[e1,e2,Bool.false_eq_true,if_false];omega
  unfold Lib.cut figB
  rcases hi with h|⟨k,h⟩
  ·rw[h];simp[digS]
  ·rw[h,if_pos (by omega),show((k+2:Nat):Int).toNat=k+2 by omega];simp[digS]
 unfold readD
 rw[if_neg (by rw[hf];simp)]
theorem sameD_self (D:Nat):sameD D D=true:=by unfold sameD;simp
theorem read_right {x y:Int} (h:RightP (x,y)):readR (decide (x<0)) (layD x y)=((x,y),0):=by
 have hq:x.natAbs<10 ^ 15:=by rw[p15];have:=h.1;have:=h.2.1;omega
 have hn:near (decide (x<0)) (layD x y) false=((x,y),0):=by
  have e:=near_exact (s:=decide (x<0)) (D:=layD x y) (q:=x.natAbs) (E:=y) hq h.2.2.1 h.2.2.2.1 rfl
  rw[e];exact congrArg (fun p=>(p,(0:Int))) (decOf_id h)
 exact readR_yes hn (sameD_self _)
theorem shown_parts {x y:Int} (h:RightP (x,y)):∃A P m,textR x y=(if decide (x<0)=true then [45]else [])++joinL A P m∧figB A=true∧A.length≤24∧(m=true→figB P=true)∧(m=false→P= [])∧readN A P=layD x y:=by
 have hD:=layD_lt (rightB_P.2 h)
 obtain⟨h1,h2⟩:=hi_small hD
 obtain⟨_,_,h3⟩:=hiOf_eq (layD x y)
 have hl:lowOf (layD x y)≤48:=lowK_le _ 48
 have hz:∀k,k<39→dg (layD x y) k=0:=by
  intro k hk
  unfold layD
  refine dg_shift_low _ _ _ ?_
  have:=h.2.2.1
  simp only at this
  omega
 have hl2:39≤lowOf (layD x y):=lowK_ge _ hz 48
 have hmod:layD x y%10 ^ lowOf (layD x y)=0:=low_mod _ _ (fun k hk=>lowK_zero _ 48 k (by omega) hk)
 have hw:=wrt_part (layD x y) (hiOf (layD x y)) h3 (48-lowOf (layD x y)) (by omega)
 rw[show hiOf (layD x y)-47+(48-lowOf (layD x y))=hiOf (layD x y)+1-lowOf (layD x y) by omega]at hw
 have hv:=join_val hl h3 hmod h2
 have hT:textR x y=signL x++wrt (layD x y) (hiOf (layD x y)) (hiOf (layD x y)+1-lowOf (layD x y)):=rfl
 generalize layD x y=D at*
 refine⟨runD D (hiOf D) (hiOf D-47),runD D 47 (48-lowOf D),decide (48-lowOf D≠0),?_,?_,?_,?_,?_,hv⟩
 ·have e:textR x y=signL x++wrt D (hiOf D) (hiOf D+1-lowOf D):=hT
  rw[e,hw]
  unfold signL joinL
  congr 1
  ·simp
  ·congr 1
   simp
 ·exact figB_mk (by rw[runD_len];omega) (by rw[runD_len];omega) (runD_all _ _ _)
 ·rw[runD_len];omega
 ·intro e
  have e1:48-lowOf D≠0:=by simpa using e
  exact figB_mk (by rw[runD_len];omega) (by rw[runD_len];omega) (runD_all _ _ _)
 ·intro e
  have e1:48-lowOf D=0:=by simpa using e
  rw[e1];rfl
theorem valW_zero (l:List UInt8):valW (48 :: l)=valW l:=by rw[valW];simp
theorem text_plain {x y:Int} (h:RightP (x,y)):textD x y=(textR x y,0)∧readD (textR x y)=((x,y),0)∧readD (48 :: textR x y)=(if x<0 then((0,0),12)else((x,y),0))∧(textR x y).length≤100:=by
 obtain⟨A,P,m,hT,hA,hl,hP,h0,hN⟩:=shown_parts h
 refine⟨?_,?_,?_,?_⟩
 ·unfold textD;rw[if_pos (rightB_P.2 h)]
 ·rw[hT,readD_of _ hA hP h0,hN,read_right h]
 ·by_cases c:x<0
  ·rw[if_pos c,hT,decide_eq_true c]
   exact readD_minus _
  ·rw[if_neg c,hT,decide_eq_false c]
   obtain⟨a1,a2,a3⟩:=figB_iff hA
   have hA':figB (48 :: A)=true:=figB_mk (by simp) (by rw[List.length_cons];omega) (by rw[List.all_cons,a3];rfl)
   have e:=readD_of false hA' hP h0
   have e2:readN (48 :: A) P=readN A P:=by unfold readN;rw[valW_zero]
   rw[e2,hN]at e
   have e3:=read_right h
   rw[decide_eq_false c]at e3
   rw[e3]at e
   exact e
 ·obtain⟨_,h2,_⟩:=hiOf_eq (layD x y)
  have h3:=wrt_len (layD x y) (hiOf (layD x y)) (hiOf (layD x y)+1-lowOf (layD x y))
  unfold textR signL
  rw[List.length_append]
  have h1:=hi_small (layD_lt (rightB_P.2 h))
  have:(if x<0 then [45]else []:List UInt8).length≤1:=by split<;>simp
  have hl2:39≤lowOf (layD x y):=lowK_ge _ (by
   intro k hk
   unfold layD
   refine dg_shift_low _ _ _ ?_
   have:=h.2.2.1
   simp only at this
   omega) 48
  omega
theorem read_three (l:List UInt8):(∃p,readD l=(p,0)∧RightP p)∨readD l=((0,0),12)∨readD l=((0,0),10):=by
 unfold readD
 split
 ·unfold readR
  rcases near_two (readS l) (readN (readW l).1 (readW l).2.1)with c|c
  ·rw[if_pos c]
   split
   ·left
    obtain⟨p,hp⟩:∃p,near (readS l) (readN (readW l).1 (readW l).2.1) false=(p,0):=⟨_,Prod.ext rfl c⟩
    exact⟨p,hp,near_right hp⟩
   ·exact .inr (.inr rfl)
  ·rw[c];exact .inr (.inr rfl)
 ·exact .inr (.inl rfl)
end Go.Proofs.YtmhfioimgllgeaaGreatDoor
