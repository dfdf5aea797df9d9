/- Merged: Lwf, Lwb, Lwt, Rpl, Lwo, Awl. -/
import Derived.Test.YtkhohjdakcchdaaGreatDoorBh
import Derived.Test.YtkhohjdakcchdaaGreatDoorBf
import Derived.Lib.Replace
namespace Go.Proofs.YtkhohjdakcchdaaGreatDoor
open Go
/-- What is read as a number begins with a digit or the minus. -/
theorem read_fig {l:List UInt8} {p:Int×Int} (h:readD l=(p,0)):∃c r,l=c :: r∧(c=45∨(48≤c.toNat∧c.toNat≤57)):=by
 have hf:figB (readW l).1=true:=by
  unfold readD at h
  split at h
  ·rename_i hc;exact hc.1
  ·injection h with _ h;exact absurd h (by decide)
 obtain⟨h1,_,h3⟩:=figB_iff hf
 cases l with
 |nil=>exact absurd h1 (by decide)
 |cons c r=>
  refine⟨c,r,rfl,?_⟩
  by_cases hc:c=45
  ·exact .inl hc
  ·right
   have ht:Lib.trimPrefix (c :: r) [45]=c :: r:=by
    unfold Lib.trimPrefix Lib.hasPrefix
    simp[List.isPrefixOf]
    intro e;exact absurd e.symm hc
   unfold readW at h1 h3
   rw[ht]at h1 h3
   unfold Lib.cut at h1 h3
   split at h1
   ·rename_i hi
    rw[if_pos hi]at h3
    simp only at h1 h3
    have hl:1≤(Lib.index (c :: r) [46]).toNat:=by
     rw[List.length_take]at h1;omega
    obtain⟨k,hk⟩:∃k,(Lib.index (c :: r) [46]).toNat=k+1:=⟨(Lib.index (c :: r) [46]).toNat-1,by omega⟩
    rw[hk,List.take_succ_cons,List.all_cons,Bool.and_eq_true]at h3
    exact isDig_bd h3.1
   ·rename_i hi
    rw[if_neg hi]at h3
    simp only at h3
    rw[List.all_cons,Bool.and_eq_true]at h3
    exact isDig_bd h3.1
theorem text_ascii :∀(l:List UInt8),(∀c∈l,32≤c.toNat∧c.toNat<127)→isTextL l=true
 | [],_=>rfl
 |c :: r,h=>by
  obtain⟨h1,h2⟩:=h c List.mem_cons_self
  have hs:sgnL (c :: r)=1:=by
   unfold sgnL sgnN
   rw[if_neg (by simp),if_pos (show((c :: r).getD 0 0).toNat<128 by show c.toNat<128;omega)]
  have ho:oddB c=false:=by
   unfold oddB
   simp
   omega
  rw[isTextL_step _ (by simp),hs,if_neg (by
   rintro(h|h)
   ·cases h
   ·have:oddB c=true:=h
    rw[ho]at this;cases this)]
  exact text_ascii r (fun c hc=>h c (List.mem_cons_of_mem _ hc))
theorem shown_fig {x y:Int} (h:RightP (x,y)):isTextL (textR x y)=true:=by
 obtain⟨A,P,m,e,hA,_,hP,h0,_⟩:=shown_parts h
 have hd:∀l:List UInt8,figB l=true→∀c∈l,32≤c.toNat∧c.toNat<127:=fun l hl c hc=>by
  have:=isDig_bd (List.all_eq_true.1 (figB_iff hl).2.2 c hc)
  omega
 rw[e]
 refine text_ascii _ fun c hc=> ?_
 rw[List.mem_append]at hc
 rcases hc with hc|hc
 ·split at hc
  ·simp at hc;subst hc;decide
  ·simp at hc
 ·unfold joinL at hc
  rw[List.mem_append]at hc
  rcases hc with hc|hc
  ·exact hd A hA c hc
  ·cases m with
   |true=>
    simp at hc
    rcases hc with hc|hc
    ·subst hc;decide
    ·exact hd P (hP rfl) c hc
   |false=>simp at hc
end Go.Proofs.YtkhohjdakcchdaaGreatDoor
namespace Go.Proofs.YtkhohjdakcchdaaGreatDoor
open Go
theorem mk_self (s:ByteArray):mk s.data.toList=s:=by
 obtain⟨⟨l⟩⟩:=s;rfl
theorem mk_list (l:List UInt8):(mk l).data.toList=l:=rfl
theorem trim_quote (l:List UInt8):Lib.trimPrefix (39 :: l) [39]=l:=by
 unfold Lib.trimPrefix Lib.hasPrefix
 simp[List.isPrefixOf]
theorem not_num {c:UInt8} (l:List UInt8) (h:¬(c=45∨(48≤c.toNat∧c.toNat≤57))):¬(readD (c :: l)).2=0:=fun e=>by
 obtain⟨c',r,e1,e2⟩:=read_fig (l:=c :: l) (p:=(readD (c :: l)).1) (by rw[←e])
 injection e1 with e1 _
 subst e1
 exact h e2
theorem truth_none {c:UInt8} (l:List UInt8) (h1:lowC c≠116) (h2:lowC c≠102):truthL (c :: l)=none:=by
 unfold truthL lowL trueL falseL
 rw[if_neg (by simp[h1]),if_neg (by simp[h2])]
theorem errF_none {c:UInt8} (l:List UInt8) (h:lowC c≠35):errF (c :: l)=none:=by
 unfold errF
 rw[List.find?_eq_none]
 intro i hi
 have:∃r,lowL (errL i)=35 :: r:=by
  simp only[List.mem_cons,List.not_mem_nil,or_false]at hi
  rcases hi with e|e|e|e|e|e|e|e|e<;>subst e<;>exact⟨_,rfl⟩
 obtain⟨r,hr⟩:=this
 rw[hr,show lowL (c :: l)=lowC c :: lowL l from rfl]
 simp
 intro e;exact absurd e.symm h
/-- Behind an apostrophe there is the text. -/
theorem read_quote (l:List UInt8):readV (39 :: l)=if txtOk (mk l)=true then(txtV (mk l),0)else({},30):=by
 unfold readV
 rw[if_neg (by simp),if_neg (by simp),if_neg (not_num l (by decide)),truth_none l (by decide) (by decide),errF_none l (by decide),trim_quote]
theorem readV_two (l:List UInt8):(readV l).2=0∧plainV (readV l).1=true∨readV l=({},30):=by
 unfold readV
 split
 ·exact .inl ⟨rfl,plain_zero⟩
 split
 ·exact .inr rfl
 split
 ·rename_i h
  rcases read_three l with ⟨p,hp,hr⟩|e|e
  ·rw[hp];exact .inl ⟨rfl,plain_num hr⟩
  ·rw[e]at h;exact absurd h (by decide)
  ·rw[e]at h;exact absurd h (by decide)
 split
 ·exact .inl ⟨rfl,plain_tr _⟩
 split
 ·rename_i i hi
  have:=List.mem_of_find?_eq_some hi
  simp only[List.mem_cons,List.not_mem_nil,or_false]at this
  exact .inl ⟨rfl,plain_err (by omega) (by omega)⟩
 split
 ·rename_i h
  exact .inl ⟨rfl,plain_txt h⟩
 ·exact .inr rfl
theorem plain_kind {x:Vl} (h:plainV x=true):x.k≠5∧x.k≠6:=by
 rcases plain_cases h with e|⟨p,e,_⟩|⟨s,e,_⟩|⟨b,e⟩|⟨n,e,_⟩<;>subst e<;>exact⟨(by intro e;cases e),(by intro e;cases e)⟩
theorem right_plain {x:Vl} (n:Nat) (h5:x.k≠5) (h6:x.k≠6):rightV (n+1) x=plainV x:=by
 rw[rightV,if_neg h5,if_neg h6]
theorem right_of_plain {x:Vl} (n:Nat) (h:plainV x=true):rightV (n+1) x=true:=by
 rw[right_plain n (plain_kind h).1 (plain_kind h).2,h]
theorem plain_two {x:Vl} (h:plainV x=true) (hk:x.k=2):x=txtV x.s∧txtOk x.s=true:=by
 rcases plain_cases h with e|⟨p,e,_⟩|⟨s,e,hs⟩|⟨b,e⟩|⟨n,e,_⟩
 ·subst e;cases hk
 ·subst e;cases hk
 ·subst e;exact⟨rfl,hs⟩
 ·subst e;cases hk
 ·subst e;cases hk
end Go.Proofs.YtkhohjdakcchdaaGreatDoor
namespace Go.Proofs.YtkhohjdakcchdaaGreatDoor
open Go
theorem txt_shown {x y:Int} (h:RightP (x,y)):txtOk (mk (textR x y))=true:=by
 unfold txtOk
 rw[mk_list,shown_fig h,Bool.and_true,decide_eq_true_eq]
 show(textR x y).length≤200
 have:=(text_plain h).2.2.2
 omega
theorem tru_right (b:Bool):RightP (truI b,0):=by cases b<;>simp[RightP,truI]
theorem numT_plain {x:Vl} (h:plainV x=true):plainV (numT x)=true:=by
 rcases plain_cases h with e|⟨p,e,hr⟩|⟨s,e,hs⟩|⟨b,e⟩|⟨n,e,h1,h2⟩
 ·subst e;exact plain_num right_nought
 ·subst e;exact plain_num hr
 ·subst e
  show plainV (if(readD s.data.toList).2=0 then numV (readD s.data.toList).1 else errV 3)=true
  split
  ·rename_i h0
   rcases read_three s.data.toList with ⟨p,hp,hr⟩|e|e
   ·rw[hp];exact plain_num hr
   ·rw[e]at h0;exact absurd h0 (by decide)
   ·rw[e]at h0;exact absurd h0 (by decide)
  ·exact plain_err (by decide) (by decide)
 ·subst e
  exact plain_num (tru_right b)
 ·subst e;exact plain_err h1 h2
theorem txtT_plain {x:Vl} (h:plainV x=true):plainV (txtT x)=true:=by
 rcases plain_cases h with e|⟨p,e,hr⟩|⟨s,e,hs⟩|⟨b,e⟩|⟨n,e,h1,h2⟩
 ·subst e;exact plain_txt (by decide)
 ·subst e
  show plainV (txtV (mk (textD p.1 p.2).1))=true
  rw[(text_plain (x:=p.1) (y:=p.2) hr).1]
  exact plain_txt (txt_shown hr)
 ·subst e;exact plain_txt hs
 ·subst e;cases b<;>exact plain_txt (by decide)
 ·subst e;exact plain_err h1 h2
theorem truT_two {x:Vl} (h:plainV x=true):(∃b,truT x=trV b)∨(∃n,truT x=errV n∧1≤n∧n≤9):=by
 rcases plain_cases h with e|⟨p,e,hr⟩|⟨s,e,hs⟩|⟨b,e⟩|⟨n,e,h1,h2⟩
 ·subst e;exact .inl ⟨_,rfl⟩
 ·subst e;exact .inl ⟨_,rfl⟩
 ·subst e
  show(∃b,(match truthL s.data.toList with|some b=>trV b|none=>errV 3)=trV b)∨(∃n,(match truthL s.data.toList with|some b=>trV b|none=>errV 3)=errV n∧1≤n∧n≤9)
  cases truthL s.data.toList with
  |some b=>exact .inl ⟨_,rfl⟩
  |none=>exact .inr ⟨_,rfl,by decide,by decide⟩
 ·subst e;exact .inl ⟨_,rfl⟩
 ·subst e;exact .inr ⟨_,rfl,h1,h2⟩
theorem truT_plain {x:Vl} (h:plainV x=true):plainV (truT x)=true:=by
 rcases truT_two h with ⟨b,e⟩|⟨n,e,h1,h2⟩<;>rw[e]
 ·exact plain_tr b
 ·exact plain_err h1 h2
/-- An array that is right. -/
theorem right_arr {n:Nat} {r c:Int} {l:List Vl}:rightV (n+1) (arrV r c l)=true↔(1≤r∧1≤c∧r≤400∧c≤400∧r*c≤400∧(l.length:Int)=r*c)∧∀x∈l,plainV x=true:=by
 rw[rightV,if_pos (show(arrV r c l).k=5 from rfl),Bool.and_eq_true,Bool.and_eq_true,List.all_eq_true]
 unfold dimsB
 rw[decide_eq_true_eq]
 constructor
 ·rintro⟨h1,_,h2⟩;exact⟨h1,h2⟩
 ·rintro⟨h1,h2⟩;exact⟨h1,by simp[bareV,arrV];rfl,h2⟩
theorem each_plain {n:Nat} {f:Vl→Vl} {x:Vl} (h:plainV x=true):eachV (n+1) f x=f x:=by
 unfold eachV
 rw[if_pos ⟨right_of_plain n h,(plain_kind h).2⟩,if_neg (plain_kind h).1]
theorem each_arr {n:Nat} {f:Vl→Vl} {r c:Int} {l:List Vl} (h:rightV (n+1) (arrV r c l)=true):eachV (n+1) f (arrV r c l)=arrV r c (l.map f):=by
 unfold eachV
 rw[if_pos ⟨h,(by intro e;cases e)⟩,if_pos (show(arrV r c l).k=5 from rfl)];rfl
theorem map_right {n:Nat} {f:Vl→Vl} {r c:Int} {l:List Vl} (hf:∀x,plainV x=true→plainV (f x)=true) (h:rightV (n+1) (arrV r c l)=true):rightV (n+1) (arrV r c (l.map f))=true:=by
 rw[right_arr]at h⊢
 refine⟨by rw[List.length_map];exact h.1,fun x hx=> ?_⟩
 obtain⟨y,hy,rfl⟩:=List.mem_map.1 hx
 exact hf y (h.2 y hy)
/-- Where in an array. -/
def atI (d i:Int):Int:=if d=1 then 0 else i
theorem get_arr {n:Nat} {r c i j:Int} {l:List Vl} (h:rightV (n+1) (arrV r c l)=true) (hi:0≤i) (hj:0≤j):
 getV (n+1) (arrV r c l) i j=if r≤atI r i∨c≤atI c j then errV 7 else l.getD (atI r i*c+atI c j).toNat {}:=by
 unfold getV
 rw[if_pos h,if_neg (by omega),if_pos (show(arrV r c l).k=5 from rfl)]
 rfl
theorem at_lt {r c i j:Int} (hi:0≤i) (hj:0≤j) (h:¬(r≤atI r i∨c≤atI c j)):0≤atI r i*c+atI c j∧atI r i*c+atI c j<r*c:=by
 have h1:0≤atI r i:=by unfold atI;split<;>omega
 have h2:0≤atI c j:=by unfold atI;split<;>omega
 generalize atI r i=a at*
 generalize atI c j=b at*
 have ha:a+1≤r:=by omega
 have hc:0<c:=by omega
 have:=Int.mul_le_mul_of_nonneg_right ha (Int.le_of_lt hc)
 rw[Int.add_mul,Int.one_mul]at this
 have h3:=Int.mul_nonneg h1 (Int.le_of_lt hc)
 omega
end Go.Proofs.YtkhohjdakcchdaaGreatDoor
namespace Go.Proofs.YtkhohjdakcchdaaGreatDoor
open Go
def dbl (l:List UInt8):List UInt8:=l.flatMap fun c=>if c=34 then [34,34]else [c]
theorem dbl_none :∀ {l:List UInt8},(∀c∈l,c≠34)→dbl l=l
 | [],_=>rfl
 |c :: l,h=>by
  have h1:=h c List.mem_cons_self
  have h2:=dbl_none fun c hc=>h c (List.mem_cons_of_mem _ hc)
  unfold dbl at h2⊢
  rw[List.flatMap_cons,h2,if_neg h1];rfl
theorem dbl_at (a b:List UInt8) (h:∀c∈a,c≠34):dbl (a++34 :: b)=a++ [34,34]++dbl b:=by
 have:=dbl_none h
 unfold dbl at this⊢
 rw[List.flatMap_append,this,List.flatMap_cons,if_pos rfl,List.append_assoc]
theorem dbl_len (l:List UInt8):(dbl l).length≤2*l.length:=by
 induction l with
 |nil=>exact Nat.le_refl _
 |cons c l ih=>
  have e:dbl (c :: l)=(if c=34 then [34,34]else [c])++dbl l:=rfl
  rw[e,List.length_append,List.length_cons]
  split<;>simp<;>omega
theorem idx_no :∀l:List UInt8,(∀c∈l,c≠34)→Lib.index l [34]= -1
 | [],_=>rfl
 |c :: l,h=>by
  have h1:=h c List.mem_cons_self
  have h2:=idx_no l fun c hc=>h c (List.mem_cons_of_mem _ hc)
  rw[Lib.index,if_neg (by simp[List.isPrefixOf];exact fun e=>h1 e.symm),h2];rfl
theorem idx_at (b:List UInt8):∀a:List UInt8,(∀c∈a,c≠34)→Lib.index (a++34 :: b) [34]=a.length
 | [],_=>by
  rw[List.nil_append,Lib.index,if_pos (by simp[List.isPrefixOf])];rfl
 |c :: a,h=>by
  have h1:=h c List.mem_cons_self
  have h2:=idx_at b a fun c hc=>h c (List.mem_cons_of_mem _ hc)
  rw[List.cons_append,Lib.index,if_neg (by simp[List.isPrefixOf];exact fun e=>h1 e.symm),h2,if_neg (by simp)]
  simp
theorem split34 (l:List UInt8):(∀c∈l,c≠34)∨∃a b,l=a++34 :: b∧∀c∈a,c≠34:=by
 induction l with
 |nil=>left;simp
 |cons c l ih=>
  by_cases hc:c=34
  ·right;exact⟨[],l,by rw[hc];rfl,by simp⟩
  ·rcases ih with h|⟨a,b,e,h⟩
   ·left
    intro d hd
    rcases List.mem_cons.1 hd with e|e
    ·rw[e];exact hc
    ·exact h d e
   ·right
    refine⟨c :: a,b,by rw[e];rfl,fun d hd=> ?_⟩
    rcases List.mem_cons.1 hd with e|e
    ·rw[e];exact hc
    ·exact h d e
theorem repK :∀(n:Nat) (l:List UInt8),l.length≤n→∀k,l.count 34≤k→Lib.replaceK [34] [34,34] k l=dbl l
 |n,l,hn,k,hk=>by
  rcases split34 l with h|⟨a,b,rfl,h⟩
  ·rw[dbl_none h]
   cases k with
   |zero=>rfl
   |succ k=>rw[Lib.replaceK,idx_no l h];rfl
  ·cases n with
   |zero=>simp at hn
   |succ n=>
    have hcnt:(a++34 :: b).count 34=a.count 34+(b.count 34+1):=by rw[List.count_append,List.count_cons_self]
    cases k with
    |zero=>omega
    |succ k=>
     rw[Lib.replaceK_hit _ _ _ _ _ (idx_at b a h),dbl_at a b h]
     have h1:(a++34 :: b).take a.length=a:=List.take_left
     have h2:(a++34 :: b).drop (a.length+ [(34:UInt8)].length)=b:=by
      rw[←List.drop_drop,List.drop_left];rfl
     rw[h1,h2,repK n b (by simp at hn;omega) k (by omega)]
theorem cntF :∀(n:Nat) (l:List UInt8),l.length≤n→Lib.countFrom [34] n l=l.count 34
 |0,l,hn=>by
  have:=List.eq_nil_of_length_eq_zero (Nat.le_zero.1 hn)
  subst this;rfl
 |n+1,l,hn=>by
  rcases split34 l with h|⟨a,b,rfl,h⟩
  ·rw[Lib.countFrom,idx_no l h]
   rw[List.count_eq_zero_of_not_mem fun hm=>h 34 hm rfl];rfl
  ·rw[Lib.countFrom,idx_at b a h,if_neg (by simp)]
   have h2:(a++34 :: b).drop (((a.length:Nat):Int).toNat+ [(34:UInt8)].length)=b:=by
    rw[Int.toNat_natCast,←List.drop_drop,List.drop_left];rfl
   rw[h2,cntF n b (by simp at hn;omega),List.count_append,List.count_cons_self,List.count_eq_zero_of_not_mem fun hm=>h 34 hm rfl]
   omega
theorem rep_dbl (l:List UInt8):Lib.replaceAll l [34] [34,34]=dbl l:=by
 unfold Lib.replaceAll Lib.replace
 rw[if_neg (by decide)]
 unfold Lib.replaceNum
 rw[if_pos (.inl (by decide))]
 unfold Lib.count
 refine repK l.length l (Nat.le_refl _) _ ?_
 rw[cntF _ l (by omega)]
 exact Nat.le_refl _
theorem quotL_dbl (l:List UInt8):quotL l=34 :: (dbl l++ [34]):=rfl
theorem join_len (sep:List UInt8) (B:Nat):∀xs:List (List UInt8),(∀x∈xs,x.length≤B)→(Lib.join xs sep).length≤xs.length*(B+sep.length)
 | [],_=>by rw[Lib.join_nil];exact Nat.zero_le _
 |x :: r,h=>by
  rw[Lib.join_cons,List.length_append,List.length_cons,Nat.add_mul]
  have h1:=h x List.mem_cons_self
  have h2:∀r:List (List UInt8),(∀x∈r,x.length≤B)→(Lib.joinTail sep r).length≤r.length*(B+sep.length):=by
   intro r
   induction r with
   |nil=>intro _;exact Nat.zero_le _
   |cons y r ih=>
    intro h
    have:=ih fun x hx=>h x (List.mem_cons_of_mem _ hx)
    have hy:=h y List.mem_cons_self
    have e:Lib.joinTail sep (y :: r)=(sep++y)++Lib.joinTail sep r:=rfl
    rw[e,List.length_append,List.length_append,List.length_cons,Nat.add_mul]
    omega
  have:=h2 r fun x hx=>h x (List.mem_cons_of_mem _ hx)
  omega
theorem errL_len (n:Nat):(errL n).length≤8:=by unfold errL;split<;>decide
theorem cellL_len {x:Vl} (h:plainV x=true):(cellL x).length≤500:=by
 unfold cellL
 split
 ·rename_i hk
  have hs:=(plain_two h hk).2
  have:x.s.data.toList.length≤200:=by
   unfold txtOk at hs
   simp at hs
   exact hs.1
  rw[quotL_dbl]
  have:=dbl_len x.s.data.toList
  simp only[List.length_cons,List.length_append,List.length_nil]
  omega
 ·rename_i hk
  rcases plain_cases h with e|⟨p,e,hr⟩|⟨s,e,hs⟩|⟨b,e⟩|⟨n,e,_⟩<;>subst e
  ·exact Nat.zero_le _
  ·show(textD p.1 p.2).1.length≤500
   have:=text_plain (x:=p.1) (y:=p.2) hr
   rw[this.1]
   have:=this.2.2.2
   simp only
   omega
  ·exact absurd rfl hk
  ·cases b<;>decide
  ·have:=errL_len n.toNat
   show(errL n.toNat).length≤500
   omega
/-- A row's text. -/
def rowT (c:Nat) (l:List Vl) (i:Nat):List UInt8:=Lib.join (((l.drop (i*c)).take c).map cellL) [44]
theorem rows_range :∀(R n c:Nat) (l:List Vl),1≤c→l.length=R*c→R≤n→rowsF n c l=(List.range R).map (rowT c l)
 |0,n,c,l,hc,hl,hn=>by
  have:l= []:=List.eq_nil_of_length_eq_zero (by rw[hl,Nat.zero_mul])
  subst this
  cases n<;>rfl
 |R+1,n,c,l,hc,hl,hn=>by
  cases n with
  |zero=>omega
  |succ n=>
   rw[Nat.add_mul,Nat.one_mul]at hl
   have hne:l≠ []:=by
    intro e
    subst e
    simp at hl
    omega
   rw[rowsF,if_neg hne,List.range_succ_eq_map,List.map_cons,List.map_map,rows_range R n c (l.drop c) hc (by rw[List.length_drop];omega) (by omega)]
   congr 1
   ·unfold rowT
    rw[Nat.zero_mul,List.drop_zero]
   ·apply List.map_congr_left
    intro i _
    show rowT c (l.drop c) i=rowT c l (i+1)
    unfold rowT
    rw[List.drop_drop,Nat.add_mul,Nat.one_mul,Nat.add_comm c]
theorem arrL_rows {r c:Int} {l:List Vl} (h:rightV 1 (arrV r c l)=true):arrL (arrV r c l)=123 :: (Lib.join ((List.range r.toNat).map (rowT c.toNat l)) [59]++ [125]):=by
 have hd:=(right_arr.1 h).1
 have hl:l.length=r.toNat*c.toNat:=by
  have h1:((r.toNat*c.toNat:Nat):Int)=r*c:=by
   rw[Int.natCast_mul,Int.toNat_of_nonneg (by omega),Int.toNat_of_nonneg (by omega)]
  omega
 unfold arrL
 rw[show (arrV r c l).l=l from rfl,show(arrV r c l).cols=c from rfl,rows_range r.toNat l.length c.toNat l (by omega) hl (by
  rw[hl]
  exact Nat.le_mul_of_pos_right _ (by omega))]
end Go.Proofs.YtkhohjdakcchdaaGreatDoor
namespace Go.Proofs.YtkhohjdakcchdaaGreatDoor
open Go
theorem ordI_zero {x y:Int}:ordI x y=0↔x=y:=by
 unfold ordI
 (repeat' split)<;>omega
/-- Of one kind. -/
def kindV (x y:Vl):Int:=
 if x.k=1 then cmpD x.m x.e y.m y.e else if x.k=2 then Lib.compareBytes (lowL x.s.data.toList) (lowL y.s.data.toList)
 else if x.k=3 then ordI (truI x.b) (truI y.b)else if x.k=4 then ordI x.err y.err else 0
theorem oneV_lex (x y:Vl):oneV x y=if x.k=y.k then kindV x y else ordI x.k y.k:=by
 unfold oneV kindV
 by_cases h:x.k=y.k
 ·rw[if_neg (by simpa using h),if_pos h]
 ·rw[if_pos h,if_neg h]
def ArrP (x:Vl):Prop:=plainV x=true∨(x.k=5∧rightV 1 x=true)
theorem ArrP.right {x:Vl} (h:ArrP x) (n:Nat):rightV (n+1) x=true:=by
 rcases h with h|⟨h,h2⟩
 ·exact right_of_plain n h
 ·rw[rightV,if_pos h]at h2 ⊢;exact h2
end Go.Proofs.YtkhohjdakcchdaaGreatDoor
namespace Go.Proofs.YtkhohjdakcchdaaGreatDoor
open Go
theorem r15 :RightP (15,-1):=by unfold RightP;omega
theorem r12 :RightP (12,0):=by unfold RightP;omega
theorem lay15 :readN [49] [53,48]=layD 15 (-1):=by decide +kernel
theorem lay12 :readN [49,50] []=layD 12 0:=by decide +kernel
theorem fig_a :figB [49]=true:=by decide
theorem fig_b :figB [53,48]=true:=by decide
theorem fig_c :figB [49,50]=true:=by decide
theorem read15 :readD [49,46,53,48]=((15,-1),0):=by
 have h:=readD_of false (A:= [49]) (P:= [53,48]) (m:=true) fig_a (fun _=>fig_b) (fun e=>by cases e)
 rw[lay15]at h
 exact h.trans (read_right (x:=15) (y:= -1) r15)
theorem read12 :readD [49,50]=((12,0),0):=by
 have h:=readD_of false (A:= [49,50]) (P:= []) (m:=false) fig_c (fun e=>by cases e) (fun _=>rfl)
 rw[lay12]at h
 exact h.trans (read_right (x:=12) (y:=0) r12)
theorem shown15 :textR 15 (-1)= [49,46,53]:=by decide +kernel
theorem text15 :(textD 15 (-1)).1= [49,46,53]:=by rw[(text_plain r15).1];exact shown15
def s12 :ByteArray:=mk [49,50]
def aw :List Vl:= [numV (15,-1),txtV s12,trV true,errV 7]
theorem ok12 :txtOk s12=true:=by decide
theorem aw_plain :∀x∈aw,plainV x=true:=by
 intro x hx
 simp only[aw,List.mem_cons,List.not_mem_nil,or_false]at hx
 rcases hx with e|e|e|e<;>subst e
 ·exact plain_num r15
 ·exact plain_txt ok12
 ·exact plain_tr true
 ·exact plain_err (by decide) (by decide)
theorem aw_right (n:Nat):rightV (n+1) (arrV 2 2 aw)=true:=right_arr.2 ⟨by decide,aw_plain⟩
theorem rd_q12 :readV [39,49,50]=(txtV s12,0):=by
 rw[read_quote]
 rw[if_pos (show txtOk (mk [49,50])=true from ok12)];rfl
theorem rd_12 :readV [49,50]=(numV (12,0),0):=by
 unfold readV
 rw[if_neg (by decide),if_neg (by decide),read12,if_pos rfl]
theorem rd_eq1 :readV [61,49]=({},30):=rfl
theorem tx_12 :(textV 2 (txtV s12)).1= [39,49,50]:=by
 unfold textV
 rw[if_pos (right_of_plain 1 (plain_txt ok12))]
 show(if(readV [49,50]).2=0∧(readV [49,50]).1.k=2∧(readV [49,50]).1.s=s12 then [49,50]else 39 :: [49,50])=_
 rw[rd_12,if_neg (by rintro⟨_,h,_⟩;exact absurd h (by decide))]
theorem n_150 :numT (txtV (mk [49,46,53,48]))=numV (15,-1):=by
 show(if(readD [49,46,53,48]).2=0 then numV (readD [49,46,53,48]).1 else errV 3)=_
 rw[read15,if_pos rfl]
theorem aw_text :arrL (arrV 2 2 aw)= [123,49,46,53,44,34,49,50,34,59,84,82,85,69,44,35,78,47,65,125]:=by
 have h1:cellL (numV (15,-1))= [49,46,53]:=by
  show(textD 15 (-1)).1=_
  exact text15
 have h2:cellL (txtV s12)= [34,49,50,34]:=rfl
 have h3:cellL (trV true)= [84,82,85,69]:=rfl
 have h4:cellL (errV 7)= [35,78,47,65]:=rfl
 unfold arrL
 show 123 :: (Lib.join (rowsF 4 2 aw) [59]++ [125])=_
 have hr:rowsF 4 2 aw= [Lib.join [cellL (numV (15,-1)),cellL (txtV s12)] [44],Lib.join [cellL (trV true),cellL (errV 7)] [44]]:=rfl
 rw[hr,h1,h2,h3,h4]
 rfl
theorem cmp_aw :cmpV 2 (numV (15,-1)) (txtV s12)= -1:=by
 unfold cmpV
 rw[if_pos ⟨right_of_plain 1 (plain_num r15),right_of_plain 1 (plain_txt ok12)⟩]
 rfl
theorem get_aw :getV 2 (arrV 2 2 aw) 1 0=trV true:=by
 rw[get_arr (aw_right 1) (by decide) (by decide)]
 rfl
theorem txt_aw :txtT (numV (15,-1))=txtV (mk [49,46,53]):=by
 show txtV (mk (textD 15 (-1)).1)=_
 rw[text15]
theorem tru_aw :truT (numV (15,-1))=trV true:=rfl
theorem ne_aw :¬arrV 2 2 aw=numV (15,-1):=fun e=>by
 have:=congrArg Vl.k e
 cases this
end Go.Proofs.YtkhohjdakcchdaaGreatDoor
