/- Merged: Lwf, Lwb, Lwt, Lwo. -/
import Derived.Test.YtmhfioimgllgeaaGreatDoorR22
import Derived.Test.YtmhfioimgllgeaaGreatDoorR15
import Derived.Test.YtmhfioimgllgeaaGreatDoorR23
namespace Go.Proofs.YtmhfioimgllgeaaGreatDoor
open Go
theorem text_ascii :∀(l:List UInt8),(∀c∈l,32≤c.toNat∧c.toNat<127)→isTextL l=true
 | [],_=>rfl
 |c :: r,h=>by
  obtain⟨h1,h2⟩:=h c List.mem_cons_self
  have hs:sgnL (c :: r)=1:=by
   unfold sgnL sgnN
   rw[if_neg (by simp),if_pos (show((c :: r).getD 0 0).toNat<128 by show c.toNat<128;omega)]
  have ho:oddB c=false:=by
   unfold oddB
   simp
   omega
  rw[isTextL_step _ (by simp),hs,if_neg (by
   rintro(h|h)
   ·cases h
   ·have:oddB c=true:=h
    rw[ho]at this;cases this)]
  exact text_ascii r (fun c hc=>h c (List.mem_cons_of_mem _ hc))
theorem shown_fig {x y:Int} (h:RightP (x,y)):isTextL (textR x y)=true:=by
 obtain⟨A,P,m,e,hA,_,hP,h0,_⟩:=shown_parts h
 have hd:∀l:List UInt8,figB l=true→∀c∈l,32≤c.toNat∧c.toNat<127:=fun l hl c hc=>by
  have:=isDig_bd (List.all_eq_true.1 (figB_iff hl).2.2 c hc)
  omega
 rw[e]
 refine text_ascii _ fun c hc=> ?_
 rw[List.mem_append]at hc
 rcases hc with hc|hc
 ·split at hc
  ·simp at hc;subst hc;decide
  ·simp at hc
 ·unfold joinL at hc
  rw[List.mem_append]at hc
  rcases hc with hc|hc
  ·exact hd A hA c hc
  ·cases m with
   |true=>
    simp at hc
    rcases hc with hc|hc
    ·subst hc;decide
    ·exact hd P (hP rfl) c hc
   |false=>simp at hc
end Go.Proofs.YtmhfioimgllgeaaGreatDoor
namespace Go.Proofs.YtmhfioimgllgeaaGreatDoor
open Go
theorem mk_list (l:List UInt8):(mk l).data.toList=l:=rfl
theorem plain_kind {x:Vl} (h:plainV x=true):x.k≠5∧x.k≠6:=by
 rcases plain_cases h with e|⟨p,e,_⟩|⟨s,e,_⟩|⟨b,e⟩|⟨n,e,_⟩<;>subst e<;>exact⟨(by intro e;cases e),(by intro e;cases e)⟩
theorem right_plain {x:Vl} (n:Nat) (h5:x.k≠5) (h6:x.k≠6):rightV (n+1) x=plainV x:=by
 rw[rightV,if_neg h5,if_neg h6]
theorem right_of_plain {x:Vl} (n:Nat) (h:plainV x=true):rightV (n+1) x=true:=by
 rw[right_plain n (plain_kind h).1 (plain_kind h).2,h]
end Go.Proofs.YtmhfioimgllgeaaGreatDoor
namespace Go.Proofs.YtmhfioimgllgeaaGreatDoor
open Go
theorem txt_shown {x y:Int} (h:RightP (x,y)):txtOk (mk (textR x y))=true:=by
 unfold txtOk
 rw[mk_list,shown_fig h,Bool.and_true,decide_eq_true_eq]
 show(textR x y).length≤200
 have:=(text_plain h).2.2.2
 omega
theorem tru_right (b:Bool):RightP (truI b,0):=by cases b<;>simp[RightP,truI]
theorem numT_plain {x:Vl} (h:plainV x=true):plainV (numT x)=true:=by
 rcases plain_cases h with e|⟨p,e,hr⟩|⟨s,e,hs⟩|⟨b,e⟩|⟨n,e,h1,h2⟩
 ·subst e;exact plain_num right_nought
 ·subst e;exact plain_num hr
 ·subst e
  show plainV (if(readD s.data.toList).2=0 then numV (readD s.data.toList).1 else errV 3)=true
  split
  ·rename_i h0
   rcases read_three s.data.toList with ⟨p,hp,hr⟩|e|e
   ·rw[hp];exact plain_num hr
   ·rw[e]at h0;exact absurd h0 (by decide)
   ·rw[e]at h0;exact absurd h0 (by decide)
  ·exact plain_err (by decide) (by decide)
 ·subst e
  exact plain_num (tru_right b)
 ·subst e;exact plain_err h1 h2
theorem txtT_plain {x:Vl} (h:plainV x=true):plainV (txtT x)=true:=by
 rcases plain_cases h with e|⟨p,e,hr⟩|⟨s,e,hs⟩|⟨b,e⟩|⟨n,e,h1,h2⟩
 ·subst e;exact plain_txt (by decide)
 ·subst e
  show plainV (txtV (mk (textD p.1 p.2).1))=true
  rw[(text_plain (x:=p.1) (y:=p.2) hr).1]
  exact plain_txt (txt_shown hr)
 ·subst e;exact plain_txt hs
 ·subst e;cases b<;>exact plain_txt (by decide)
 ·subst e;exact plain_err h1 h2
theorem truT_two {x:Vl} (h:plainV x=true):(∃b,truT x=trV b)∨(∃n,truT x=errV n∧1≤n∧n≤9):=by
 rcases plain_cases h with e|⟨p,e,hr⟩|⟨s,e,hs⟩|⟨b,e⟩|⟨n,e,h1,h2⟩
 ·subst e;exact .inl ⟨_,rfl⟩
 ·subst e;exact .inl ⟨_,rfl⟩
 ·subst e
  show(∃b,(match truthL s.data.toList with|some b=>trV b|none=>errV 3)=trV b)∨(∃n,(match truthL s.data.toList with|some b=>trV b|none=>errV 3)=errV n∧1≤n∧n≤9)
  cases truthL s.data.toList with
  |some b=>exact .inl ⟨_,rfl⟩
  |none=>exact .inr ⟨_,rfl,by decide,by decide⟩
 ·subst e;exact .inl ⟨_,rfl⟩
 ·subst e;exact .inr ⟨_,rfl,h1,h2⟩
theorem truT_plain {x:Vl} (h:plainV x=true):plainV (truT x)=true:=by
 rcases truT_two h with ⟨b,e⟩|⟨n,e,h1,h2⟩<;>rw[e]
 ·exact plain_tr b
 ·exact plain_err h1 h2
/-- An array that is right. -/
theorem right_arr {n:Nat} {r c:Int} {l:List Vl}:rightV (n+1) (arrV r c l)=true↔(1≤r∧1≤c∧r≤400∧c≤400∧r*c≤400∧(l.length:Int)=r*c)∧∀x∈l,plainV x=true:=by
 rw[rightV,if_pos (show(arrV r c l).k=5 from rfl),Bool.and_eq_true,Bool.and_eq_true,List.all_eq_true]
 unfold dimsB
 rw[decide_eq_true_eq]
 constructor
 ·rintro⟨h1,_,h2⟩;exact⟨h1,h2⟩
 ·rintro⟨h1,h2⟩;exact⟨h1,by simp[bareV,arrV];rfl,h2⟩
/-- Where in an array. -/
def atI (d i:Int):Int:=if d=1 then 0 else i
theorem get_arr {n:Nat} {r c i j:Int} {l:List Vl} (h:rightV (n+1) (arrV r c l)=true) (hi:0≤i) (hj:0≤j):
 getV (n+1) (arrV r c l) i j=if r≤atI r i∨c≤atI c j then errV 7 else l.getD (atI r i*c+atI c j).toNat {}:=by
 unfold getV
 rw[if_pos h,if_neg (by omega),if_pos (show(arrV r c l).k=5 from rfl)]
 rfl
theorem at_lt {r c i j:Int} (hi:0≤i) (hj:0≤j) (h:¬(r≤atI r i∨c≤atI c j)):0≤atI r i*c+atI c j∧atI r i*c+atI c j<r*c:=by
 have h1:0≤atI r i:=by unfold atI;split<;>omega
 have h2:0≤atI c j:=by unfold atI;split<;>omega
 generalize atI r i=a at*
 generalize atI c j=b at*
 have ha:a+1≤r:=by omega
 have hc:0<c:=by omega
 have:=Int.mul_le_mul_of_nonneg_right ha (Int.le_of_lt hc)
 rw[Int.add_mul,Int.one_mul]at this
 have h3:=Int.mul_nonneg h1 (Int.le_of_lt hc)
 omega
end Go.Proofs.YtmhfioimgllgeaaGreatDoor
namespace Go.Proofs.YtmhfioimgllgeaaGreatDoor
open Go
theorem ordI_zero {x y:Int}:ordI x y=0↔x=y:=by
 unfold ordI
 (repeat' split)<;>omega
/-- Of one kind. -/
def kindV (x y:Vl):Int:=
 if x.k=1 then cmpD x.m x.e y.m y.e else if x.k=2 then Lib.compareBytes (lowL x.s.data.toList) (lowL y.s.data.toList)
 else if x.k=3 then ordI (truI x.b) (truI y.b)else if x.k=4 then ordI x.err y.err else 0
theorem oneV_lex (x y:Vl):oneV x y=if x.k=y.k then kindV x y else ordI x.k y.k:=by
 unfold oneV kindV
 by_cases h:x.k=y.k
 ·rw[if_neg (by simpa using h),if_pos h]
 ·rw[if_pos h,if_neg h]
def ArrP (x:Vl):Prop:=plainV x=true∨(x.k=5∧rightV 1 x=true)
theorem ArrP.right {x:Vl} (h:ArrP x) (n:Nat):rightV (n+1) x=true:=by
 rcases h with h|⟨h,h2⟩
 ·exact right_of_plain n h
 ·rw[rightV,if_pos h]at h2 ⊢;exact h2
end Go.Proofs.YtmhfioimgllgeaaGreatDoor
