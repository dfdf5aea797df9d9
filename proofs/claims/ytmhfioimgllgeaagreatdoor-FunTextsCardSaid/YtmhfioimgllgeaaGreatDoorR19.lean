/- Merged: Lists, Dl, Trims, Push, Digs, Pluses, Minuses, Times, Bys. -/
import Derived.Test.YtmhfioimgllgeaaGreatDoorR01
import Derived.Test.YtmhfioimgllgeaaGreatDoorR05
import Derived.Test.YtmhfioimgllgeaaGreatDoorR02
import Derived.WalkKit
import Derived.Lib.Hide
import Derived.Laws.AppendOwnNone
namespace Go.Proofs.YtmhfioimgllgeaaGreatDoor
/-- How many digits. -/
def lenD (n:Nat):Nat:=if h:n=0 then 0 else lenD (n / 10)+1
termination_by n
decreasing_by omega
theorem lenD_zero :lenD 0=0:=by rw[lenD];rfl
theorem lenD_pos {n:Nat} (h:n≠0):lenD n=lenD (n / 10)+1:=by rw[lenD,dif_neg h]
theorem lenD_iff :∀(k n:Nat),lenD n≤k↔n<10 ^ k
 |0,n=>by
  by_cases h:n=0
  ·subst h;rw[lenD_zero];decide
  ·rw[lenD_pos h,Nat.pow_zero];omega
 |k+1,n=>by
  by_cases h:n=0
  ·subst h;rw[lenD_zero];exact⟨fun _=>pow10_pos _,fun _=>Nat.zero_le _⟩
  ·rw[lenD_pos h,Nat.add_le_add_iff_right,lenD_iff k,Nat.pow_succ,Nat.div_lt_iff_lt_mul (by decide)]
theorem lenD_lt (n:Nat):n<10 ^ lenD n:=(lenD_iff _ _).1 (Nat.le_refl _)
theorem lenD_ge {n k:Nat} (h:k<lenD n):10 ^ k≤n:=by
 rcases Nat.lt_or_ge n (10 ^ k)with c|c
 ·have:=(lenD_iff k n).2 c;omega
 ·exact c
theorem lenD_mono {a b:Nat} (h:a≤b):lenD a≤lenD b:=(lenD_iff _ _).2 (Nat.lt_of_le_of_lt h (lenD_lt b))
theorem lenD_less {a b:Nat} (h:lenD a<lenD b):a<b:=Nat.lt_of_lt_of_le (lenD_lt a) (lenD_ge h)
theorem lenD_eq_zero {n:Nat}:lenD n=0↔n=0:=by
 constructor
 ·intro h
  have:=lenD_lt n
  rw[h]at this;omega
 ·rintro rfl;exact lenD_zero
theorem lenD_add (a b:Nat):lenD (a+b)≤max (lenD a) (lenD b)+1:=by
 rw[lenD_iff,Nat.pow_succ]
 have h1:a<10 ^ max (lenD a) (lenD b):=(lenD_iff _ _).1 (Nat.le_max_left _ _)
 have h2:b<10 ^ max (lenD a) (lenD b):=(lenD_iff _ _).1 (Nat.le_max_right _ _)
 omega
theorem lenD_tens {a:Nat} (h:a≠0):∀k,lenD (a*10 ^ k)=lenD a+k
 |0=>by rw[Nat.pow_zero,Nat.mul_one,Nat.add_zero]
 |k+1=>by
  have hp:=pow10_pos k
  have h2:a*10 ^ k≠0:=Nat.mul_ne_zero h (by omega)
  rw[Nat.pow_succ,←Nat.mul_assoc,lenD_pos (by omega),Nat.mul_div_cancel _ (by decide),lenD_tens h k];omega
theorem dg_len {n k:Nat} (h:lenD n≤k):dg n k=0:=dg_of_lt ((lenD_iff _ _).1 h)
theorem dg_top {n:Nat} {k:Nat} (h:lenD n=k+1):dg n k≠0:=by
 have h1:=lenD_ge (n:=n) (k:=k) (by omega)
 have h2:=lenD_lt n
 rw[h,Nat.pow_succ]at h2
 have hp:=pow10_pos k
 have h3:1≤n / 10 ^ k:=(Nat.le_div_iff_mul_le hp).2 (by omega)
 have h4:n / 10 ^ k<10:=Nat.div_lt_of_lt_mul (by omega)
 unfold dg
 omega
theorem lenD_drop {n k:Nat} (h:lenD n≤k+1) (hd:dg n k=0):lenD n≤k:=by
 rcases Nat.lt_or_ge k (lenD n)with c|c
 ·exact absurd hd (dg_top (by omega))
 ·exact c
/-- The list of the first digits. -/
def row (n L:Nat):List Value:=(List.range L).map fun i=> .int .i64 (dg n i)
theorem row_length (n L:Nat):(row n L).length=L:=by simp[row]
theorem row_zero (n:Nat):row n 0= []:=rfl
theorem row_succ (n L:Nat):row n (L+1)=row n L++ [.int .i64 (dg n L)]:=by simp[row,List.range_succ]
theorem row_at (n:Nat) {L i:Nat} (h:i<L):(row n L)[i]? =some (.int .i64 (dg n i)):=by simp[row,h]
theorem row_take (n:Nat) {L K:Nat} (h:K≤L):(row n L).take K=row n K:=by
 unfold row
 rw[←List.map_take,List.take_range,Nat.min_eq_left h]
theorem dg_div (n i j:Nat):dg (n / 10 ^ i) j=dg n (i+j):=by
 unfold dg
 rw[Nat.div_div_eq_div_mul,←Nat.pow_add]
theorem row_cons (n L:Nat):row n (L+1)= .int .i64 (dg n 0) :: row (n / 10) L:=by
 unfold row
 rw[List.range_succ_eq_map,List.map_cons,List.map_map]
 congr 1
 apply List.map_congr_left
 intro i _
 have:=dg_div n 1 i
 rw[Nat.pow_one,Nat.add_comm 1]at this
 simp only[Function.comp,Nat.succ_eq_add_one]
 rw[this]
theorem row_tens (a L:Nat):∀k,row (a*10 ^ k) (k+L)=List.replicate k (.int .i64 0)++row a L
 |0=>by rw[Nat.pow_zero,Nat.mul_one,Nat.zero_add];rfl
 |k+1=>by
  rw[show k+1+L=(k+L)+1 by omega,row_cons,Nat.pow_succ,←Nat.mul_assoc,Nat.mul_div_cancel _ (by decide),row_tens a L k,List.replicate_succ,List.cons_append]
  congr 2
  unfold dg
  rw[Nat.pow_zero,Nat.div_one,Nat.mul_mod_left];rfl
theorem row_one (n k:Nat):∀u∈row n k,u.oneCell'=true:=by
 intro u hu
 simp only[row,List.mem_map]at hu
 obtain⟨i,_,rfl⟩:=hu
 rfl
def carP (a b i:Nat):Nat:=(a%10 ^ i+b%10 ^ i) / 10 ^ i
theorem carP_zero (a b:Nat):carP a b 0=0:=by unfold carP;rw[Nat.pow_zero,Nat.mod_one,Nat.mod_one]
theorem dgN (n i:Nat):n / 10 ^ i%10=(dg n i).toNat:=by unfold dg;rw[Int.toNat_natCast]
theorem sum_split (a b i:Nat):(a+b) / 10 ^ i=a / 10 ^ i+b / 10 ^ i+carP a b i:=by
 unfold carP
 have h1:=Nat.div_add_mod a (10 ^ i)
 have h2:=Nat.div_add_mod b (10 ^ i)
 have:a+b=(a%10 ^ i+b%10 ^ i)+10 ^ i*(a / 10 ^ i+b / 10 ^ i):=by rw[Nat.mul_add];omega
 conv=>lhs;rw[this,Nat.add_mul_div_left _ _ (pow10_pos i)]
 omega
theorem carP_le (a b i:Nat):carP a b i≤1:=by
 unfold carP
 have hp:=pow10_pos i
 have h1:=Nat.mod_lt a hp
 have h2:=Nat.mod_lt b hp
 exact Nat.le_of_lt_succ ((Nat.div_lt_iff_lt_mul hp).2 (by omega))
theorem sum_dg (a b i:Nat):dg (a+b) i=(dg a i+dg b i+carP a b i)%10:=by
 unfold dg
 rw[sum_split]
 omega
theorem carP_succ (a b i:Nat):(carP a b (i+1):Int)=(dg a i+dg b i+carP a b i) / 10:=by
 have e1:=sum_split a b (i+1)
 have e2:=sum_split a b i
 rw[Nat.pow_succ,←Nat.div_div_eq_div_mul,←Nat.div_div_eq_div_mul,←Nat.div_div_eq_div_mul]at e1
 unfold dg
 omega
theorem carP_end {a b i:Nat} (ha:lenD a≤i) (hb:lenD b≤i) (hc:carP a b i=0):lenD (a+b)≤i:=by
 rw[lenD_iff]at*
 have e:=sum_split a b i
 rw[hc,Nat.div_eq_of_lt ha,Nat.div_eq_of_lt hb]at e
 exact(Nat.div_eq_zero_iff.1 e).resolve_left (Nat.ne_of_gt (pow10_pos i))
theorem carP_far {a b i:Nat} (ha:lenD a<i) (hb:lenD b<i):carP a b i=0:=by
 obtain⟨j,rfl⟩:∃j,i=j+1:=⟨i-1,by omega⟩
 have e:=carP_succ a b j
 rw[dg_len (by omega),dg_len (by omega)]at e
 have:=carP_le a b j
 omega
def borP (a b i:Nat):Nat:=if a%10 ^ i<b%10 ^ i then 1 else 0
theorem borP_zero (a b:Nat):borP a b 0=0:=by unfold borP;rw[Nat.pow_zero,Nat.mod_one,Nat.mod_one];rfl
theorem borP_le (a b i:Nat):borP a b i≤1:=by unfold borP;split<;>omega
theorem dif_split {a b:Nat} (h:b≤a) (i:Nat):(a-b) / 10 ^ i+b / 10 ^ i+borP a b i=a / 10 ^ i:=by
 have hp:=pow10_pos i
 have h1:=Nat.div_add_mod a (10 ^ i)
 have h2:=Nat.div_add_mod b (10 ^ i)
 have m1:=Nat.mod_lt a hp
 have m2:=Nat.mod_lt b hp
 have h3:=Nat.div_add_mod (a-b) (10 ^ i)
 have m3:=Nat.mod_lt (a-b) hp
 unfold borP
 generalize a / 10 ^ i=A at*
 generalize b / 10 ^ i=B at*
 generalize (a-b) / 10 ^ i=C at*
 generalize a%10 ^ i=ra at*
 generalize b%10 ^ i=rb at*
 generalize (a-b)%10 ^ i=rc at*
 generalize 10 ^ i=P at*
 have key:P*(C+B)+(rc+rb)=P*A+ra:=by rw[Nat.mul_add];omega
 split
 ·rename_i hlt
  have:P*(C+B+1)+(rc+rb-P)=P*A+ra∨rc+rb<P:=by
   rcases Nat.lt_or_ge (rc+rb) P with c|c
   ·exact .inr c
   ·left;rw[Nat.mul_add,Nat.mul_one];omega
  rcases this with e|e
  ·have e2:(P*(C+B+1)+(rc+rb-P)) / P=(P*A+ra) / P:=by rw[e]
   rw[Nat.mul_add_div hp,Nat.mul_add_div hp,Nat.div_eq_of_lt (a:=rc+rb-P) (by omega),Nat.div_eq_of_lt m1]at e2
   omega
  ·have e2:(P*(C+B)+(rc+rb))%P=(P*A+ra)%P:=by rw[key]
   rw[Nat.mul_add_mod,Nat.mul_add_mod,Nat.mod_eq_of_lt e,Nat.mod_eq_of_lt m1]at e2
   omega
 ·rename_i hge
  rcases Nat.lt_or_ge (rc+rb) P with c|c
  ·have e2:(P*(C+B)+(rc+rb)) / P=(P*A+ra) / P:=by rw[key]
   rw[Nat.mul_add_div hp,Nat.mul_add_div hp,Nat.div_eq_of_lt c,Nat.div_eq_of_lt m1]at e2
   omega
  ·have e3:P*(C+B+1)+(rc+rb-P)=P*A+ra:=by rw[Nat.mul_add,Nat.mul_one];omega
   have e2:(P*(C+B+1)+(rc+rb-P))%P=(P*A+ra)%P:=by rw[e3]
   rw[Nat.mul_add_mod,Nat.mul_add_mod,Nat.mod_eq_of_lt (a:=rc+rb-P) (by omega),Nat.mod_eq_of_lt m1]at e2
   omega
theorem dif_dg {a b:Nat} (h:b≤a) (i:Nat):dg (a-b) i=(if dg a i-dg b i-borP a b i<0 then dg a i-dg b i-borP a b i+10 else dg a i-dg b i-borP a b i)∧(borP a b (i+1):Int)=(if dg a i-dg b i-borP a b i<0 then 1 else 0):=by
 have e1:=dif_split h (i+1)
 have e2:=dif_split h i
 rw[Nat.pow_succ,←Nat.div_div_eq_div_mul,←Nat.div_div_eq_div_mul,←Nat.div_div_eq_div_mul]at e1
 have:=borP_le a b (i+1)
 unfold dg
 constructor<;>split<;>omega
theorem less_top {a b i:Nat} (h:a / 10 ^ (i+1)=b / 10 ^ (i+1)) (hd:dg a i≠dg b i):(a<b↔dg a i<dg b i):=by
 rw[Nat.pow_succ,←Nat.div_div_eq_div_mul,←Nat.div_div_eq_div_mul]at h
 have hp:=pow10_pos i
 have h1:=Nat.div_add_mod a (10 ^ i)
 have h2:=Nat.div_add_mod b (10 ^ i)
 have m1:=Nat.mod_lt a hp
 have m2:=Nat.mod_lt b hp
 unfold dg at*
 generalize a / 10 ^ i=A at*
 generalize b / 10 ^ i=B at*
 generalize 10 ^ i=P at*
 rcases Nat.lt_trichotomy A B with c|c|c
 ·have:P*(A+1)≤P*B:=Nat.mul_le_mul_left _ c
  rw[Nat.mul_add,Nat.mul_one]at this
  constructor<;>intro<;>omega
 ·subst c;omega
 ·have:P*(B+1)≤P*A:=Nat.mul_le_mul_left _ c
  rw[Nat.mul_add,Nat.mul_one]at this
  constructor<;>intro<;>omega
theorem same_next {a b i:Nat} (h:a / 10 ^ (i+1)=b / 10 ^ (i+1)) (hd:dg a i=dg b i):a / 10 ^ i=b / 10 ^ i:=by
 rw[Nat.pow_succ,←Nat.div_div_eq_div_mul,←Nat.div_div_eq_div_mul]at h
 unfold dg at hd
 omega
theorem div_next (a i:Nat):a / 10 ^ i=10*(a / 10 ^ (i+1))+(dg a i).toNat:=by
 rw[Nat.pow_succ,←Nat.div_div_eq_div_mul,←dgN]
 omega
theorem long_rem (a b i:Nat):(10*(a / 10 ^ (i+1)%b)+(dg a i).toNat)%b=a / 10 ^ i%b:=by
 rw[div_next a i,Nat.add_mod,Nat.mul_mod,Nat.mod_mod,←Nat.mul_mod,←Nat.add_mod]
theorem long_dig (a:Nat) {b:Nat} (hb:0<b) (i:Nat):(((10*(a / 10 ^ (i+1)%b)+(dg a i).toNat) / b:Nat):Int)=dg (a / b) i:=by
 have e:a / b / 10 ^ i=a / 10 ^ i / b:=by rw[Nat.div_div_eq_div_mul,Nat.div_div_eq_div_mul,Nat.mul_comm]
 have hd:(dg a i).toNat<10:=by have:=dg_le a i;have:=dg_nonneg a i;omega
 have key:a / 10 ^ i / b=10*(a / 10 ^ (i+1) / b)+(10*(a / 10 ^ (i+1)%b)+(dg a i).toNat) / b:=by
  rw[div_next a i]
  generalize (dg a i).toNat=d
  have h1:=Nat.div_add_mod (a / 10 ^ (i+1)) b
  generalize a / 10 ^ (i+1)=X at*
  have e2:10*X+d=b*(10*(X / b))+(10*(X%b)+d):=by
   have:b*(10*(X / b))=10*(b*(X / b)):=by ac_rfl
   omega
  rw[e2,Nat.mul_add_div hb]
 have hlt:(10*(a / 10 ^ (i+1)%b)+(dg a i).toNat) / b<10:=by
  have hr:=Nat.mod_lt (a / 10 ^ (i+1)) hb
  rw[Nat.div_lt_iff_lt_mul hb];omega
 have:dg (a / b) i=((a / b / 10 ^ i%10:Nat):Int):=rfl
 rw[this,e,key]
 generalize (10*(a / 10 ^ (i+1)%b)+(dg a i).toNat) / b=y at*
 generalize a / 10 ^ (i+1) / b=z
 omega
theorem long_start (a b:Nat):a / 10 ^ lenD a%b=0:=by rw[Nat.div_eq_of_lt (lenD_lt a),Nat.zero_mod]
theorem quo_row (a b i L:Nat) (h:i<L):row (a / b / 10 ^ i) (L-i)= .int .i64 (dg (a / b) i) :: row (a / b / 10 ^ (i+1)) (L-(i+1)):=by
 rw[show L-i=(L-(i+1))+1 by omega,row_cons,dg_div,Nat.add_zero,Nat.div_div_eq_div_mul (a / b),←Nat.pow_succ]
theorem quo_len (a b:Nat):lenD (a / b)≤lenD a:=lenD_mono (Nat.div_le_self _ _)
end Go.Proofs.YtmhfioimgllgeaaGreatDoor
namespace Go.Proofs.YtmhfioimgllgeaaGreatDoor
open Go.RowKit
def World.dr (w:World) (b:Nat) (v:Value) (n L:Nat):Prop:=w.ownsRow b 3 1 v L (row n L)
/-- v is the list of n's digits, in a block of its own from b on. -/
def World.dl (w:World) (b:Nat) (v:Value) (n:Nat):Prop:=World.dr w b v n (lenD n)
section
variable {w w' : World} {b b' : Nat} {v : Value} {n L : Nat}
theorem World.dr.row (h:World.dr w b v n L):w.ownsRow b 3 1 v L (row n L):=h
theorem World.dr.under {B:Nat} (h:World.dr w b v n L) (hB:Below B w w') (hv:∀k,v.ownBlock=some k→k<B):World.dr w' b v n L:=by
 refine⟨h.1,?_⟩
 rcases h.2 with hn|⟨g,cap,cur,rfl,hb,hgg,rest⟩
 ·exact .inl hn
 ·refine .inr ⟨g,cap,cur,rfl,hb,?_,rest⟩
  rw[hB.block g (hv g rfl)];exact hgg
theorem World.dr.lt (h:World.dr w b v n L):∀k,v.ownBlock=some k→k<w.heap.size:=fun k hk=>(World.ownsRow.lt h k hk).2
theorem World.dr.below (h:World.dr w b v n L) (hB:Below w.heap.size w w'):World.dr w' b v n L:=h.under hB h.lt
theorem World.dr.mono (h:World.dr w b v n L) (hb:b'≤b):World.dr w b' v n L:=by
 refine⟨h.1,?_⟩
 rcases h.2 with hn|⟨g,cap,cur,rfl,hb2,rest⟩
 ·exact .inl hn
 ·exact .inr ⟨g,cap,cur,rfl,by omega,rest⟩
theorem World.dr.alloc (h:World.dr w b v n L) (o:Obj):World.dr (w.alloc o) b v n L:=World.ownsRow.alloc h o
theorem World.dr.drew (h:World.dr w b v n L):World.dr w.drew b v n L:=h
theorem World.dr.kept {r:Option Nat} (h:World.dr w b v n L) (hg:w.grownBy w' r) (hne:∀k,r=some k→∀j,v.ownBlock=some j→j≠k):World.dr w' b v n L:=by
 refine World.ownsRow.kept h hg ?_
 cases hv:v.ownBlock with
 |none=>exact .inl rfl
 |some j=>
  right
  cases hr:r with
  |none=>exact fun e=>by cases e
  |some k=>exact fun e=>hne k hr j hv (Option.some.inj e)
theorem World.dr.nil (w:World) (b n:Nat):World.dr w b (.slice none 0 0) n 0:=World.ownsRow_nil _ _ _ _
theorem World.dr.len (h:World.dr w b v n L):∃ao cap,v= .slice ao L cap:=by
 rcases h.2 with ⟨rfl,rfl⟩|⟨g,cap,cur,rfl,_⟩
 ·exact⟨_,_,rfl⟩
 ·exact⟨_,_,rfl⟩
theorem World.dr.cell {g cap:Nat} (h:World.dr w b (.slice (some ⟨g,0,none⟩) L cap) n L) {i:Nat} (hi:i<L):w.cell? ⟨g,i,none⟩=some (.int .i64 (dg n i)):=by
 rw[World.ownsRow.cellAt h i (by omega),row_at n hi]
theorem World.dr.some (h:World.dr w b v n L) (hL:0<L):∃g cap,v= .slice (some ⟨g,0,none⟩) L cap∧b≤g∧g<w.heap.size∧L≤cap:=by
 rcases h.2 with ⟨rfl,rfl⟩|⟨g,cap,cur,rfl,hb,hg,hn,_⟩
 ·exact absurd hL (by decide)
 ·exact⟨g,cap,rfl,hb,(Array.getElem?_eq_some_iff.1 hg).1,hn⟩
theorem World.dr.cut {ao:Option Addr} {cap K:Nat} (h:World.dr w b (.slice ao L cap) n L) (hK:K≤L):World.dr w b (.slice ao K cap) n K:=by
 refine⟨by rw[row_length];omega,?_⟩
 rcases h.2 with ⟨e,rfl⟩|⟨g,cap',cur,e,hb,hg,hn,hm,hs,ht⟩
 ·cases e
  obtain rfl:K=0:=by omega
  exact .inl ⟨rfl,rfl⟩
 ·cases e
  refine .inr ⟨g,cap,cur,rfl,hb,hg,by omega,hm,hs,?_⟩
  rw[←row_take n hK,←ht,List.take_take]
  congr 1;omega
theorem World.dl.of (h:World.dr w b v n L) (hL:L=lenD n):World.dl w b v n:=by subst hL;exact h
theorem World.dl.below (h:World.dl w b v n) (hB:Below w.heap.size w w'):World.dl w' b v n:=World.dr.below h hB
theorem World.dl.mono (h:World.dl w b v n) (hb:b'≤b):World.dl w b' v n:=World.dr.mono h hb
theorem World.dl.alloc (h:World.dl w b v n) (o:Obj):World.dl (w.alloc o) b v n:=World.dr.alloc h o
theorem World.dl.len (h:World.dl w b v n):∃ao cap,v= .slice ao (lenD n) cap:=World.dr.len h
theorem World.dl.lt (h:World.dl w b v n):∀k,v.ownBlock=some k→k<w.heap.size:=World.dr.lt h
end
/-- A list's digits beyond its length do not count. -/
theorem row_of {n m L:Nat} (h:∀i,i<L→dg n i=dg m i):row n L=row m L:=by
 unfold row
 apply List.map_congr_left
 intro i hi
 rw[h i (List.mem_range.1 hi)]
theorem World.dr.of {w:World} {b:Nat} {v:Value} {n m L:Nat} (h:World.dr w b v n L) (e:∀i,i<L→dg n i=dg m i):World.dr w b v m L:=by
 have:=h.row
 rw[row_of e]at this
 exact this
end Go.Proofs.YtmhfioimgllgeaaGreatDoor
namespace Go.Proofs.YtmhfioimgllgeaaGreatDoor
open Go.RowKit
set_option maxRecDepth 100000 in
set_option maxHeartbeats 2000000 in
theorem cutd_any (b:Nat) (v:Value) (n L:Nat) (w:World) (h:World.dr w b v n L) (hn:lenD n≤L) (hL:L≤1000):
 Calls Tryz.prog 289 #[v] w fun e w'=>∃v',e= .returned v'∧World.dl w b v' n∧w'=w:=by
 obtain⟨ao,cap,rfl⟩:=h.len
 have hcap:L≤cap∧cap≤maxLen:=by
  rcases h.2 with ⟨e,rfl⟩|⟨g,c,cur,e,_,_,h1,h2,_⟩
  ·cases e;exact⟨Nat.le_refl _,by unfold maxLen;omega⟩
  ·cases e;exact⟨h1,h2⟩
 obtain⟨hc1,hc2⟩:=hcap
 have HN:=Lib.hid hn
 clear hn
 go_enter Tryz.func289,Tryz.ntmps289
 go_wp2_with fail
 go_loopw [3] (fun k wr=>∃K:Nat,k= .int .i64 K∧K≤L∧Hid (lenD n≤K)∧wr=w) (fun k _=>(intOf k).toNat)
 case atStart=>exact⟨L,rfl,Nat.le_refl _,HN,rfl⟩
 case round=>
  obtain⟨K,rfl,k0,HK,rfl⟩:=hrel
  clear HN
  by_cases c:K=0
  ·subst c
   go_wp2_with fail
   go_ret
   have e0:lenD n=0:=by have:=HK.out;omega
   exact⟨_,rfl,World.dl.of (h.cut (Nat.zero_le _)) e0.symm,rfl⟩
  ·obtain⟨g,cap',e,hbg,hg,hc⟩:=h.some (by omega)
   cases e
   have hc0:=h.cell (i:=K-1) (by omega)
   have c1:(K:Int)-1=((K-1:Nat):Int):=by omega
   by_cases hz:dg n (K-1)=0
   ·rw[hz]at hc0
    go_wp2_with fail
    go_roundw
    case rel=>
     refine⟨K-1,by go_num,by omega,?_,by first|rfl|trivial⟩
     show lenD n≤K-1
     exact lenD_drop (by have:=HK.out;omega) hz
    case measure=>simp[intOf];omega
   ·have hzb:(dg n (K-1)==0)=false:=by simpa using hz
    have hK:lenD n=K:=by
     have:=HK.out
     rcases Nat.lt_or_ge (lenD n) K with c2|c2
     ·exact absurd (dg_len (by omega)) hz
     ·omega
    go_wp2_with fail
    go_ret
    exact⟨_,rfl,World.dl.of (h.cut k0) hK.symm,rfl⟩
set_option maxHeartbeats 1000000 in
theorem at_any (b:Nat) (v:Value) (n i:Nat) (w:World) (h:World.dl w b v n) (hi:i≤1000) (hL:lenD n≤1000):
 Calls Tryz.prog 229 #[v,.int .i64 i] w fun e w'=>e= .returned (.int .i64 (dg n i))∧w'=w:=by
 obtain⟨ao,cap,rfl⟩:=h.len
 obtain⟨L,hLn⟩:∃L,lenD n=L:=⟨_,rfl⟩
 have h':World.dr w b (.slice ao (lenD n) cap) n (lenD n):=h
 rw[hLn]at hL h'⊢
 by_cases c:i<L
 ·obtain⟨g,cap',e,hbg,hg,hc⟩:=h'.some (by omega)
  cases e
  have hc0:=h'.cell c
  have HN:=Lib.hid hLn
  clear hLn h h'
  go_enter Tryz.func229,Tryz.ntmps229
  go_wp2_with fail
  go_ret
  exact⟨rfl,rfl⟩
 ·have HZ:=Lib.hid (dg_len (n:=n) (k:=i) (by omega))
  clear hLn h h'
  go_enter Tryz.func229,Tryz.ntmps229
  go_wp2_with fail
  go_ret
  exact⟨ret_int HZ.out.symm,rfl⟩
set_option maxRecDepth 100000 in
set_option maxHeartbeats 2000000 in
theorem less_any (b b':Nat) (v v':Value) (x y:Nat) (w:World) (h:World.dl w b v x) (h':World.dl w b' v' y) (hx:lenD x≤1000) (hy:lenD y≤1000):
 Calls Tryz.prog 106 #[v,v'] w fun e w'=>e= .returned (.bool (decide (x<y)))∧∃n,w'=w.drewN n:=by
 obtain⟨ao,cap,rfl⟩:=h.len
 obtain⟨ao',cap',rfl⟩:=h'.len
 obtain⟨L,hLx⟩:∃L,lenD x=L:=⟨_,rfl⟩
 obtain⟨L',hLy⟩:∃L,lenD y=L:=⟨_,rfl⟩
 have r:World.dr w b (.slice ao (lenD x) cap) x (lenD x):=h
 have r':World.dr w b' (.slice ao' (lenD y) cap') y (lenD y):=h'
 rw[hLx]at hx r⊢
 rw[hLy]at hy r'⊢
 have HX:=Lib.hid hLx
 have HY:=Lib.hid hLy
 clear hLx hLy h h'
 by_cases c:L=L'
 ·subst c
  have hx64:(L:Int)-1≤1000:=by omega
  go_enter Tryz.func106,Tryz.ntmps106
  go_wp2_with fail
  go_loopw [5] (fun k wr=>∃K:Nat,k= .int .i64 ((K:Int)-1)∧K≤L∧Hid (x / 10 ^ K=y / 10 ^ K)∧∃n,wr=w.drewN n) (fun k _=>(intOf k+1).toNat)
  case atStart=>
   refine⟨L,rfl,Nat.le_refl _,?_,0,rfl⟩
   show _=_
   rw[Nat.div_eq_of_lt (by rw[←HX.out];exact lenD_lt x),Nat.div_eq_of_lt (by rw[←HY.out];exact lenD_lt y)]
  case round=>
   obtain⟨K,rfl,k0,HK,n,rfl⟩:=hrel
   cases K with
   |zero=>
    go_wp2_with fail
    go_ret
    refine⟨ret_bool ?_,n,rfl⟩
    have e:=HK.out
    rw[Nat.pow_zero,Nat.div_one,Nat.div_one]at e
    rw[e];simp
   |succ k=>
    rw[show ((k+1:Nat):Int)-1=(k:Int) by omega]
    have HA:=Lib.hid hx64
    clear hx64
    obtain⟨g,_,e,hbg,hg,hc⟩:=r.some (by omega)
    cases e
    obtain⟨g',_,e,hbg',hg',hc'⟩:=r'.some (by omega)
    cases e
    have c1:=r.cell (i:=k) (by omega)
    have c2:=r'.cell (i:=k) (by omega)
    have hkI:(k:Int)<1000:=by omega
    have hkL:(k:Int)<L:=by omega
    by_cases hd:dg x k=dg y k
    ·have HE:Hid (x / 10 ^ k=y / 10 ^ k):=same_next HK.out hd
     rw[←hd]at c2
     clear hd
     go_wp2_with fail
     go_quiet (fail)
     go_wp2_with fail
     go_roundw
     case rel=>exact⟨k,rfl,by omega,HE,_,rfl⟩
     case measure=>first|(simp[intOf];done)|(simp[intOf];omega)
    ·have hb:(dg x k != dg y k)=true:=by simpa using hd
     have HE:Hid (decide (dg x k<dg y k)=decide (x<y)):=decide_eq_decide.2 (less_top HK.out hd).symm
     clear hd
     go_wp2_with fail
     go_quiet (fail)
     go_wp2_with fail
     go_quiet (fail)
     go_wp2_with fail
     go_ret
     refine⟨ret_bool HE.out,?_⟩
     simp only[World.drewN_drewN]
     exact⟨_,rfl⟩
 ·have hT:decide (x<y)=decide (L<L'):=by
   rw[decide_eq_decide,←HX.out,←HY.out]
   constructor
   ·intro h
    have h1:=lenD_mono (Nat.le_of_lt h)
    have h2:lenD x≠lenD y:=by rw[HX.out,HY.out];exact c
    omega
   ·exact lenD_less
  have HT:=Lib.hid hT
  clear hT
  go_enter Tryz.func106,Tryz.ntmps106
  go_wp2_with fail
  go_ret
  exact⟨ret_bool HT.out.symm,0,rfl⟩
set_option maxRecDepth 100000 in
set_option maxHeartbeats 2000000 in
theorem value_any (b:Nat) (v:Value) (n:Nat) (w:World) (h:World.dl w b v n) (hn:lenD n≤18):
 Calls Tryz.prog 231 #[v] w fun e w'=>e= .returned (.int .i64 n)∧w'=w:=by
 obtain⟨ao,cap,rfl⟩:=h.len
 obtain⟨L,hL⟩:∃L,lenD n=L:=⟨_,rfl⟩
 have r:World.dr w b (.slice ao (lenD n) cap) n (lenD n):=h
 rw[hL]at hn r⊢
 have hbd:Hid (n<1000000000000000000):=by
  have:=(lenD_iff 18 n).1 (by omega)
  exact Nat.lt_of_lt_of_le this (by decide)
 have HL:=Lib.hid hL
 clear hL h
 go_enter Tryz.func231,Tryz.ntmps231
 go_wp2_with fail
 go_loopw [4,3] (fun k m wr=>∃K M:Nat,k= .int .i64 ((K:Int)-1)∧m= .int .i64 (M:Int)∧K≤L∧Hid (M=n / 10 ^ K)∧wr=w) (fun k _ _=>(intOf k+1).toNat)
 case atStart=>
  refine⟨L,0,rfl,rfl,Nat.le_refl _,?_,rfl⟩
  show _=_
  rw[Nat.div_eq_of_lt (by rw[←HL.out];exact lenD_lt n)]
 case round=>
  obtain⟨K,M,rfl,rfl,k0,HK,rfl⟩:=hrel
  cases K with
  |zero=>
   go_wp2_with fail
   go_ret
   refine⟨ret_int ?_,rfl⟩
   rw[HK.out,Nat.pow_zero,Nat.div_one]
  |succ k=>
   rw[show ((k+1:Nat):Int)-1=(k:Int) by omega]
   obtain⟨g,_,e,hbg,hg,hc⟩:=r.some (by omega)
   cases e
   have c1:=r.cell (i:=k) (by omega)
   have hkI:(k:Int)<1000:=by omega
   have hkL:(k:Int)<L:=by omega
   have d0:=dg_nonneg n k
   have d1:=dg_le n k
   have HE:=Lib.hid (div_next n k)
   have hM:(10:Int)*(M:Int)+dg n k≤1000000000000000000:=by
    have e:=HE.out
    rw[←HK.out]at e
    have:=Nat.div_le_self n (10 ^ k)
    have:=hbd.out
    omega
   obtain⟨D,hD⟩:∃D,dg n k=D:=⟨_,rfl⟩
   rw[hD]at c1 d0 d1 hM
   have HD:=Lib.hid hD
   clear hD
   go_wp2_with fail
   go_roundw
   case rel=>
    refine⟨k,n / 10 ^ k,rfl,?_,by omega,rfl,by first|rfl|trivial⟩
    have e:=HE.out
    rw[←HK.out,HD.out]at e
    congr 1
    omega
   case measure=>first|(simp[intOf];done)|(simp[intOf];omega)
end Go.Proofs.YtmhfioimgllgeaaGreatDoor
namespace Go.Proofs.YtmhfioimgllgeaaGreatDoor
open Go.RowKit
theorem info3 :(Tryz.prog.info? 3).map (fun i=>(i.zero,i.size,i.bytes))=some (some (.int .i64 0),1,8):=by kernel_rfl
section
variable {w : World} {ops : Array Oper} {rest : List Oper} {o : Oper} {a : Act} {Q : Exit → Act → World → Prop}
/-- One digit more. -/
theorem wpList_push (hgd:o.guard=none) (s x:Operand) (ho:o.op= .call {callee:= .builtin .append,args:= #[s,x],argTypes:= #[146,146]})
 (base:Nat) (v:Value) (n L g:Nat) (d:Int) (hown:World.dr w base v n L) (hL:L≤2000) (hs:a.eval s=v) (hx:a.eval x= .slice (some ⟨g,0,none⟩) 1 1) (hc:w.cell? ⟨g,0,none⟩=some (.int .i64 d)) (hd:d=dg n L) (hbase:base≤w.heap.size)
 (h:∀v' w',World.dr w' base v' n (L+1)→Below base w w'→wpList Tryz.prog ops Q rest (a.put o.dst v') w'):wpList Tryz.prog ops Q (o :: rest) a w:=by
 obtain⟨i0,hi,hz0,hz1,hz2⟩:=info_parts info3
 refine wpList_append_own w hgd s x 146 ho base 3 i0 (.int .i64 0) 1 8 Tryz.underlying146 hi hz0 hz1 hz2 rfl (by decide) v L _ hs hown.row ⟨g,0,none⟩ 1 1 [.int .i64 d] hx rfl ?_ ?_ ?_ ?_ hbase ?_
 ·intro j u hj
  match j,hj with
  |0,hj=>simp at hj;subst hj;exact hc
 ·intro u hu;simp at hu;subst hu;rfl
 ·unfold maxLen;omega
 ·omega
 ·intro v' w' h1 h2 _
  refine h v' w' ?_ ((Below.refl base w).grown h2 hbase (fun k hk=>(World.ownsRow.lt hown.row k hk).1))
  unfold World.dr
  rw[row_succ,←hd];exact h1
/-- A list behind a list. -/
theorem wpList_cat (hgd:o.guard=none) (s x:Operand) (ho:o.op= .call {callee:= .builtin .append,args:= #[s,x],argTypes:= #[146,146]})
 (base:Nat) (v:Value) (n:Nat) (xs:List Value) (hown:w.ownsRow base 3 1 v n xs) (b2:Nat) (v2:Value) (m L:Nat) (hsrc:World.dr w b2 v2 m L) (hn:n+L≤4000) (hs:a.eval s=v) (hx:a.eval x=v2) (hbase:base≤w.heap.size)
 (h:∀v' w',w'.ownsRow base 3 1 v' (n+L) (xs++row m L)→Below base w w'→wpList Tryz.prog ops Q rest (a.put o.dst v') w'):wpList Tryz.prog ops Q (o :: rest) a w:=by
 obtain⟨i0,hi,hz0,hz1,hz2⟩:=info_parts info3
 have hsrc':=hsrc.row
 rcases hsrc.2 with ⟨rfl,rfl⟩|⟨g,cap,cur,rfl,hb,hg,hr⟩
 ·refine wpList_append_own_none hgd s x 146 ho base 3 i0 1 Tryz.underlying146 hi v n xs hs hown hx (h _ _ ?_ (Below.refl _ _))
  rw[row_zero,List.append_nil];exact hown
 ·refine wpList_append_own w hgd s x 146 ho base 3 i0 (.int .i64 0) 1 8 Tryz.underlying146 hi hz0 hz1 hz2 rfl (by decide) v n xs hs hown ⟨g,0,none⟩ L cap (row m L) hx (by rw[row_length,Nat.mul_one]) (hsrc'.cells rfl) (row_one m L) ?_ ?_ hbase ?_
  ·unfold maxLen;omega
  ·omega
  ·intro v' w' h1 h2 _
   exact h v' w' h1 ((Below.refl base w).grown h2 hbase (fun k hk=>(World.ownsRow.lt hown k hk).1))
end
end Go.Proofs.YtmhfioimgllgeaaGreatDoor
namespace Go.Proofs.YtmhfioimgllgeaaGreatDoor
open Go.RowKit
/-- A list of n's digits in new memory. -/
def DlPost (n:Nat) (w:World) (e:Ending) (w':World):Prop:=∃v,e= .returned v∧World.dl w' w.heap.size v n∧Below w.heap.size w w'
theorem dig_pos {m:Int} {N k:Nat} (h:m.natAbs=N / 10 ^ k):(0≤m→m.tmod 10=dg N k)∧(m<0→m.tmod 10= -dg N k)∧(m.tdiv 10).natAbs=N / 10 ^ (k+1):=by
 unfold dg
 rw[Nat.pow_succ,←Nat.div_div_eq_div_mul,←h]
 refine⟨fun c=> ?_,fun c=> ?_,?_⟩
 ·rw[Int.tmod_eq_emod_of_nonneg c];omega
 ·obtain⟨p,rfl⟩:∃p,m= -p:=⟨-m,by omega⟩
  rw[Int.neg_tmod,Int.tmod_eq_emod_of_nonneg (by omega)];omega
 ·rw[Int.natAbs_tdiv];rfl
set_option maxRecDepth 100000 in
set_option maxHeartbeats 2000000 in
theorem digits_any (n:Int) (w:World) (h0: -9223372036854775808≤n) (h1:n≤9223372036854775807):
 Calls Tryz.prog 105 #[.int .i64 n] w (DlPost n.natAbs w):=by
 obtain⟨N,hN⟩:∃N,n.natAbs=N:=⟨_,rfl⟩
 have hl:lenD N≤19:=by
  rw[lenD_iff]
  have:(9223372036854775808:Nat)<10 ^ 19:=by decide
  omega
 rw[hN]
 have HN:=Lib.hid hN
 clear hN
 go_enter Tryz.func105,Tryz.ntmps105
 go_wp2_with fail
 go_loopw [0,3] (fun x v wr=>∃(m:Int) (k:Nat),x= .int .i64 m∧(-9223372036854775808≤m∧m≤9223372036854775807)∧Hid (m.natAbs=N / 10 ^ k)∧k≤lenD N∧World.dr wr w.heap.size v N k∧Below w.heap.size w wr) (fun x _ _=>(intOf x).natAbs)
 case atStart=>exact⟨n,0,rfl,⟨h0,h1⟩,by show _=_;rw[HN.out,Nat.pow_zero,Nat.div_one],Nat.zero_le _,World.dr.nil _ _ _,Below.refl _ _⟩
 case round=>
  obtain⟨m,k,rfl,⟨m0,m1⟩,HM,hk,hown,hnx⟩:=hrel
  have hsz:=hnx.size
  by_cases c:m=0
  ·subst c
   go_wp2_with fail
   go_ret
   refine⟨_,rfl,World.dl.of hown ?_,hnx⟩
   have e:=HM.out
   have:lenD N≤k:=by
    rw[lenD_iff]
    exact(Nat.div_eq_zero_iff.1 e.symm).resolve_left (Nat.ne_of_gt (pow10_pos k))
   omega
  ·obtain⟨q1,q2,q3⟩:=dig_pos HM.out
   have hklt:k<lenD N:=by
    rcases Nat.lt_or_ge k (lenD N)with c2|c2
    ·exact c2
    ·exfalso
     have e:=HM.out
     rw[Nat.div_eq_of_lt ((lenD_iff k N).1 c2)]at e
     omega
   have hcb:(m != 0)=true:=by simpa using c
   have HQ:=Lib.hid q3
   have b0:=dg_nonneg N k
   have b1:=dg_le N k
   obtain⟨d,hd⟩:∃d,dg N k=d:=⟨_,rfl⟩
   rw[hd]at q1 q2 b0 b1
   have HD:=Lib.hid hd
   clear hd q3
   obtain⟨q,hq⟩:∃q,m.tdiv 10=q:=⟨_,rfl⟩
   have hlt:q.natAbs<m.natAbs:=by
    have h2:=HQ.out;rw[hq]at h2
    have e:=HM.out
    rw[h2,e,Nat.pow_succ,←Nat.div_div_eq_div_mul]
    exact Nat.div_lt_self (by rw[←e];omega) (by decide)
   have hqb: -9223372036854775808≤q∧q≤9223372036854775807:=by omega
   have HL:=Lib.hid hlt
   clear hlt
   by_cases c2:0≤m
   ·have e1:=q1 c2
    clear q1 q2
    go_wp2_with (at_builtin;refine wpList_push rfl _ _ rfl w.heap.size _ N k _ d (hown.alloc _) (by omega) rfl rfl (by simp) HD.out.symm (by simp;omega) ?_;intro v' w1 hown' hgrow)
    go_roundw
    case rel=>exact⟨q,k+1,rfl,hqb,by show _=_;rw[←hq];exact HQ.out,hklt,hown',(hnx.alloc hsz _).trans hgrow⟩
    case measure=>simp[intOf];exact HL.out
   ·have e1:=q2 (by omega)
    clear q1 q2
    by_cases c3:d=0
    ·subst c3
     go_wp2_with (at_builtin;refine wpList_push rfl _ _ rfl w.heap.size _ N k _ 0 (hown.alloc _) (by omega) rfl rfl (by simp) HD.out.symm (by simp;omega) ?_;intro v' w1 hown' hgrow)
     go_roundw
     case rel=>exact⟨q,k+1,rfl,hqb,by show _=_;rw[←hq];exact HQ.out,hklt,hown',(hnx.alloc hsz _).trans hgrow⟩
     case measure=>simp[intOf];exact HL.out
    ·go_wp2_with (at_builtin;refine wpList_push rfl _ _ rfl w.heap.size _ N k _ d (hown.alloc _) (by omega) rfl rfl (by simp) HD.out.symm (by simp;omega) ?_;intro v' w1 hown' hgrow)
     go_roundw
     case rel=>exact⟨q,k+1,rfl,hqb,by show _=_;rw[←hq];exact HQ.out,hklt,hown',(hnx.alloc hsz _).trans hgrow⟩
     case measure=>simp[intOf];exact HL.out
end Go.Proofs.YtmhfioimgllgeaaGreatDoor
namespace Go.Proofs.YtmhfioimgllgeaaGreatDoor
open Go.RowKit
set_option maxRecDepth 100000 in
set_option maxHeartbeats 4000000 in
theorem plusd_any (b b':Nat) (v v':Value) (x y:Nat) (w:World) (h:World.dl w b v x) (h':World.dl w b' v' y) (hx:lenD x≤500) (hy:lenD y≤500):
 Calls Tryz.prog 228 #[v,v'] w (DlPost (x+y) w):=by
 obtain⟨ao,cap,rfl⟩:=h.len
 obtain⟨ao',cap',rfl⟩:=h'.len
 obtain⟨L,hLx⟩:∃L,lenD x=L:=⟨_,rfl⟩
 obtain⟨L',hLy⟩:∃L,lenD y=L:=⟨_,rfl⟩
 have hx2:=hx
 have hy2:=hy
 rw[hLx]at h hx
 rw[hLy]at h' hy
 rw[hLx,hLy]
 have HX:=Lib.hid hLx
 have HY:=Lib.hid hLy
 have HX2:=Lib.hid hx2
 have HY2:=Lib.hid hy2
 clear hLx hLy hx2 hy2
 have H:=Lib.hid h
 have H':=Lib.hid h'
 clear h h'
 go_enter Tryz.func228,Tryz.ntmps228
 go_wp2_with fail
 go_loopw [5,6,7] (fun v c i wr=>∃k C:Nat,i= .int .i64 (k:Int)∧c= .int .i64 (C:Int)∧C≤1∧Hid (carP x y k=C)∧k≤501∧World.dr wr w.heap.size v (x+y) k∧Below w.heap.size w wr) (fun _ _ i _=>(502-intOf i).toNat)
 case atStart=>exact⟨0,0,rfl,rfl,Nat.zero_le _,carP_zero x y,Nat.zero_le _,World.dr.nil _ _ _,Below.refl _ _⟩
 case round=>
  obtain⟨k,C,rfl,rfl,hC,HC,hk,hown,hnx⟩:=hrel
  have hsz:=hnx.size
  have hcase:k<L∨(¬k<L∧k<L')∨(¬k<L∧¬k<L'∧0<C)∨(¬k<L∧¬k<L'∧C=0):=by omega
  have hk5:¬(¬k<L∧¬k<L'∧C=0)→k≤500:=by
   intro hne
   refine Classical.byContradiction fun hn=> ?_
   have:=carP_far (a:=x) (b:=y) (i:=k) (by rw[HX.out];omega) (by rw[HY.out];omega)
   have:=HC.out
   omega
  rcases hcase with c1|⟨c1,c2⟩|⟨c1,c2,c3⟩|⟨c1,c2,rfl⟩
  rotate_left 3
  ·have hT:lenD (x+y)≤k:=carP_end (by rw[HX.out];omega) (by rw[HY.out];omega) HC.out
   clear hk5
   go_wp2_with fail
   refine(cutd_any w.heap.size _ (x+y) k _ hown hT (by omega)).mono ?_
   rintro e w1 ⟨v',rfl,hd,rfl⟩
   go_wp2_with fail
   go_ret
   exact⟨_,rfl,hd,hnx⟩
  all_goals
   have hk6:=hk5 (by omega)
   clear hk5
   have e1:=sum_dg x y k
   have e2:=carP_succ x y k
   have b0:=dg_nonneg x k
   have b1:=dg_le x k
   have b2:=dg_nonneg y k
   have b3:=dg_le y k
   rw[HC.out]at e1 e2
   have hdx:=(at_any b _ x k _ ((show World.dl w b (.slice ao L cap) x from H.out).below hnx) (by omega) (by have:=HX2.out;omega))
   have hdy:=(at_any b' _ y k _ ((show World.dl w b' (.slice ao' L' cap') y from H'.out).below hnx) (by omega) (by have:=HY2.out;omega))
   obtain⟨p,hp⟩:∃p,dg x k=p:=⟨_,rfl⟩
   obtain⟨q,hq⟩:∃q,dg y k=q:=⟨_,rfl⟩
   rw[hp]at e1 e2 b0 b1 hdx
   rw[hq]at e1 e2 b2 b3 hdy
   have HDX:=Lib.hid hdx
   have HDY:=Lib.hid hdy
   clear hdx hdy hp hq
   have t1:=Int.tmod_eq_emod_of_nonneg (a:=p+q+(C:Nat)) (b:=10) (by omega)
   have t2:=Int.tdiv_eq_ediv_of_nonneg (a:=p+q+(C:Nat)) (b:=10) (by omega)
   rw[←e1]at t1
   rw[←e2]at t2
   have E1:=Lib.hid e1
   clear e1 e2
   obtain⟨d,hd⟩:∃d,dg (x+y) k=d:=⟨_,rfl⟩
   obtain⟨C',hC'⟩:∃C',carP x y (k+1)=C':=⟨_,rfl⟩
   have hcl:C'≤1:=by rw[←hC'];exact carP_le _ _ _
   rw[hd]at t1
   rw[hC']at t2
   have HD:=Lib.hid hd
   have HC':=Lib.hid hC'
   clear hd hC'
   go_wp2_with fail
   refine HDX.out.mono ?_
   rintro e w1 ⟨rfl,rfl⟩
   go_wp2_with fail
   refine HDY.out.mono ?_
   rintro e w1 ⟨rfl,rfl⟩
   go_wp2_with (at_builtin;refine wpList_push rfl _ _ rfl w.heap.size _ (x+y) k _ d (hown.alloc _) (by omega) rfl rfl (by simp) HD.out.symm (by simp;omega) ?_;intro v' w1 hown' hgrow)
   go_roundw
   case rel=>exact⟨k+1,C',by go_num,rfl,hcl,HC',by omega,hown',(hnx.alloc hsz _).trans hgrow⟩
   case measure=>first|(simp[intOf];done)|(simp[intOf];omega)
end Go.Proofs.YtmhfioimgllgeaaGreatDoor
namespace Go.Proofs.YtmhfioimgllgeaaGreatDoor
open Go.RowKit
theorem below_drewN {B:Nat} {w w':World} (h:Below B w w') (n:Nat):Below B w (w'.drewN n):=h.trans ⟨rfl,rfl,rfl,Nat.le_refl _,fun _ _=>rfl⟩
set_option maxRecDepth 100000 in
set_option maxHeartbeats 4000000 in
theorem minusd_any (b b':Nat) (v v':Value) (x y:Nat) (w:World) (h:World.dl w b v x) (h':World.dl w b' v' y) (hx:lenD x≤500) (hxy:y≤x):
 Calls Tryz.prog 290 #[v,v'] w (DlPost (x-y) w):=by
 obtain⟨ao,cap,rfl⟩:=h.len
 obtain⟨ao',cap',rfl⟩:=h'.len
 obtain⟨L,hLx⟩:∃L,lenD x=L:=⟨_,rfl⟩
 obtain⟨L',hLy⟩:∃L,lenD y=L:=⟨_,rfl⟩
 have hy:lenD y≤500:=Nat.le_trans (lenD_mono hxy) hx
 have hy2:=hy
 have h0:World.dr w b (.slice ao (lenD x) cap) x (lenD x):=h
 rw[hLx]at h0 hx
 rw[hLy]at h' hy
 rw[hLx,hLy]
 have HX:=Lib.hid hLx
 have HY2:=Lib.hid hy2
 have HXY:=Lib.hid hxy
 clear hLx hLy hy2 h hxy
 have H:=Lib.hid h0
 have H':=Lib.hid h'
 clear h0 h'
 go_enter Tryz.func290,Tryz.ntmps290
 go_wp2_with fail
 go_loopw [5,6,7] (fun v c i wr=>∃k C:Nat,i= .int .i64 (k:Int)∧c= .int .i64 (C:Int)∧C≤1∧Hid (borP x y k=C)∧k≤L∧World.dr wr w.heap.size v (x-y) k∧Below w.heap.size w wr) (fun _ _ i _=>(502-intOf i).toNat)
 case atStart=>exact⟨0,0,rfl,rfl,Nat.zero_le _,borP_zero x y,Nat.zero_le _,World.dr.nil _ _ _,Below.refl _ _⟩
 case round=>
  obtain⟨k,C,rfl,rfl,hC,HC,hk,hown,hnx⟩:=hrel
  have hsz:=hnx.size
  by_cases hkl:k<L
  ·have hkI:(k:Int)<L:=by omega
   obtain⟨e1,e2⟩:=dif_dg HXY.out k
   have b0:=dg_nonneg x k
   have b1:=dg_le x k
   have b2:=dg_nonneg y k
   have b3:=dg_le y k
   have b4:=dg_nonneg (x-y) k
   have b5:=dg_le (x-y) k
   rw[HC.out]at e1 e2
   have hrow:=(show World.dr w b (.slice ao L cap) x L from H.out).below hnx
   obtain⟨g,_,e,hbg,hg,hcp⟩:=hrow.some (by omega)
   cases e
   have hcx:=hrow.cell hkl
   have hdy:=(show World.dl w b' (.slice ao' L' cap') y from H'.out).below hnx
   have HQ:Hid (∀wd:World,wd.heap=wr.heap→Calls Tryz.prog 229 #[.slice ao' L' cap',.int .i64 (k:Int)] wd (fun e w'=>e= .returned (.int .i64 (dg y k))∧w'=wd)):=fun wd hwd=>at_any b' _ y k wd (by unfold World.dl World.dr World.ownsRow;rw[hwd];exact hdy) (by omega) (by have:=HY2.out;omega)
   obtain⟨p,hp⟩:∃p,dg x k=p:=⟨_,rfl⟩
   obtain⟨q,hq⟩:∃q,dg y k=q:=⟨_,rfl⟩
   obtain⟨d,hd⟩:∃d,dg (x-y) k=d:=⟨_,rfl⟩
   obtain⟨C',hC'⟩:∃C',borP x y (k+1)=C':=⟨_,rfl⟩
   have hcl:C'≤1:=by rw[←hC'];exact borP_le _ _ _
   rw[hp,hq,hd]at e1
   rw[hp,hq,hC']at e2
   rw[hp]at b0 b1 hcx
   rw[hq]at b2 b3 HQ
   rw[hd]at b4 b5
   have HD:=Lib.hid hd
   have HC':=Lib.hid hC'
   clear hd hC' hp hq hdy hrow
   obtain⟨t,ht⟩:∃t,p-q-(C:Int)=t:=⟨_,rfl⟩
   have t0: -10≤t:=by omega
   have t1:t≤9:=by omega
   rw[ht]at e1 e2
   by_cases c:t<0
   ·rw[if_pos c]at e1 e2
    obtain rfl:C'=1:=by omega
    obtain rfl:t=d-10:=by omega
    have e10:d-10+10=d:=by omega
    clear e1 e2
    go_wp2_with fail
    go_quiet (first|(go_at_call 229;refine Calls.quiet_of_same (HQ.out _ rfl)))
    go_wp2_with (at_builtin;refine wpList_push rfl _ _ rfl w.heap.size _ (x-y) k _ _ (hown.alloc _) (by omega) rfl rfl (by simp) HD.out.symm (by simp;omega) ?_;intro v' w1 hown' hgrow)
    go_roundw
    case rel=>exact⟨k+1,1,by go_num,rfl,hcl,HC',by omega,hown',(below_drewN (hnx.alloc hsz _) _).trans hgrow⟩
    case measure=>first|(simp[intOf];done)|(simp[intOf];omega)
   ·rw[if_neg c]at e1 e2
    obtain rfl:C'=0:=by omega
    obtain rfl:t=d:=by omega
    clear e1 e2
    go_wp2_with fail
    go_quiet (first|(go_at_call 229;refine Calls.quiet_of_same (HQ.out _ rfl)))
    go_wp2_with (at_builtin;refine wpList_push rfl _ _ rfl w.heap.size _ (x-y) k _ _ (hown.alloc _) (by omega) rfl rfl (by simp) HD.out.symm (by simp;omega) ?_;intro v' w1 hown' hgrow)
    go_roundw
    case rel=>exact⟨k+1,0,by go_num,rfl,hcl,HC',by omega,hown',(below_drewN (hnx.alloc hsz _) _).trans hgrow⟩
    case measure=>first|(simp[intOf];done)|(simp[intOf];omega)
  ·have hT:lenD (x-y)≤k:=Nat.le_trans (lenD_mono (Nat.sub_le _ _)) (by rw[HX.out];omega)
   go_wp2_with fail
   refine(cutd_any w.heap.size _ (x-y) k _ hown hT (by omega)).mono ?_
   rintro e w1 ⟨v',rfl,hd,rfl⟩
   go_wp2_with fail
   go_ret
   exact⟨_,rfl,hd,hnx⟩
theorem madeCells_row (n:Nat):(madeCells (Value.int .i64 0).cells (n*1)).toList=List.replicate n (.int .i64 0):=by
 rw[Nat.mul_one];exact toList_madeCells_one _ _
set_option maxRecDepth 100000 in
set_option maxHeartbeats 4000000 in
theorem ten_any (b:Nat) (v:Value) (n:Nat) (k:Int) (w:World) (h:World.dl w b v n) (hn:lenD n≤500) (k0: -1000≤k) (k1:k≤1000):
 Calls Tryz.prog 108 #[v,.int .i64 k] w (DlPost (n*10 ^ k.toNat) w):=by
 obtain⟨ao,cap,rfl⟩:=h.len
 obtain⟨L,hL⟩:∃L,lenD n=L:=⟨_,rfl⟩
 have r:World.dr w b (.slice ao (lenD n) cap) n (lenD n):=h
 rw[hL]at r hn⊢
 have HL:=Lib.hid hL
 clear hL h
 by_cases c:L=0
 ·subst c
  have e0:n=0:=lenD_eq_zero.1 HL.out
  subst e0
  go_enter Tryz.func108,Tryz.ntmps108
  go_wp2_with fail
  go_ret
  refine⟨_,rfl,?_,Below.refl _ _⟩
  rw[Nat.zero_mul]
  exact World.dl.of (World.dr.nil _ _ _) lenD_zero.symm
 ·have hn0:n≠0:=fun e=>c (by rw[←HL.out,e];exact lenD_zero)
  have HN:=Lib.hid hn0
  clear hn0
  have hcb:((L:Int)==0)=false:=by simpa using c
  obtain⟨m,hm⟩:∃m:Nat,m=k.toNat:=⟨_,rfl⟩
  have hm2:m≤1000:=by omega
  obtain⟨i0,hi,hz0,hz1,hz2⟩:=info_parts info3
  rw[←hm]
  have hmax:(if k<0 then 0 else k)=(m:Int):=by split<;>omega
  have HM:=Lib.hid hmax
  clear hmax hm
  go_enter Tryz.func108,Tryz.ntmps108
  go_wp2_with (first
   |(at_make;refine wpList_make_full _ rfl _ _ 146 rfl w.heap.size 3 i0 (.int .i64 0) 1 Tryz.underlying146 hi hz0 hz1 .i64 .i64 _ _ m rfl rfl HM.out HM.out (by rw[hz2];omega) (by unfold maxLen;omega) (Nat.le_refl _) ?_;intro w1 hown1 hg1)
   |(at_builtin;refine wpList_cat rfl _ _ rfl w.heap.size _ m _ hown1 b _ n L (r.kept hg1 (fun _ h=>by cases h)) (by omega) rfl rfl hg1.size ?_;intro v' w2 hown2 hB2))
  all_goals
   go_ret
   refine⟨_,rfl,?_,((Below.refl _ w).grown hg1 (Nat.le_refl _) (fun _ h=>by cases h)).trans hB2⟩
   have e:=hown2
   rw[madeCells_row,←row_tens]at e
   exact World.dl.of e (by rw[lenD_tens HN.out,HL.out,Nat.add_comm])
end Go.Proofs.YtmhfioimgllgeaaGreatDoor
namespace Go.Proofs.YtmhfioimgllgeaaGreatDoor
open Go.RowKit
theorem tens_len {n k:Nat}:lenD (n*10 ^ k)≤lenD n+k:=by
 by_cases h:n=0
 ·subst h;rw[Nat.zero_mul,lenD_zero];omega
 ·rw[lenD_tens h];omega
end Go.Proofs.YtmhfioimgllgeaaGreatDoor
namespace Go.Proofs.YtmhfioimgllgeaaGreatDoor
open Go.RowKit
theorem row_pre {r:Nat} {d:Int} (d0:0≤d) (d1:d≤9) (L:Nat): [Value.int .i64 d]++row r L=row (10*r+d.toNat) (1+L):=by
 rw[Nat.add_comm 1,row_cons,show(10*r+d.toNat) / 10=r by omega]
 have:dg (10*r+d.toNat) 0=d:=by unfold dg;rw[Nat.pow_zero,Nat.div_one];omega
 rw[this];rfl
theorem len_pre {r:Nat} {d:Int} (d1:d≤9):lenD (10*r+d.toNat)≤1+lenD r:=by
 rw[lenD_iff,Nat.add_comm 1,Nat.pow_succ]
 have:=lenD_lt r
 omega
theorem sub_done {N y J:Nat} (h:J*y≤N) (h2:N-J*y<y):J=N / y∧N-J*y=N%y:=by
 have e:N=y*J+(N-J*y):=by rw[Nat.mul_comm y];omega
 have e1:N / y=J:=by
  conv=>lhs;rw[e,Nat.mul_add_div (by omega),Nat.div_eq_of_lt h2]
  rfl
 refine⟨e1.symm,?_⟩
 conv=>rhs;rw[e,Nat.mul_add_mod,Nat.mod_eq_of_lt h2]
set_option maxRecDepth 100000 in
set_option maxHeartbeats 8000000 in
theorem byd_any (b b':Nat) (v v':Value) (x y:Nat) (w:World) (h:World.dl w b v x) (h':World.dl w b' v' y) (hx:lenD x≤300) (hy:lenD y≤300) (hy0:0<y):
 Calls Tryz.prog 227 #[v,v'] w (fun e w'=>∃vq vr,e= .returned (.tuple #[vq,vr])∧World.dl w' w.heap.size vq (x / y)∧World.dl w' w.heap.size vr (x%y)∧Below w.heap.size w w'):=by
 obtain⟨ao,cap,rfl⟩:=h.len
 obtain⟨L,hLx⟩:∃L,lenD x=L:=⟨_,rfl⟩
 have h0:World.dr w b (.slice ao (lenD x) cap) x (lenD x):=h
 have hx2:=hx
 rw[hLx]at h0 hx⊢
 have HX:=Lib.hid hLx
 have HX2:=Lib.hid hx2
 have HY2:=Lib.hid hy
 have HY0:=Lib.hid hy0
 have H:=Lib.hid h0
 have H':=Lib.hid h'
 clear hLx h h0 h' hx2 hy hy0
 go_enter Tryz.func227,Tryz.ntmps227
 go_wp2_with fail
 go_loopw [6,7,8] (fun vq vr i wr=>∃K:Nat,i= .int .i64 ((K:Int)-1)∧K≤L∧World.dr wr w.heap.size vq (x / y / 10 ^ K) (L-K)∧World.dl wr w.heap.size vr (x / 10 ^ K%y)∧Below w.heap.size w wr) (fun _ _ i _=>(intOf i+1).toNat)
 case atStart=>
  refine⟨L,rfl,Nat.le_refl _,?_,?_,Below.refl _ _⟩
  ·rw[Nat.sub_self];exact World.dr.nil _ _ _
  ·rw[←HX.out,long_start]
   exact World.dl.of (World.dr.nil _ _ _) lenD_zero.symm
 case round=>
  obtain⟨K,rfl,k0,hq,hr,hnx⟩:=hrel
  have hsz:=hnx.size
  cases K with
  |zero=>
   rw[Nat.pow_zero,Nat.div_one]at hq hr
   go_wp2_with fail
   refine(cutd_any w.heap.size _ (x / y) L _ hq (by rw[←HX.out];exact quo_len x y) (by omega)).mono ?_
   rintro e w1 ⟨v',rfl,hd,rfl⟩
   go_wp2_with fail
   go_ret2
   exact⟨_,_,rfl,hd,hr,hnx⟩
  |succ k=>
   rw[show ((k+1:Nat):Int)-1=(k:Int) by omega]
   have hrow:=(show World.dr w b (.slice ao L cap) x L from H.out).below hnx
   obtain⟨g,_,e,hbg,hg,hcp⟩:=hrow.some (by omega)
   cases e
   have hkL:(k:Int)<L:=by omega
   have d0:=dg_nonneg x k
   have d1:=dg_le x k
   have hc0:=hrow.cell (i:=k) (by omega)
   obtain⟨D,hD⟩:∃D,dg x k=D:=⟨_,rfl⟩
   rw[hD]at d0 d1 hc0
   have HD:=Lib.hid hD
   obtain⟨r,hrr⟩:∃r,x / 10 ^ (k+1)%y=r:=⟨_,rfl⟩
   rw[hrr]at hr
   have hry:r<y:=by rw[←hrr];exact Nat.mod_lt _ HY0.out
   have hrl:lenD r≤300:=Nat.le_trans (lenD_mono (Nat.le_of_lt hry)) HY2.out
   have HRY:=Lib.hid hry
   have HR:=Lib.hid hrr
   clear hD hrr hry
   go_wp2_with (at_builtin;refine wpList_cat rfl _ _ rfl wr.heap.size _ 1 _ (World.ownsRow_lit wr #[.int .i64 D] 1 (Nat.le_refl _) (by decide) rfl) w.heap.size _ r (lenD r) (hr.alloc _) (by omega) rfl rfl (by simp) ?_;intro v1 w1 hown1 hB1)
   have hB1:Below wr.heap.size wr w1:=((Below.refl _ wr).alloc (Nat.le_refl _) _).trans hB1
   have hq1:=hq.below hB1
   have hnx1:=hnx.trans (hB1.mono hsz)
   obtain⟨N,hN⟩:∃N,10*r+D.toNat=N:=⟨_,rfl⟩
   have hd1:World.dr w1 w.heap.size v1 N (1+lenD r):=by
    have e:w1.ownsRow wr.heap.size 3 1 v1 (1+lenD r) ([Value.int .i64 D]++row r (lenD r)):=hown1
    rw[row_pre d0 d1,hN]at e
    exact World.dr.mono e hsz
   have hNl:lenD N≤1+lenD r:=by rw[←hN];exact len_pre d1
   have hN10:N<10*y:=by have:=HRY.out;omega
   clear hown1 hB1 hr hq hrow hnx
   have HN:=Lib.hid hN
   have HN10:=Lib.hid hN10
   have HRL:=Lib.hid hrl
   clear hN hN10
   refine(cutd_any w.heap.size _ N _ _ hd1 hNl (by omega)).mono ?_
   rintro e w2 ⟨v2,rfl,hd2,rfl⟩
   have hNl2:lenD N≤301:=by omega
   have HNL:=Lib.hid hNl2
   clear hNl hNl2 hd1
   have hsz1:=hnx1.size
   go_wp2_with fail
   go_loopw [7,9] (fun v j wr=>∃J:Nat,j= .int .i64 (J:Int)∧Hid (J*y≤N)∧J≤9∧World.dl wr w.heap.size v (N-J*y)∧Below w2.heap.size w2 wr) (fun _ j _=>(10-intOf j).toNat)
   case atStart=>
    refine⟨0,rfl,?_,by omega,?_,Below.refl _ _⟩
    ·show 0*y≤N
     rw[Nat.zero_mul];exact Nat.zero_le _
    ·rw[Nat.zero_mul];exact hd2
   case round=>
    obtain⟨J,rfl,HJ,j9,hd,hB3⟩:=hrel
    have hy3:=((show World.dl w b' v' y from H'.out).below hnx1).below hB3
    have hsz3:=hB3.size
    have hLS:=less_any w.heap.size b' _ v' (N-J*y) y wr hd hy3 (by have:=lenD_mono (Nat.sub_le N (J*y));have:=HNL.out;omega) (by have:=HY2.out;omega)
    by_cases c:N-J*y<y
    ·rw[decide_eq_true c]at hLS
     have HLS:=Lib.hid hLS
     obtain⟨s1,s2⟩:=sub_done HJ.out c
     have HS1:=Lib.hid s1
     clear hLS c s1
     rw[s2]at hd
     clear s2
     have hq3:=hq1.below hB3
     have hnx3:=hnx1.trans (hB3.mono hsz1)
     clear hB3 hd2 hq1 hnx1 hy3
     go_wp2_with fail
     refine HLS.out.mono ?_
     rintro e w4 ⟨rfl,n4,rfl⟩
     obtain⟨W,hW⟩:∃W,W=wr.drewN n4:=⟨_,rfl⟩
     rw[←hW]
     have hB4:Below wr.heap.size wr W:=by rw[hW];exact below_drewN (Below.refl _ _) _
     have hq4:=hq3.below hB4
     have hd4:=hd.below hB4
     have hnx4:=hnx3.trans (hB4.mono hnx3.size)
     clear hW hB4 hq3 hd hnx3
     have hJd:(J:Int)=dg (x / y) k:=by
      rw[←long_dig x HY0.out k,HR.out,HD.out,HN.out,HS1.out]
     have hsz4:=hnx4.size
     have HJD:=Lib.hid hJd
     have hx300:=HX2.out
     clear hJd
     go_wp2_with (at_builtin;refine wpList_cat rfl _ _ rfl W.heap.size _ 1 _ (World.ownsRow_lit W #[.int .i64 (J:Int)] 1 (Nat.le_refl _) (by decide) rfl) w.heap.size _ _ (L-(k+1)) (hq4.alloc _) (by omega) rfl rfl (by simp) ?_;intro v5 w5 hown5 hB5)
     have hB5:Below W.heap.size W w5:=((Below.refl _ W).alloc (Nat.le_refl _) _).trans hB5
     have hd5:=hd4.below hB5
     have hnx5:=hnx4.trans (hB5.mono hsz4)
     have hq5:World.dr w5 w.heap.size v5 (x / y / 10 ^ k) (L-k):=by
      have e:w5.ownsRow W.heap.size 3 1 v5 (1+(L-(k+1))) (.int .i64 (J:Int) :: row (x / y / 10 ^ (k+1)) (L-(k+1))):=hown5
      rw[HJD.out,←quo_row x y k L (by omega),show 1+(L-(k+1))=L-k by omega]at e
      exact World.dr.mono e hsz4
     clear hown5 hB5 hq4 hd4 hnx4
     go_wp2_with fail
     go_roundw
     case rel=>
      refine⟨k,by go_num,by omega,hq5,?_,hnx5⟩
      rw[←long_rem x y k,HR.out,HD.out,HN.out]
      exact hd5
     case measure=>first|(simp[intOf];done)|(simp[intOf];omega)
    ·rw[decide_eq_false c]at hLS
     have HLS:=Lib.hid hLS
     have hJ2:(J+1)*y≤N:=by rw[Nat.add_mul,Nat.one_mul];have:=HJ.out;omega
     have hJ9:J+1≤9:=by
      have h1:=HN10.out
      have h2:(J+1)*y<10*y:=by omega
      have:=Nat.lt_of_mul_lt_mul_right h2
      omega
     have HJ2:=Lib.hid hJ2
     have hyle:y≤N-J*y:=by omega
     clear hLS hJ2 c
     have hMI:=fun (u:Value) (W:World) (h1:World.dl W w.heap.size u (N-J*y)) (h2:World.dl W b' v' y)=>minusd_any w.heap.size b' u v' (N-J*y) y W h1 h2 (by have:=lenD_mono (Nat.sub_le N (J*y));have:=HNL.out;omega) hyle
     have HMI:=Lib.hid hMI
     clear hMI hyle
     go_wp2_with fail
     refine HLS.out.mono ?_
     rintro e w4 ⟨rfl,n4,rfl⟩
     obtain⟨W,hW⟩:∃W,W=wr.drewN n4:=⟨_,rfl⟩
     rw[←hW]
     have hB4:Below wr.heap.size wr W:=by rw[hW];exact below_drewN (Below.refl _ _) _
     have hd4:=hd.below hB4
     have hy4:=hy3.below hB4
     have hB5:=hB3.trans (hB4.mono hsz3)
     have hsz5:=hB5.size
     clear hW hB4 hB3 hd hy3
     go_wp2_with fail
     refine(HMI.out _ W hd4 hy4).mono ?_
     rintro e w6 ⟨v6,rfl,hd6,hB6⟩
     have hd6:=hd6.mono (b':=w.heap.size) (by omega)
     have hB7:=hB5.trans (hB6.mono hsz5)
     clear hd4 hy4 hB5 hB6
     go_wp2_with fail
     go_roundw
     case rel=>
      refine⟨J+1,by go_num,HJ2,hJ9,?_,hB7⟩
      rw[Nat.add_mul,Nat.one_mul,←Nat.sub_sub]
      exact hd6
     case measure=>first|(simp[intOf];done)|(simp[intOf];omega)
end Go.Proofs.YtmhfioimgllgeaaGreatDoor
