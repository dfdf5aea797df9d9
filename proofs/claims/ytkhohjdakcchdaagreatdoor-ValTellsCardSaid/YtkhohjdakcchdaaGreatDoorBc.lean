/- Merged: Add, Mul, Ops, Div1, Half, Vals, Div. -/
import Derived.Test.YtkhohjdakcchdaaGreatDoorBz
import Derived.Shelf.Abstract
import Derived.Deep.RegionHeld3
import Derived.Deep.DeepCutAuto
import Derived.RegionTactic
import Derived.ChangeAlike
namespace Go.Proofs.YtkhohjdakcchdaaGreatDoor
open Go.RowKit Go.Shelf
theorem layD_lt {M E:Int} (h:rightB M E=true):layD M E<10 ^ 72:=by
 obtain⟨r1,r2,r3,r4,_⟩:=rightB_iff.1 h
 unfold layD
 calc M.natAbs*10 ^ (48+E).toNat<10 ^ 15*10 ^ (48+E).toNat:=Nat.mul_lt_mul_of_pos_right (by rw[show (10:Nat) ^ 15=1000000000000000 from by decide];omega) (pow10_pos _)
  _≤10 ^ 15*10 ^ 57:=Nat.mul_le_mul_left _ (Nat.pow_le_pow_right (by decide) (by omega))
  _=10 ^ 72:=by rw[←Nat.pow_add]
end Go.Proofs.YtkhohjdakcchdaaGreatDoor
namespace Go.Proofs.YtkhohjdakcchdaaGreatDoor
open Go.RowKit Go.Shelf
def mulS (M M':Int):Bool:=decide (M<0) != decide (M'<0)
end Go.Proofs.YtkhohjdakcchdaaGreatDoor
namespace Go.Proofs.YtkhohjdakcchdaaGreatDoor
open Go.RowKit Go.Shelf
section
variable {o : Oper} {a : Act} {w : World} {K : Act → World → Prop} {Q : Exit → Act → World → Prop}
theorem op_alloc56 (ho:o.op= .alloc 100) (h:K (a.put o.dst (.pointer (some ⟨w.heap.size,0,none⟩))) (w.alloc (.cells (numF false z96 false) 100))):o.wp Tryz.prog a w K Q:=by
 have hz:=zero56 w
 unfold Oper.wp execOp
 simp[ho,Instr.alloc,Sem.run_bind,hz,newVar,newRow,newObj,Value.cells]
 exact h
theorem op_store56 {x y:Operand} {g:Nat} {s s':Bool} {f f':Nat→Int} {m m':Bool} (ho:o.op= .store 100 x y) (hx:a.eval x= .pointer (some ⟨g,0,none⟩)) (hy:a.eval y= .agg (numF s' f' m'))
 (hn:World.num w g s f m) (h:∀w1,World.num w1 g s' f' m'→w.grownBy w1 (some g)→w1.heap.size=w.heap.size→K (a.put o.dst undef) w1):o.wp Tryz.prog a w K Q:=
 wp_store_row 100 x y ho g _ hx hy 100 _ hn (info56' s' f' m') (by rw[numF_size,numF_size]) (numF_one _ _ _) (h _ (World.num.setRow hn _ _) (setRow_grownBy _ _ _) (by simp))
end
end Go.Proofs.YtkhohjdakcchdaaGreatDoor
namespace Go.Proofs.YtkhohjdakcchdaaGreatDoor
open Go.RowKit Go.Shelf
def quoD (A B p:Nat):Nat:=A*10 ^ p / B
end Go.Proofs.YtkhohjdakcchdaaGreatDoor
namespace Go.Proofs.YtkhohjdakcchdaaGreatDoor
/-- N by U, rounded half to even. -/
def rhe (N U:Nat):Nat:=N / U+(if U<2*(N%U)∨(2*(N%U)=U∧N / U%2=1)then 1 else 0)
theorem rhe_scale {c N U:Nat} (hc:0<c) (_hU:0<U):rhe (c*N) (c*U)=rhe N U:=by
 unfold rhe
 rw[Nat.mul_div_mul_left _ _ hc,Nat.mul_mod_mul_left]
 have h1:(c*U<2*(c*(N%U)))↔U<2*(N%U):=by
  rw[Nat.mul_left_comm];exact Nat.mul_lt_mul_left hc
 have h2:(2*(c*(N%U))=c*U)↔2*(N%U)=U:=by
  rw[Nat.mul_left_comm];exact⟨fun h=>Nat.eq_of_mul_eq_mul_left hc h,fun h=>by rw[h]⟩
 simp only[h1,h2]
theorem rhe_mul {q U:Nat} (hU:0<U):rhe (q*U) U=q:=by
 unfold rhe
 rw[Nat.mul_mod_left,Nat.mul_div_cancel _ hU,if_neg (by omega)];rfl
theorem lowB_mod (D:Nat):∀j,lowB (dg D) j=decide (D%10 ^ j≠0)
 |0=>by simp[lowB,Nat.mod_one]
 |j+1=>by
  rw[lowB_succ,lowB_mod D j,mod_succ]
  have hP:=pow10_pos j
  by_cases h:D%10 ^ j=0
  ·rw[h]
   unfold dg
   by_cases h2:D / 10 ^ j%10=0
   ·simp[h2]
   ·have:D / 10 ^ j%10*10 ^ j≠0:=Nat.mul_ne_zero h2 (by omega)
    have h3:((D / 10 ^ j%10:Nat):Int)≠0:=by omega
    rw[show decide ((0:Nat)≠0)=false from rfl,Bool.false_or,Bool.eq_iff_iff]
    simp only[bne_iff_ne,decide_eq_true_eq]
    exact⟨fun _=>by rw[Nat.add_zero];exact this,fun _=>h3⟩
  ·simp[h]
/-- How a rest stands against the half. -/
def halfC (r U:Nat) (m:Bool):Int:=if m=true then(if 2*r<U then -1 else 1)else if r=0 then -2 else if 2*r<U then -1 else if 2*r=U then 0 else 1
theorem restD_half (D:Nat) (m:Bool) {k:Nat} (hk:1≤k):restD D m k=halfC (D%10 ^ k) (10 ^ k) m:=by
 obtain⟨j,rfl⟩:∃j,k=j+1:=⟨k-1,by omega⟩
 unfold restD halfC
 rw[Nat.add_sub_cancel,lowB_mod,mod_succ]
 have hP:=pow10_pos j
 have hb:=Nat.mod_lt D hP
 have ha:=Nat.mod_lt (D / 10 ^ j) (show 0<10 by decide)
 have e10:10 ^ (j+1)=10*10 ^ j:=by rw[Nat.pow_succ,Nat.mul_comm]
 rw[e10]
 unfold dg restF
 generalize D / 10 ^ j%10=a at*
 generalize D%10 ^ j=b at*
 generalize 10 ^ j=P at*
 have h4:a<5→a*P≤4*P:=fun h=>Nat.mul_le_mul_right _ (by omega)
 have h5:5≤a→5*P≤a*P:=fun h=>Nat.mul_le_mul_right _ h
 have h6:6≤a→6*P≤a*P:=fun h=>Nat.mul_le_mul_right _ h
 have h1:1≤a→1*P≤a*P:=fun h=>Nat.mul_le_mul_right _ h
 have h0:a=0→a*P=0:=fun h=>by rw[h,Nat.zero_mul]
 have h55:a=5→a*P=5*P:=fun h=>by rw[h]
 generalize a*P=Q at*
 cases m
 ·by_cases hb0:b=0
  ·simp only[hb0,ne_eq,not_true,decide_false,Bool.or_false,Bool.false_eq_true,if_false]
   repeat' split
   all_goals omega
  ·simp only[hb0,ne_eq,not_false_eq_true,decide_true,Bool.or_true,if_true,Bool.false_eq_true,if_false]
   repeat' split
   all_goals omega
 ·simp only[Bool.true_or,if_true]
  repeat' split
  all_goals omega
theorem upB_half (D:Nat) (m:Bool) {k:Nat} (hk:1≤k):upB D m k=decide (10 ^ k<2*(D%10 ^ k)∨(2*(D%10 ^ k)=10 ^ k∧(m=true∨D / 10 ^ k%2=1))):=by
 unfold upB
 rw[restD_half D m hk]
 have hd:(dg D k%2==1)=decide (D / 10 ^ k%2=1):=by
  unfold dg
  generalize D / 10 ^ k=x
  rw[Bool.eq_iff_iff];simp;omega
 rw[hd]
 have hU:=pow10_pos k
 unfold halfC
 generalize D / 10 ^ k%2=o
 generalize D%10 ^ k=r
 generalize 10 ^ k=U at*
 rw[Bool.eq_iff_iff]
 cases m<;>simp only[Bool.or_eq_true,Bool.and_eq_true,beq_iff_eq,decide_eq_true_eq,Bool.false_eq_true,if_false,if_true,false_or,true_or,and_true]<;>(repeat' split)<;>simp<;>omega
theorem quo_rhe (N B:Nat) (hB:0<B) {k:Nat} (hk:1≤k):quo (N / B) (decide (N%B≠0)) k=rhe N (B*10 ^ k):=by
 unfold quo rhe
 rw[upB_half _ _ hk,Nat.div_div_eq_div_mul]
 have hP:=pow10_pos k
 have e:N%(B*10 ^ k)=N%B+B*(N / B%10 ^ k):=Nat.mod_mul
 rw[e]
 have hev:10 ^ k%2=0:=by
  obtain⟨j,rfl⟩:∃j,k=j+1:=⟨k-1,by omega⟩
  rw[Nat.pow_succ];omega
 have hb:=Nat.mod_lt N hB
 generalize N / (B*10 ^ k)=q
 generalize N / B%10 ^ k=r at*
 generalize N%B=b at*
 generalize 10 ^ k=U at*
 congr 1
 have lt:2*r<U→2*(b+B*r)<B*U:=fun h=>by
  have:B*(2*r+2)≤B*U:=Nat.mul_le_mul_left _ (by omega)
  have e2:B*(2*r+2)=2*(B*r)+2*B:=by rw[Nat.mul_add,Nat.mul_left_comm,Nat.mul_comm B 2]
  omega
 have eq:2*r=U→B*U=2*(B*r):=fun h=>by rw[←h,Nat.mul_left_comm]
 have gt:U<2*r→B*U<2*(b+B*r):=fun h=>by
  have h1:B*(U+1)≤B*(2*r):=Nat.mul_le_mul_left _ h
  rw[Nat.mul_left_comm B 2 r,Nat.mul_add]at h1
  omega
 have hiff:(U<2*r∨(2*r=U∧(decide (b≠0)=true∨q%2=1)))↔(B*U<2*(b+B*r)∨(2*(b+B*r)=B*U∧q%2=1)):=by
  rw[decide_eq_true_eq]
  generalize B*r=X at*
  generalize B*U=Y at*
  rcases Nat.lt_trichotomy (2*r) U with h|h|h
  ·have:=lt h;omega
  ·have:=eq h;omega
  ·have:=gt h;omega
 by_cases c:(U<2*r∨(2*r=U∧(decide (b≠0)=true∨q%2=1)))
 ·rw[if_pos (by simpa using c),if_pos (hiff.1 c)]
 ·rw[if_neg (by simpa using c),if_neg (fun h=>c (hiff.2 h))]
/-- The nearest decimal of N by B (in parts of ten to 48), from an exponent on. -/
def nearQ (s:Bool) (N B:Nat):Nat→Int→(Int×Int)×Int
 |0,_=>((0,0),10)
 |n+1,e=>if rhe N (B*10 ^ (48+e).toNat)<10 ^ 15 then(decOf s (rhe N (B*10 ^ (48+e).toNat)) e,0)else nearQ s N B n (e+1)
theorem nearF_Q (s:Bool) (N B:Nat) (hB:0<B):∀(n:Nat) (e:Int),-9≤e→nearF s (N / B) (decide (N%B≠0)) n e=nearQ s N B n e
 |0,_,_=>rfl
 |n+1,e,he=>by
  rw[nearF,nearQ,quo_rhe N B hB (by omega),nearF_Q s N B hB n (e+1) (by omega)]
theorem near_Q (s:Bool) (N B:Nat) (hB:0<B):near s (N / B) (decide (N%B≠0))=nearQ s N B 19 (-9):=nearF_Q s N B hB 19 (-9) (by omega)
theorem near_Q1 (s:Bool) (D:Nat):near s D false=nearQ s D 1 19 (-9):=by
 have:=near_Q s D 1 (by decide)
 rw[Nat.div_one,Nat.mod_one]at this
 exact this
theorem decOf_ten (s:Bool) (q:Nat) {e:Int} (he:e<9):decOf s (q*10) e=decOf s q (e+1):=by
 unfold decOf
 by_cases h:q=0
 ·subst h;rfl
 ·rw[if_neg (by omega),if_neg h,strip_step (by omega) he rfl,Nat.mul_div_cancel _ (by decide),show(9-e).toNat-1=(9-(e+1)).toNat by omega]
theorem decOf_tens (s:Bool) (q:Nat):∀(j:Nat) {e:Int},e+j≤9→decOf s (q*10 ^ j) e=decOf s q (e+j)
 |0,e,_=>by rw[Nat.pow_zero,Nat.mul_one];congr 1;omega
 |j+1,e,he=>by
  rw[Nat.pow_succ,←Nat.mul_assoc,decOf_ten s _ (by omega),decOf_tens s q j (by omega)]
  congr 1;omega
theorem rhe_exact {N B q k j:Nat} (hB:0<B) (hN:N=B*(q*10 ^ (k+j))):rhe N (B*10 ^ k)=q*10 ^ j:=by
 have:N=(q*10 ^ j)*(B*10 ^ k):=by rw[hN,Nat.pow_add];ac_rfl
 rw[this,rhe_mul (Nat.mul_pos hB (pow10_pos k))]
theorem nearQ_exact (s:Bool) {N B q:Nat} {E:Int} (hB:0<B) (hq:q<10 ^ 15) (hE:E≤9) (hN:N=B*(q*10 ^ (48+E).toNat)):
 ∀(j:Nat),-9≤E-j→nearQ s N B (10-(E-j)).toNat (E-j)=(decOf s q E,0)
 |0,h0=>by
  rw[show (10-(E-(0:Nat))).toNat=(9-E).toNat+1 by omega,nearQ]
  have e1:rhe N (B*10 ^ (48+(E-(0:Nat))).toNat)=q:=by
   have:=rhe_exact (N:=N) (k:=(48+(E-(0:Nat))).toNat) (j:=0) (q:=q) hB (by rw[hN];congr 3;omega)
   rw[this,Nat.pow_zero,Nat.mul_one]
  rw[e1,if_pos hq]
  congr 2;omega
 |j+1,h0=>by
  rw[show (10-(E-(j+1:Nat))).toNat=(10-(E-j)).toNat+1 by omega,nearQ]
  have e1:rhe N (B*10 ^ (48+(E-(j+1:Nat))).toNat)=q*10 ^ (j+1):=rhe_exact hB (by rw[hN];congr 3;omega)
  rw[e1]
  split
  ·rw[decOf_tens s q (j+1) (by omega)];congr 2;omega
  ·rw[show E-((j+1:Nat):Int)+1=E-j by omega]
   exact nearQ_exact s hB hq hE hN j (by omega)
theorem near_exact (s:Bool) {D q:Nat} {E:Int} (hq:q<10 ^ 15) (e0: -9≤E) (hE:E≤9) (hN:D=q*10 ^ (48+E).toNat):near s D false=(decOf s q E,0):=by
 rw[near_Q1]
 have:=nearQ_exact s (N:=D) (B:=1) (by decide) hq hE (by rw[hN,Nat.one_mul]) (E+9).toNat (by omega)
 rw[show E-((E+9).toNat:Int)= -9 by omega]at this
 exact this
/-- What the nearest decimal is, if there is one. -/
theorem nearQ_ok (s:Bool) (N B:Nat):∀(n:Nat) (e:Int) (p:Int×Int),nearQ s N B n e=(p,0)→∃j:Nat,j<n∧rhe N (B*10 ^ (48+(e+j)).toNat)<10 ^ 15∧(∀i:Nat,i<j→¬rhe N (B*10 ^ (48+(e+i)).toNat)<10 ^ 15)∧p=decOf s (rhe N (B*10 ^ (48+(e+j)).toNat)) (e+j)
 |0,e,p,h=>by simp[nearQ]at h
 |n+1,e,p,h=>by
  rw[nearQ]at h
  split at h
  ·rename_i hc
   refine⟨0,by omega,by rw[show e+((0:Nat):Int)=e by omega];exact hc,fun i hi=>absurd hi (by omega),?_⟩
   rw[show e+((0:Nat):Int)=e by omega]
   exact((Prod.mk.inj h).1).symm
  ·rename_i hc
   obtain⟨j,h1,h2,h3,h4⟩:=nearQ_ok s N B n (e+1) p h
   refine⟨j+1,by omega,by rw[show e+((j+1:Nat):Int)=e+1+j by omega];exact h2,fun i hi=> ?_,by rw[show e+((j+1:Nat):Int)=e+1+j by omega];exact h4⟩
   cases i with
   |zero=>rw[show e+((0:Nat):Int)=e by omega];exact hc
   |succ i=>rw[show e+((i+1:Nat):Int)=e+1+i by omega];exact h3 i (by omega)
theorem nearQ_err (s:Bool) (N B:Nat):∀(n:Nat) (e:Int),(nearQ s N B n e).2=0∨nearQ s N B n e=((0,0),10)
 |0,e=> .inr rfl
 |n+1,e=>by
  rw[nearQ];split
  ·exact .inl rfl
  ·exact nearQ_err s N B n (e+1)
end Go.Proofs.YtkhohjdakcchdaaGreatDoor
namespace Go.Proofs.YtkhohjdakcchdaaGreatDoor
/-- What may be a decimal. -/
def RightP (p:Int×Int):Prop:= -999999999999999≤p.1∧p.1≤999999999999999∧ -9≤p.2∧p.2≤9∧(p.1=0∧p.2=0∨p.1≠0∧(p.1%10≠0∨p.2=9))
/-- Its value. -/
def valZ (p:Int×Int):Int:=p.1*(10 ^ (48+p.2).toNat:Nat)
def sgn (s:Bool) (n:Nat):Int:=if s then -(n:Int)else n
theorem p15 :(10:Nat) ^ 15=1000000000000000:=by decide
theorem strip_spec :∀(n q:Nat) (e:Int),n=(9-e).toNat→e≤9→0<q→q<10 ^ 15→
 0<(strip n q e).1∧(strip n q e).1≤q∧e≤(strip n q e).2∧(strip n q e).2≤9∧((strip n q e).1%10≠0∨(strip n q e).2=9)∧(strip n q e).1*10 ^ ((strip n q e).2-e).toNat=q
 |0,q,e,hn,he,h0,h1=>by
  rw[strip]
  refine⟨h0,Nat.le_refl _,Int.le_refl _,he,.inr (by show e=9;omega),?_⟩
  show q*10 ^ (e-e).toNat=q
  rw[show (e-e).toNat=0 by omega,Nat.pow_zero,Nat.mul_one]
 |n+1,q,e,hn,he,h0,h1=>by
  rw[strip]
  by_cases c:q%10=0∧e<9
  ·rw[if_pos c]
   obtain⟨a,b,d,f,g,h⟩:=strip_spec n (q / 10) (e+1) (by omega) (by omega) (by omega) (by omega)
   refine⟨a,by omega,by omega,f,g,?_⟩
   rw[show ((strip n (q / 10) (e+1)).2-e).toNat=((strip n (q / 10) (e+1)).2-(e+1)).toNat+1 by omega,Nat.pow_succ,←Nat.mul_assoc,h]
   omega
  ·rw[if_neg c]
   refine⟨h0,Nat.le_refl _,Int.le_refl _,he,?_,?_⟩
   ·show q%10≠0∨e=9;omega
   ·show q*10 ^ (e-e).toNat=q
    rw[show (e-e).toNat=0 by omega,Nat.pow_zero,Nat.mul_one]
theorem decOf_right (s:Bool) {q:Nat} {e:Int} (hq:q<10 ^ 15) (e0: -9≤e) (e1:e≤9):RightP (decOf s q e):=by
 unfold decOf
 by_cases c:q=0
 ·rw[if_pos c];exact⟨by decide,by decide,by decide,by decide,.inl ⟨rfl,rfl⟩⟩
 ·rw[if_neg c]
  obtain⟨a,b,d,f,g,_⟩:=strip_spec (9-e).toNat q e rfl e1 (by omega) hq
  rw[p15]at hq
  generalize strip (9-e).toNat q e=r at*
  unfold RightP
  cases s
  ·simp only[Bool.false_eq_true,if_false];omega
  ·simp only[if_true];omega
theorem decOf_val (s:Bool) {q:Nat} {e:Int} (hq:q<10 ^ 15) (e0: -9≤e) (e1:e≤9):valZ (decOf s q e)=sgn s (q*10 ^ (48+e).toNat):=by
 unfold decOf
 by_cases c:q=0
 ·subst c;rw[if_pos rfl,Nat.zero_mul];cases s<;>rfl
 ·rw[if_neg c]
  obtain⟨a,b,d,f,g,h⟩:=strip_spec (9-e).toNat q e rfl e1 (by omega) hq
  have h2:(strip (9-e).toNat q e).1*10 ^ (48+(strip (9-e).toNat q e).2).toNat=q*10 ^ (48+e).toNat:=by
   rw[show (48+(strip (9-e).toNat q e).2).toNat=((strip (9-e).toNat q e).2-e).toNat+(48+e).toNat by omega,Nat.pow_add,←Nat.mul_assoc,h]
  unfold valZ sgn
  cases s
  ·simp only[Bool.false_eq_true,if_false];rw[←h2,Int.natCast_mul]
  ·simp only[if_true];rw[←h2,Int.natCast_mul,Int.neg_mul]
/-- The nearest decimal of a signed number of parts. -/
def nearZ (z:Int):(Int×Int)×Int:=near (decide (z<0)) z.natAbs false
theorem decOf_id {p:Int×Int} (h:RightP p):decOf (decide (p.1<0)) p.1.natAbs p.2=p:=by
 obtain⟨M,E⟩:=p
 obtain⟨h1,h2,h3,h4,h5⟩:=h
 simp only at h1 h2 h3 h4 h5⊢
 unfold decOf
 by_cases c:M=0
 ·subst c;rw[if_pos (show Int.natAbs 0=0 from rfl)];rcases h5 with h|h
  ·rw[h.2]
  ·exact absurd rfl h.1
 ·rw[if_neg (by omega),strip_stop (by rcases h5 with h|h<;>omega)]
  by_cases c2:M<0
  ·simp only[c2,decide_true,if_true];rw[show -((M.natAbs:Nat):Int)=M by omega]
  ·simp only[c2,decide_false,Bool.false_eq_true,if_false];rw[show ((M.natAbs:Nat):Int)=M by omega]
theorem valZ_abs (p:Int×Int):(valZ p).natAbs=p.1.natAbs*10 ^ (48+p.2).toNat:=by unfold valZ;rw[Int.natAbs_mul,Int.natAbs_natCast]
theorem valZ_neg (p:Int×Int):valZ p<0↔p.1<0:=by
 unfold valZ
 have hp:=pow10_pos (48+p.2).toNat
 constructor
 ·intro h
  refine Classical.byContradiction fun h2=> ?_
  have:0≤p.1*((10 ^ (48+p.2).toNat:Nat):Int):=Int.mul_nonneg (by omega) (by omega)
  omega
 ·intro h;exact Int.mul_neg_of_neg_of_pos h (by omega)
/-- A right decimal's own nearest one is itself. -/
theorem nearZ_val {p:Int×Int} (h:RightP p):nearZ (valZ p)=(p,0):=by
 unfold nearZ
 have hq:p.1.natAbs<10 ^ 15:=by rw[p15];have:=h.1;have:=h.2.1;omega
 rw[near_exact _ hq h.2.2.1 h.2.2.2.1 (valZ_abs p),show decide (valZ p<0)=decide (p.1<0)from decide_eq_decide.2 (valZ_neg p),decOf_id h]
theorem val_inj {p p':Int×Int} (h:RightP p) (h':RightP p') (hv:valZ p=valZ p'):p=p':=by
 have a:=nearZ_val h
 rw[hv,nearZ_val h']at a
 exact(Prod.mk.inj a).1.symm
/-- The search, said whole. -/
theorem near_ok {s:Bool} {D:Nat} {p:Int×Int} (h:near s D false=(p,0)):∃e:Int,-9≤e∧e≤9∧rhe D (10 ^ (48+e).toNat)<10 ^ 15∧(∀i:Int,-9≤i→i<e→¬rhe D (10 ^ (48+i).toNat)<10 ^ 15)∧p=decOf s (rhe D (10 ^ (48+e).toNat)) e:=by
 rw[near_Q1]at h
 obtain⟨j,h1,h2,h3,h4⟩:=nearQ_ok s D 1 19 (-9) p h
 rw[Nat.one_mul]at h2 h4
 refine⟨-9+j,by omega,by omega,h2,fun i hi hlt=> ?_,h4⟩
 have:=h3 (i+9).toNat (by omega)
 rw[Nat.one_mul,show -9+(((i+9).toNat:Nat):Int)=i by omega]at this
 exact this
theorem near_two (s:Bool) (D:Nat):(near s D false).2=0∨near s D false=((0,0),10):=by
 rw[near_Q1];exact nearQ_err _ _ _ _ _
theorem near_right {s:Bool} {D:Nat} {p:Int×Int} (h:near s D false=(p,0)):RightP p:=by
 obtain⟨e,h1,h2,h3,_,rfl⟩:=near_ok h
 exact decOf_right s h3 h1 h2
theorem decOf_neg (s:Bool) (q:Nat) (e:Int):decOf (!s) q e=(-(decOf s q e).1,(decOf s q e).2):=by
 unfold decOf
 split
 ·rfl
 ·cases s<;>simp
end Go.Proofs.YtkhohjdakcchdaaGreatDoor
namespace Go.Proofs.YtkhohjdakcchdaaGreatDoor
open Go.RowKit Go.Shelf
def divP (E E':Int):Nat:=(48+(E-E')).toNat
/-- The quotient of two right decimals. -/
def divR (M E M' E':Int):(Int×Int)×Int:=near (mulS M M') (quoD M.natAbs M'.natAbs (divP E E')) (M.natAbs*10 ^ divP E E'%M'.natAbs != 0)
/-- The quotient of two decimals. -/
def divD (M E M' E':Int):(Int×Int)×Int:=if rightB M E=true∧rightB M' E'=true then(if M'=0 then((0,0),11)else divR M E M' E')else((0,0),10)
end Go.Proofs.YtkhohjdakcchdaaGreatDoor
