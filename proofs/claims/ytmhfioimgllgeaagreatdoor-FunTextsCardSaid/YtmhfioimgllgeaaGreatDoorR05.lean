/- Merged: Digits, Spec, Sums, Half, Vals. -/
namespace Go.Proofs.YtmhfioimgllgeaaGreatDoor
/-- The digit of D that stands at ten to k. -/
def dg (D k:Nat):Int:=((D / 10 ^ k%10:Nat):Int)
theorem dg_nonneg (D k:Nat):0≤dg D k:=Int.natCast_nonneg _
theorem dg_le (D k:Nat):dg D k≤9:=by unfold dg;have:=Nat.mod_lt (D / 10 ^ k) (show 0<10 by decide);omega
theorem pow10_pos (k:Nat):0<10 ^ k:=Nat.pow_pos (by decide)
theorem dg_shift_low (V p i:Nat) (h:i<p):dg (V*10 ^ p) i=0:=by
 unfold dg
 obtain⟨d,rfl⟩:∃d,p=i+1+d:=⟨p-i-1,by omega⟩
 have e:V*10 ^ (i+1+d)=(V*10 ^ d*10)*10 ^ i:=by
  rw[Nat.pow_add,Nat.pow_succ];ac_rfl
 rw[e,Nat.mul_div_cancel _ (pow10_pos i),Nat.mul_mod_left];rfl
theorem dg_shift (V p K:Nat) (h:p≤K):dg (V*10 ^ p) K=((V / 10 ^ (K-p)%10:Nat):Int):=by
 unfold dg
 obtain⟨d,rfl⟩:∃d,K=p+d:=⟨K-p,by omega⟩
 rw[Nat.pow_add,Nat.add_sub_cancel_left,Nat.mul_comm V,Nat.mul_div_mul_left _ _ (pow10_pos p)]
theorem dg_zero (k:Nat):dg 0 k=0:=by simp[dg]
theorem dg_of_lt {D k:Nat} (h:D<10 ^ k):dg D k=0:=by unfold dg;rw[Nat.div_eq_of_lt h];rfl
theorem lt_of_rest {V p K:Nat} (hp:p≤K) (hb:V*10 ^ p<10 ^ 96) (h:V / 10 ^ (K-p)≠0):K<96:=by
 have h1:10 ^ (K-p)≤V:=by
  rcases Nat.lt_or_ge V (10 ^ (K-p))with h2|h2
  ·exact absurd (Nat.div_eq_of_lt h2) h
  ·exact h2
 have h2:10 ^ K≤V*10 ^ p:=by
  calc 10 ^ K=10 ^ (K-p)*10 ^ p:=by rw[←Nat.pow_add];congr 1;omega
   _≤V*10 ^ p:=Nat.mul_le_mul_right _ h1
 exact(Nat.pow_lt_pow_iff_right (by decide:1<10)).1 (Nat.lt_of_le_of_lt h2 hb)
theorem div_succ (V K p:Nat) (h:p≤K):V / 10 ^ (K+1-p)=V / 10 ^ (K-p) / 10:=by
 rw[show K+1-p=(K-p)+1 by omega,Nat.pow_succ,Nat.div_div_eq_div_mul]
/-- The digits below K alone. -/
def lowTo (D K:Nat):Nat→Int:=fun i=>if i<K then dg D i else 0
theorem lowTo_start (V p:Nat) (i:Nat):lowTo (V*10 ^ p) p i=0:=by
 unfold lowTo;split
 ·exact dg_shift_low _ _ _ ‹_›
 ·rfl
theorem lowTo_succ (D K:Nat) (i:Nat):(if i=K then dg D K else lowTo D K i)=lowTo D (K+1) i:=by
 unfold lowTo
 by_cases h:i=K
 ·subst h;simp
 ·by_cases h2:i<K
  ·rw[if_neg h,if_pos h2,if_pos (by omega)]
  ·rw[if_neg h,if_neg h2,if_neg (by omega)]
theorem lowTo_end {V p K:Nat} (hp:p≤K) (h:V / 10 ^ (K-p)=0) (i:Nat):lowTo (V*10 ^ p) K i=dg (V*10 ^ p) i:=by
 unfold lowTo
 split
 ·rfl
 ·rename_i hi
  rw[dg_shift _ _ _ (by omega)]
  have:V / 10 ^ (i-p)=0:=by
   obtain⟨d,rfl⟩:∃d,i=K+d:=⟨i-K,by omega⟩
   rw[show K+d-p=(K-p)+d by omega,Nat.pow_add,←Nat.div_div_eq_div_mul,h,Nat.zero_div]
  rw[this];rfl
def cutTo (f:Nat→Int) (K:Nat):Nat→Int:=fun i=>if i<K then 0 else f i
theorem carry_nine (D K:Nat) (h:dg D K=9):(D / 10 ^ K+1)*10 ^ K=(D / 10 ^ (K+1)+1)*10 ^ (K+1):=by
 unfold dg at h
 have e:D / 10 ^ (K+1)=D / 10 ^ K / 10:=by rw[Nat.pow_succ,Nat.div_div_eq_div_mul]
 rw[e,Nat.pow_succ,Nat.mul_comm (10 ^ K) 10,←Nat.mul_assoc]
 congr 1
 omega
theorem carry_lt {D K:Nat} (h:(D / 10 ^ K+1)*10 ^ K<10 ^ 96):K<96:=by
 have:10 ^ K≤(D / 10 ^ K+1)*10 ^ K:=Nat.le_mul_of_pos_left _ (Nat.succ_pos _)
 exact(Nat.pow_lt_pow_iff_right (by decide:1<10)).1 (Nat.lt_of_le_of_lt this h)
theorem dg_cut (D k i:Nat):dg (D / 10 ^ k*10 ^ k) i=cutTo (dg D) k i:=by
 unfold cutTo
 split
 ·exact dg_shift_low _ _ _ ‹_›
 ·rename_i h
  rw[dg_shift _ _ _ (by omega)]
  unfold dg
  rw[Nat.div_div_eq_div_mul,←Nat.pow_add,show k+(i-k)=i by omega]
theorem dg_carry (D K i:Nat) (h:dg D K≠9):dg ((D / 10 ^ K+1)*10 ^ K) i=if i=K then dg D K+1 else cutTo (dg D) K i:=by
 unfold cutTo
 by_cases h1:i<K
 ·rw[if_neg (by omega),if_pos h1];exact dg_shift_low _ _ _ h1
 ·rw[dg_shift _ _ _ (by omega),if_neg h1]
  unfold dg at h⊢
  by_cases h2:i=K
  ·subst h2
   rw[if_pos rfl,Nat.sub_self,Nat.pow_zero,Nat.div_one]
   omega
  ·rw[if_neg h2]
   obtain⟨d,rfl⟩:∃d,i=K+(d+1):=⟨i-K-1,by omega⟩
   have e1:D / 10 ^ (K+(d+1))=D / 10 ^ K / 10 / 10 ^ d:=by rw[Nat.pow_add,Nat.pow_succ,Nat.mul_comm (10 ^ d) 10,Nat.div_div_eq_div_mul,Nat.div_div_eq_div_mul]
   have e2:(D / 10 ^ K+1) / 10 ^ (d+1)=(D / 10 ^ K+1) / 10 / 10 ^ d:=by rw[Nat.pow_succ,Nat.mul_comm (10 ^ d) 10,Nat.div_div_eq_div_mul]
   have e3:(D / 10 ^ K+1) / 10=D / 10 ^ K / 10:=by omega
   rw[show K+(d+1)-K=d+1 by omega,e1,e2,e3]
/-- One step of parting a two-word number by ten. -/
theorem step10 (H L N:Int) (h:H*18446744073709551616+L=N) (_h0:0≤H) (l0:0≤L) (l1:L≤18446744073709551615):
 (H / 10)*18446744073709551616+(H%10*18446744073709551616+L) / 10=N / 10∧(H%10*18446744073709551616+L)%10=N%10∧0≤(H%10*18446744073709551616+L) / 10∧(H%10*18446744073709551616+L) / 10≤18446744073709551615:=by
 subst h;omega
end Go.Proofs.YtmhfioimgllgeaaGreatDoor
namespace Go.Proofs.YtmhfioimgllgeaaGreatDoor
/-- Noughts behind are taken off, as far as the exponent may rise. -/
def strip :Nat→Nat→Int→Nat×Int
 |0,M,E=>(M,E)
 |n+1,M,E=>if M%10=0∧E<9 then strip n (M / 10) (E+1)else(M,E)
/-- The decimal that is M times ten to E, with a sign. -/
def decOf (s:Bool) (M:Nat) (E:Int):Int×Int:=
 if M=0 then(0,0)else
 let r:=strip (9-E).toNat M E
 (if s then -(r.1:Int)else(r.1:Int),r.2)
theorem strip_step {n M:Nat} {E:Int} (h:M%10=0) (hE:E<9) (hn:n=(9-E).toNat):strip n M E=strip (n-1) (M / 10) (E+1):=by
 obtain⟨m,rfl⟩:∃m,n=m+1:=⟨n-1,by omega⟩
 rw[strip,if_pos ⟨h,hE⟩];rfl
theorem strip_stop {n M:Nat} {E:Int} (h:¬(M%10=0∧E<9)):strip n M E=(M,E):=by
 cases n with
 |zero=>rfl
 |succ n=>rw[strip,if_neg h]
theorem div_take (D i:Nat):10*((D / 10 ^ (i+1):Nat):Int)+dg D i=((D / 10 ^ i:Nat):Int):=by
 unfold dg
 have e:D / 10 ^ (i+1)=D / 10 ^ i / 10:=by rw[Nat.pow_succ,Nat.div_div_eq_div_mul]
 rw[e];omega
def lowB (f:Nat→Int) (K:Nat):Bool:=(List.range K).any fun i=>f i != 0
theorem lowB_succ (f:Nat→Int) (K:Nat):lowB f (K+1)=(lowB f K||f K != 0):=by simp[lowB,List.range_succ]
def restF (a:Int) (M:Bool):Int:=if M then(if a<5 then -1 else 1)else if a=0 then -2 else if a<5 then -1 else if a=5 then 0 else 1
theorem restF_t (a:Int):restF a true=if a<5 then -1 else 1:=rfl
theorem restF_f (a:Int):restF a false=if a=0 then -2 else if a<5 then -1 else if a=5 then 0 else 1:=rfl
/-- How what stands below a place is against a half of it. -/
def restD (D:Nat) (m:Bool) (k:Nat):Int:=restF (dg D (k-1)) (m||lowB (dg D) (k-1))
/-- Is one added at a place? -/
def upB (D:Nat) (m:Bool) (k:Nat):Bool:=restD D m k==1||(restD D m k==0&&dg D k%2==1)
/-- What stands at a place and above, rounded. -/
def quo (D:Nat) (m:Bool) (k:Nat):Nat:=D / 10 ^ k+(if upB D m k then 1 else 0)
def nearF (s:Bool) (D:Nat) (m:Bool):Nat→Int→(Int×Int)×Int
 |0,_=>((0,0),10)
 |n+1,e=>if quo D m (48+e).toNat<10 ^ 15 then(decOf s (quo D m (48+e).toNat) e,0)else nearF s D m n (e+1)
/-- The nearest decimal, and the error's number. -/
def near (s:Bool) (D:Nat) (m:Bool):(Int×Int)×Int:=nearF s D m 19 (-9)
theorem top_exists :∀(n D:Nat),D<10 ^ n→∃t:Int,-1≤t∧t<n∧D<10 ^ (t+1).toNat∧(0≤t→10 ^ t.toNat≤D)
 |0,D,h=>⟨-1,by omega,by omega,by simpa using h,by omega⟩
 |n+1,D,h=>by
  by_cases c:D<10 ^ n
  ·obtain⟨t,h1,h2,h3,h4⟩:=top_exists n D c
   exact⟨t,h1,by omega,h3,h4⟩
  ·exact⟨n,by omega,by omega,by rw[show ((n:Int)+1).toNat=n+1 by omega];exact h,fun _=>by rw[Int.toNat_natCast];omega⟩
theorem top_hi {D:Nat} {t:Int} (h:D<10 ^ (t+1).toNat) (k:Nat) (hk:t<(k:Int)):dg D k=0:=
 dg_of_lt (Nat.lt_of_lt_of_le h (Nat.pow_le_pow_right (by decide) (by omega)))
theorem top_at {D:Nat} {t:Int} (h:D<10 ^ (t+1).toNat) (h2:0≤t→10 ^ t.toNat≤D) (k:Nat) (hk:(k:Int)=t):dg D k≠0:=by
 have h3:=h2 (by omega)
 rw[show t.toNat=k by omega]at h3
 rw[show (t+1).toNat=k+1 by omega,Nat.pow_succ]at h
 have h4:1≤D / 10 ^ k:=(Nat.le_div_iff_mul_le (pow10_pos k)).2 (by omega)
 have h5:D / 10 ^ k<10:=Nat.div_lt_of_lt_mul (by omega)
 unfold dg
 omega
theorem top_lt {q k:Nat} {t:Int} (h:q*10 ^ k<10 ^ (t+1).toNat) (h2:0≤t→10 ^ t.toNat≤q*10 ^ k):t<(k:Int)+15↔q<10 ^ 15:=by
 constructor
 ·intro h3
  have h4:q*10 ^ k<10 ^ 15*10 ^ k:=by
   rw[←Nat.pow_add];exact Nat.lt_of_lt_of_le h (Nat.pow_le_pow_right (by decide) (by omega))
  exact Nat.lt_of_mul_lt_mul_right h4
 ·intro h3
  refine Classical.byContradiction fun h4=> ?_
  have h5:=h2 (by omega)
  have h6:10 ^ (15+k)≤q*10 ^ k:=Nat.le_trans (Nat.pow_le_pow_right (by decide) (by omega)) h5
  rw[Nat.pow_add]at h6
  have:=Nat.le_of_mul_le_mul_right h6 (pow10_pos k)
  omega
theorem quo_lt {D:Nat} (m:Bool) {k:Nat} (hD:D+10 ^ 57<10 ^ 96) (hk:k≤57):quo D m k*10 ^ k<10 ^ 96:=by
 have h1:quo D m k*10 ^ k≤(D / 10 ^ k+1)*10 ^ k:=Nat.mul_le_mul_right _ (by unfold quo;split<;>omega)
 have h2:(D / 10 ^ k+1)*10 ^ k≤D+10 ^ k:=by rw[Nat.add_mul,Nat.one_mul];exact Nat.add_le_add_right (Nat.div_mul_le_self _ _) _
 have h3:10 ^ k≤10 ^ 57:=Nat.pow_le_pow_right (by decide) hk
 omega
end Go.Proofs.YtmhfioimgllgeaaGreatDoor
namespace Go.Proofs.YtmhfioimgllgeaaGreatDoor
/-- D is greater than D' just if the highest place at which they part says so. -/
def gtF (f g:Nat→Int):Nat→Bool
 |0=>false
 |K+1=>if f K=g K then gtF f g K else decide (g K<f K)
theorem mod_succ (A K:Nat):A%10 ^ (K+1)=(A / 10 ^ K%10)*10 ^ K+A%10 ^ K:=by
 rw[Nat.pow_succ,Nat.mod_mul,Nat.mul_comm (10 ^ K),Nat.add_comm]
theorem gtF_mod (A B:Nat):∀K,gtF (dg A) (dg B) K=decide (B%10 ^ K<A%10 ^ K)
 |0=>by simp[gtF,Nat.mod_one]
 |K+1=>by
  rw[gtF,gtF_mod A B K,mod_succ,mod_succ]
  have ha:=Nat.mod_lt A (pow10_pos K)
  have hb:=Nat.mod_lt B (pow10_pos K)
  have e:dg A K=dg B K↔A / 10 ^ K%10=B / 10 ^ K%10:=by unfold dg;omega
  have l:dg B K<dg A K↔B / 10 ^ K%10<A / 10 ^ K%10:=by unfold dg;omega
  generalize A / 10 ^ K%10=a at*
  generalize B / 10 ^ K%10=b at*
  by_cases h:a=b
  ·rw[if_pos (e.2 h)];subst h;congr 1;simp
  ·rw[if_neg (fun h2=>h (e.1 h2))]
   rw[decide_eq_decide,l]
   constructor
   ·intro h2
    have:b*10 ^ K+10 ^ K≤a*10 ^ K:=by rw[←Nat.succ_mul];exact Nat.mul_le_mul_right _ h2
    omega
   ·intro h2
    refine Classical.byContradiction fun h3=> ?_
    have:a*10 ^ K+10 ^ K≤b*10 ^ K:=by rw[←Nat.succ_mul];exact Nat.mul_le_mul_right _ (by omega)
    omega
theorem gtF_lt {A B:Nat} (ha:A<10 ^ 96) (hb:B<10 ^ 96):gtF (dg A) (dg B) 96=decide (B<A):=by
 rw[gtF_mod,Nat.mod_eq_of_lt ha,Nat.mod_eq_of_lt hb]
/-- One place of a sum: what stands there, and what is carried on. -/
theorem place (S X Y K:Nat) (g c:Int) (hg:g=1∨g= -1) (h:((S / 10 ^ K:Nat):Int)=((X / 10 ^ K:Nat):Int)+g*((Y / 10 ^ K:Nat):Int)+c):
 dg S K=(dg X K+g*dg Y K+c)%10∧((S / 10 ^ (K+1):Nat):Int)=((X / 10 ^ (K+1):Nat):Int)+g*((Y / 10 ^ (K+1):Nat):Int)+(dg X K+g*dg Y K+c) / 10:=by
 unfold dg
 have e (A:Nat):A / 10 ^ (K+1)=A / 10 ^ K / 10:=by rw[Nat.pow_succ,Nat.div_div_eq_div_mul]
 rw[e S,e X,e Y]
 generalize S / 10 ^ K=s at*
 generalize X / 10 ^ K=x at*
 generalize Y / 10 ^ K=y at*
 rcases hg with rfl|rfl
 ·constructor<;>omega
 ·constructor<;>omega
end Go.Proofs.YtmhfioimgllgeaaGreatDoor
namespace Go.Proofs.YtmhfioimgllgeaaGreatDoor
/-- N by U, rounded half to even. -/
def rhe (N U:Nat):Nat:=N / U+(if U<2*(N%U)∨(2*(N%U)=U∧N / U%2=1)then 1 else 0)
theorem rhe_scale {c N U:Nat} (hc:0<c) (_hU:0<U):rhe (c*N) (c*U)=rhe N U:=by
 unfold rhe
 rw[Nat.mul_div_mul_left _ _ hc,Nat.mul_mod_mul_left]
 have h1:(c*U<2*(c*(N%U)))↔U<2*(N%U):=by
  rw[Nat.mul_left_comm];exact Nat.mul_lt_mul_left hc
 have h2:(2*(c*(N%U))=c*U)↔2*(N%U)=U:=by
  rw[Nat.mul_left_comm];exact⟨fun h=>Nat.eq_of_mul_eq_mul_left hc h,fun h=>by rw[h]⟩
 simp only[h1,h2]
theorem rhe_mul {q U:Nat} (hU:0<U):rhe (q*U) U=q:=by
 unfold rhe
 rw[Nat.mul_mod_left,Nat.mul_div_cancel _ hU,if_neg (by omega)];rfl
theorem lowB_mod (D:Nat):∀j,lowB (dg D) j=decide (D%10 ^ j≠0)
 |0=>by simp[lowB,Nat.mod_one]
 |j+1=>by
  rw[lowB_succ,lowB_mod D j,mod_succ]
  have hP:=pow10_pos j
  by_cases h:D%10 ^ j=0
  ·rw[h]
   unfold dg
   by_cases h2:D / 10 ^ j%10=0
   ·simp[h2]
   ·have:D / 10 ^ j%10*10 ^ j≠0:=Nat.mul_ne_zero h2 (by omega)
    have h3:((D / 10 ^ j%10:Nat):Int)≠0:=by omega
    rw[show decide ((0:Nat)≠0)=false from rfl,Bool.false_or,Bool.eq_iff_iff]
    simp only[bne_iff_ne,decide_eq_true_eq]
    exact⟨fun _=>by rw[Nat.add_zero];exact this,fun _=>h3⟩
  ·simp[h]
/-- How a rest stands against the half. -/
def halfC (r U:Nat) (m:Bool):Int:=if m=true then(if 2*r<U then -1 else 1)else if r=0 then -2 else if 2*r<U then -1 else if 2*r=U then 0 else 1
theorem restD_half (D:Nat) (m:Bool) {k:Nat} (hk:1≤k):restD D m k=halfC (D%10 ^ k) (10 ^ k) m:=by
 obtain⟨j,rfl⟩:∃j,k=j+1:=⟨k-1,by omega⟩
 unfold restD halfC
 rw[Nat.add_sub_cancel,lowB_mod,mod_succ]
 have hP:=pow10_pos j
 have hb:=Nat.mod_lt D hP
 have ha:=Nat.mod_lt (D / 10 ^ j) (show 0<10 by decide)
 have e10:10 ^ (j+1)=10*10 ^ j:=by rw[Nat.pow_succ,Nat.mul_comm]
 rw[e10]
 unfold dg restF
 generalize D / 10 ^ j%10=a at*
 generalize D%10 ^ j=b at*
 generalize 10 ^ j=P at*
 have h4:a<5→a*P≤4*P:=fun h=>Nat.mul_le_mul_right _ (by omega)
 have h5:5≤a→5*P≤a*P:=fun h=>Nat.mul_le_mul_right _ h
 have h6:6≤a→6*P≤a*P:=fun h=>Nat.mul_le_mul_right _ h
 have h1:1≤a→1*P≤a*P:=fun h=>Nat.mul_le_mul_right _ h
 have h0:a=0→a*P=0:=fun h=>by rw[h,Nat.zero_mul]
 have h55:a=5→a*P=5*P:=fun h=>by rw[h]
 generalize a*P=Q at*
 cases m
 ·by_cases hb0:b=0
  ·simp only[hb0,ne_eq,not_true,decide_false,Bool.or_false,Bool.false_eq_true,if_false]
   repeat' split
   all_goals omega
  ·simp only[hb0,ne_eq,not_false_eq_true,decide_true,Bool.or_true,if_true,Bool.false_eq_true,if_false]
   repeat' split
   all_goals omega
 ·simp only[Bool.true_or,if_true]
  repeat' split
  all_goals omega
theorem upB_half (D:Nat) (m:Bool) {k:Nat} (hk:1≤k):upB D m k=decide (10 ^ k<2*(D%10 ^ k)∨(2*(D%10 ^ k)=10 ^ k∧(m=true∨D / 10 ^ k%2=1))):=by
 unfold upB
 rw[restD_half D m hk]
 have hd:(dg D k%2==1)=decide (D / 10 ^ k%2=1):=by
  unfold dg
  generalize D / 10 ^ k=x
  rw[Bool.eq_iff_iff];simp;omega
 rw[hd]
 have hU:=pow10_pos k
 unfold halfC
 generalize D / 10 ^ k%2=o
 generalize D%10 ^ k=r
 generalize 10 ^ k=U at*
 rw[Bool.eq_iff_iff]
 cases m<;>simp only[Bool.or_eq_true,Bool.and_eq_true,beq_iff_eq,decide_eq_true_eq,Bool.false_eq_true,if_false,if_true,false_or,true_or,and_true]<;>(repeat' split)<;>simp<;>omega
theorem quo_rhe (N B:Nat) (hB:0<B) {k:Nat} (hk:1≤k):quo (N / B) (decide (N%B≠0)) k=rhe N (B*10 ^ k):=by
 unfold quo rhe
 rw[upB_half _ _ hk,Nat.div_div_eq_div_mul]
 have hP:=pow10_pos k
 have e:N%(B*10 ^ k)=N%B+B*(N / B%10 ^ k):=Nat.mod_mul
 rw[e]
 have hev:10 ^ k%2=0:=by
  obtain⟨j,rfl⟩:∃j,k=j+1:=⟨k-1,by omega⟩
  rw[Nat.pow_succ];omega
 have hb:=Nat.mod_lt N hB
 generalize N / (B*10 ^ k)=q
 generalize N / B%10 ^ k=r at*
 generalize N%B=b at*
 generalize 10 ^ k=U at*
 congr 1
 have lt:2*r<U→2*(b+B*r)<B*U:=fun h=>by
  have:B*(2*r+2)≤B*U:=Nat.mul_le_mul_left _ (by omega)
  have e2:B*(2*r+2)=2*(B*r)+2*B:=by rw[Nat.mul_add,Nat.mul_left_comm,Nat.mul_comm B 2]
  omega
 have eq:2*r=U→B*U=2*(B*r):=fun h=>by rw[←h,Nat.mul_left_comm]
 have gt:U<2*r→B*U<2*(b+B*r):=fun h=>by
  have h1:B*(U+1)≤B*(2*r):=Nat.mul_le_mul_left _ h
  rw[Nat.mul_left_comm B 2 r,Nat.mul_add]at h1
  omega
 have hiff:(U<2*r∨(2*r=U∧(decide (b≠0)=true∨q%2=1)))↔(B*U<2*(b+B*r)∨(2*(b+B*r)=B*U∧q%2=1)):=by
  rw[decide_eq_true_eq]
  generalize B*r=X at*
  generalize B*U=Y at*
  rcases Nat.lt_trichotomy (2*r) U with h|h|h
  ·have:=lt h;omega
  ·have:=eq h;omega
  ·have:=gt h;omega
 by_cases c:(U<2*r∨(2*r=U∧(decide (b≠0)=true∨q%2=1)))
 ·rw[if_pos (by simpa using c),if_pos (hiff.1 c)]
 ·rw[if_neg (by simpa using c),if_neg (fun h=>c (hiff.2 h))]
/-- The nearest decimal of N by B (in parts of ten to 48), from an exponent on. -/
def nearQ (s:Bool) (N B:Nat):Nat→Int→(Int×Int)×Int
 |0,_=>((0,0),10)
 |n+1,e=>if rhe N (B*10 ^ (48+e).toNat)<10 ^ 15 then(decOf s (rhe N (B*10 ^ (48+e).toNat)) e,0)else nearQ s N B n (e+1)
theorem nearF_Q (s:Bool) (N B:Nat) (hB:0<B):∀(n:Nat) (e:Int),-9≤e→nearF s (N / B) (decide (N%B≠0)) n e=nearQ s N B n e
 |0,_,_=>rfl
 |n+1,e,he=>by
  rw[nearF,nearQ,quo_rhe N B hB (by omega),nearF_Q s N B hB n (e+1) (by omega)]
theorem near_Q (s:Bool) (N B:Nat) (hB:0<B):near s (N / B) (decide (N%B≠0))=nearQ s N B 19 (-9):=nearF_Q s N B hB 19 (-9) (by omega)
theorem near_Q1 (s:Bool) (D:Nat):near s D false=nearQ s D 1 19 (-9):=by
 have:=near_Q s D 1 (by decide)
 rw[Nat.div_one,Nat.mod_one]at this
 exact this
theorem decOf_ten (s:Bool) (q:Nat) {e:Int} (he:e<9):decOf s (q*10) e=decOf s q (e+1):=by
 unfold decOf
 by_cases h:q=0
 ·subst h;rfl
 ·rw[if_neg (by omega),if_neg h,strip_step (by omega) he rfl,Nat.mul_div_cancel _ (by decide),show(9-e).toNat-1=(9-(e+1)).toNat by omega]
theorem decOf_tens (s:Bool) (q:Nat):∀(j:Nat) {e:Int},e+j≤9→decOf s (q*10 ^ j) e=decOf s q (e+j)
 |0,e,_=>by rw[Nat.pow_zero,Nat.mul_one];congr 1;omega
 |j+1,e,he=>by
  rw[Nat.pow_succ,←Nat.mul_assoc,decOf_ten s _ (by omega),decOf_tens s q j (by omega)]
  congr 1;omega
theorem rhe_exact {N B q k j:Nat} (hB:0<B) (hN:N=B*(q*10 ^ (k+j))):rhe N (B*10 ^ k)=q*10 ^ j:=by
 have:N=(q*10 ^ j)*(B*10 ^ k):=by rw[hN,Nat.pow_add];ac_rfl
 rw[this,rhe_mul (Nat.mul_pos hB (pow10_pos k))]
theorem nearQ_exact (s:Bool) {N B q:Nat} {E:Int} (hB:0<B) (hq:q<10 ^ 15) (hE:E≤9) (hN:N=B*(q*10 ^ (48+E).toNat)):
 ∀(j:Nat),-9≤E-j→nearQ s N B (10-(E-j)).toNat (E-j)=(decOf s q E,0)
 |0,h0=>by
  rw[show (10-(E-(0:Nat))).toNat=(9-E).toNat+1 by omega,nearQ]
  have e1:rhe N (B*10 ^ (48+(E-(0:Nat))).toNat)=q:=by
   have:=rhe_exact (N:=N) (k:=(48+(E-(0:Nat))).toNat) (j:=0) (q:=q) hB (by rw[hN];congr 3;omega)
   rw[this,Nat.pow_zero,Nat.mul_one]
  rw[e1,if_pos hq]
  congr 2;omega
 |j+1,h0=>by
  rw[show (10-(E-(j+1:Nat))).toNat=(10-(E-j)).toNat+1 by omega,nearQ]
  have e1:rhe N (B*10 ^ (48+(E-(j+1:Nat))).toNat)=q*10 ^ (j+1):=rhe_exact hB (by rw[hN];congr 3;omega)
  rw[e1]
  split
  ·rw[decOf_tens s q (j+1) (by omega)];congr 2;omega
  ·rw[show E-((j+1:Nat):Int)+1=E-j by omega]
   exact nearQ_exact s hB hq hE hN j (by omega)
theorem near_exact (s:Bool) {D q:Nat} {E:Int} (hq:q<10 ^ 15) (e0: -9≤E) (hE:E≤9) (hN:D=q*10 ^ (48+E).toNat):near s D false=(decOf s q E,0):=by
 rw[near_Q1]
 have:=nearQ_exact s (N:=D) (B:=1) (by decide) hq hE (by rw[hN,Nat.one_mul]) (E+9).toNat (by omega)
 rw[show E-((E+9).toNat:Int)= -9 by omega]at this
 exact this
/-- What the nearest decimal is, if there is one. -/
theorem nearQ_ok (s:Bool) (N B:Nat):∀(n:Nat) (e:Int) (p:Int×Int),nearQ s N B n e=(p,0)→∃j:Nat,j<n∧rhe N (B*10 ^ (48+(e+j)).toNat)<10 ^ 15∧(∀i:Nat,i<j→¬rhe N (B*10 ^ (48+(e+i)).toNat)<10 ^ 15)∧p=decOf s (rhe N (B*10 ^ (48+(e+j)).toNat)) (e+j)
 |0,e,p,h=>by simp[nearQ]at h
 |n+1,e,p,h=>by
  rw[nearQ]at h
  split at h
  ·rename_i hc
   refine⟨0,by omega,by rw[show e+((0:Nat):Int)=e by omega];exact hc,fun i hi=>absurd hi (by omega),?_⟩
   rw[show e+((0:Nat):Int)=e by omega]
   exact((Prod.mk.inj h).1).symm
  ·rename_i hc
   obtain⟨j,h1,h2,h3,h4⟩:=nearQ_ok s N B n (e+1) p h
   refine⟨j+1,by omega,by rw[show e+((j+1:Nat):Int)=e+1+j by omega];exact h2,fun i hi=> ?_,by rw[show e+((j+1:Nat):Int)=e+1+j by omega];exact h4⟩
   cases i with
   |zero=>rw[show e+((0:Nat):Int)=e by omega];exact hc
   |succ i=>rw[show e+((i+1:Nat):Int)=e+1+i by omega];exact h3 i (by omega)
theorem nearQ_err (s:Bool) (N B:Nat):∀(n:Nat) (e:Int),(nearQ s N B n e).2=0∨nearQ s N B n e=((0,0),10)
 |0,e=> .inr rfl
 |n+1,e=>by
  rw[nearQ];split
  ·exact .inl rfl
  ·exact nearQ_err s N B n (e+1)
end Go.Proofs.YtmhfioimgllgeaaGreatDoor
namespace Go.Proofs.YtmhfioimgllgeaaGreatDoor
/-- What may be a decimal. -/
def RightP (p:Int×Int):Prop:= -999999999999999≤p.1∧p.1≤999999999999999∧ -9≤p.2∧p.2≤9∧(p.1=0∧p.2=0∨p.1≠0∧(p.1%10≠0∨p.2=9))
/-- Its value. -/
def valZ (p:Int×Int):Int:=p.1*(10 ^ (48+p.2).toNat:Nat)
def sgn (s:Bool) (n:Nat):Int:=if s then -(n:Int)else n
theorem p15 :(10:Nat) ^ 15=1000000000000000:=by decide
theorem strip_spec :∀(n q:Nat) (e:Int),n=(9-e).toNat→e≤9→0<q→q<10 ^ 15→
 0<(strip n q e).1∧(strip n q e).1≤q∧e≤(strip n q e).2∧(strip n q e).2≤9∧((strip n q e).1%10≠0∨(strip n q e).2=9)∧(strip n q e).1*10 ^ ((strip n q e).2-e).toNat=q
 |0,q,e,hn,he,h0,h1=>by
  rw[strip]
  refine⟨h0,Nat.le_refl _,Int.le_refl _,he,.inr (by show e=9;omega),?_⟩
  show q*10 ^ (e-e).toNat=q
  rw[show (e-e).toNat=0 by omega,Nat.pow_zero,Nat.mul_one]
 |n+1,q,e,hn,he,h0,h1=>by
  rw[strip]
  by_cases c:q%10=0∧e<9
  ·rw[if_pos c]
   obtain⟨a,b,d,f,g,h⟩:=strip_spec n (q / 10) (e+1) (by omega) (by omega) (by omega) (by omega)
   refine⟨a,by omega,by omega,f,g,?_⟩
   rw[show ((strip n (q / 10) (e+1)).2-e).toNat=((strip n (q / 10) (e+1)).2-(e+1)).toNat+1 by omega,Nat.pow_succ,←Nat.mul_assoc,h]
   omega
  ·rw[if_neg c]
   refine⟨h0,Nat.le_refl _,Int.le_refl _,he,?_,?_⟩
   ·show q%10≠0∨e=9;omega
   ·show q*10 ^ (e-e).toNat=q
    rw[show (e-e).toNat=0 by omega,Nat.pow_zero,Nat.mul_one]
theorem decOf_right (s:Bool) {q:Nat} {e:Int} (hq:q<10 ^ 15) (e0: -9≤e) (e1:e≤9):RightP (decOf s q e):=by
 unfold decOf
 by_cases c:q=0
 ·rw[if_pos c];exact⟨by decide,by decide,by decide,by decide,.inl ⟨rfl,rfl⟩⟩
 ·rw[if_neg c]
  obtain⟨a,b,d,f,g,_⟩:=strip_spec (9-e).toNat q e rfl e1 (by omega) hq
  rw[p15]at hq
  generalize strip (9-e).toNat q e=r at*
  unfold RightP
  cases s
  ·simp only[Bool.false_eq_true,if_false];omega
  ·simp only[if_true];omega
theorem decOf_val (s:Bool) {q:Nat} {e:Int} (hq:q<10 ^ 15) (e0: -9≤e) (e1:e≤9):valZ (decOf s q e)=sgn s (q*10 ^ (48+e).toNat):=by
 unfold decOf
 by_cases c:q=0
 ·subst c;rw[if_pos rfl,Nat.zero_mul];cases s<;>rfl
 ·rw[if_neg c]
  obtain⟨a,b,d,f,g,h⟩:=strip_spec (9-e).toNat q e rfl e1 (by omega) hq
  have h2:(strip (9-e).toNat q e).1*10 ^ (48+(strip (9-e).toNat q e).2).toNat=q*10 ^ (48+e).toNat:=by
   rw[show (48+(strip (9-e).toNat q e).2).toNat=((strip (9-e).toNat q e).2-e).toNat+(48+e).toNat by omega,Nat.pow_add,←Nat.mul_assoc,h]
  unfold valZ sgn
  cases s
  ·simp only[Bool.false_eq_true,if_false];rw[←h2,Int.natCast_mul]
  ·simp only[if_true];rw[←h2,Int.natCast_mul,Int.neg_mul]
theorem decOf_id {p:Int×Int} (h:RightP p):decOf (decide (p.1<0)) p.1.natAbs p.2=p:=by
 obtain⟨M,E⟩:=p
 obtain⟨h1,h2,h3,h4,h5⟩:=h
 simp only at h1 h2 h3 h4 h5⊢
 unfold decOf
 by_cases c:M=0
 ·subst c;rw[if_pos (show Int.natAbs 0=0 from rfl)];rcases h5 with h|h
  ·rw[h.2]
  ·exact absurd rfl h.1
 ·rw[if_neg (by omega),strip_stop (by rcases h5 with h|h<;>omega)]
  by_cases c2:M<0
  ·simp only[c2,decide_true,if_true];rw[show -((M.natAbs:Nat):Int)=M by omega]
  ·simp only[c2,decide_false,Bool.false_eq_true,if_false];rw[show ((M.natAbs:Nat):Int)=M by omega]
theorem valZ_abs (p:Int×Int):(valZ p).natAbs=p.1.natAbs*10 ^ (48+p.2).toNat:=by unfold valZ;rw[Int.natAbs_mul,Int.natAbs_natCast]
theorem valZ_neg (p:Int×Int):valZ p<0↔p.1<0:=by
 unfold valZ
 have hp:=pow10_pos (48+p.2).toNat
 constructor
 ·intro h
  refine Classical.byContradiction fun h2=> ?_
  have:0≤p.1*((10 ^ (48+p.2).toNat:Nat):Int):=Int.mul_nonneg (by omega) (by omega)
  omega
 ·intro h;exact Int.mul_neg_of_neg_of_pos h (by omega)
/-- The search, said whole. -/
theorem near_ok {s:Bool} {D:Nat} {p:Int×Int} (h:near s D false=(p,0)):∃e:Int,-9≤e∧e≤9∧rhe D (10 ^ (48+e).toNat)<10 ^ 15∧(∀i:Int,-9≤i→i<e→¬rhe D (10 ^ (48+i).toNat)<10 ^ 15)∧p=decOf s (rhe D (10 ^ (48+e).toNat)) e:=by
 rw[near_Q1]at h
 obtain⟨j,h1,h2,h3,h4⟩:=nearQ_ok s D 1 19 (-9) p h
 rw[Nat.one_mul]at h2 h4
 refine⟨-9+j,by omega,by omega,h2,fun i hi hlt=> ?_,h4⟩
 have:=h3 (i+9).toNat (by omega)
 rw[Nat.one_mul,show -9+(((i+9).toNat:Nat):Int)=i by omega]at this
 exact this
theorem near_two (s:Bool) (D:Nat):(near s D false).2=0∨near s D false=((0,0),10):=by
 rw[near_Q1];exact nearQ_err _ _ _ _ _
theorem near_right {s:Bool} {D:Nat} {p:Int×Int} (h:near s D false=(p,0)):RightP p:=by
 obtain⟨e,h1,h2,h3,_,rfl⟩:=near_ok h
 exact decOf_right s h3 h1 h2
theorem decOf_neg (s:Bool) (q:Nat) (e:Int):decOf (!s) q e=(-(decOf s q e).1,(decOf s q e).2):=by
 unfold decOf
 split
 ·rfl
 ·cases s<;>simp
end Go.Proofs.YtmhfioimgllgeaaGreatDoor
