/- Merged: Refs2, Radd, Rmul, Rdiv, Rpow. -/
import Derived.Test.YtkhohjdakcchdaaGreatDoorNrr
import Derived.Test.YtkhohjdakcchdaaGreatDoorBe
import Derived.Test.YtkhohjdakcchdaaGreatDoorBd
import Derived.Deep.RegionHeld3
namespace Go.Proofs.YtkhohjdakcchdaaGreatDoor
theorem layD_whole (M:Int) {E:Int} (h: -9≤E):layD M E=wholeN M E*10 ^ 39:=(whole_tens M h).symm
theorem p39 :0<(10:Nat) ^ 39:=pow10_pos 39
theorem div_ref {M E M' E':Int} (hM:M'≠0) (h: -9≤E) (hE:E≤9) (h': -9≤E') (hE':E'≤9):refQ (mulS M M') (wholeN M E) (wholeN M' E')=divR M E M' E':=by
 rw[refQ_by _ _ hM h hE h' hE']
 unfold divR divP quoD
 congr 1
 rw[Bool.eq_iff_iff];simp
theorem whole_inj {M E M' E':Int} (h:RightP (M,E)) (h':RightP (M',E')) (hs:decide (M<0)=decide (M'<0)) (e:wholeN M E=wholeN M' E'):M=M'∧E=E':=by
 have:(M,E)=(M',E'):=by
  refine val_inj h h' ?_
  rw[←sgn_lay,←sgn_lay,hs,layD_whole M h.2.2.1,layD_whole M' h'.2.2.1,e]
 exact Prod.mk.inj this
theorem cmp_ref {M E M' E':Int} (h:RightP (M,E)) (h':RightP (M',E')) (hne:¬(M=M'∧E=E')) (hs:decide (M<0)=decide (M'<0)):cmpR M E M' E'=if decide (wholeN M E<wholeN M' E')=decide (M<0)then 1 else -1:=by
 unfold cmpR
 have hx:wholeN M E≠wholeN M' E':=fun e=>hne (whole_inj h h' hs e)
 have hs2:M<0↔M'<0:=by rw[decide_eq_decide]at hs;exact hs
 rw[if_neg hne,if_neg (fun a=>a.2 (hs2.1 a.1)),if_neg (fun a=>a.1 (hs2.2 a.2)),layD_whole M h.2.2.1,layD_whole M' h'.2.2.1]
 simp only[Nat.mul_lt_mul_right p39]
 by_cases c:M<0
 ·rw[if_pos c,decide_eq_true c]
  by_cases d:wholeN M' E'<wholeN M E
  ·rw[if_pos d,if_neg (by rw[decide_eq_true_eq];omega)]
  ·rw[if_neg d,if_pos (by rw[decide_eq_true_eq];omega)]
 ·rw[if_neg c,decide_eq_false c]
  by_cases d:wholeN M' E'<wholeN M E
  ·rw[if_pos d,if_pos (by rw[decide_eq_false_iff_not];omega)]
  ·rw[if_neg d,if_neg (by rw[decide_eq_false_iff_not];omega)]
theorem near_sign {s:Bool} {D:Nat} {p:Int×Int} (h:near s D false=(p,0)) (h0:p.1≠0):decide (p.1<0)=s:=by
 obtain⟨e,h1,h2,h3,_,rfl⟩:=near_ok h
 have hv:=decOf_val s h3 h1 h2
 have hn:=valZ_neg (decOf s (rhe D (10 ^ (48+e).toNat)) e)
 have ha:=valZ_abs (decOf s (rhe D (10 ^ (48+e).toNat)) e)
 have hp:=pow10_pos (48+(decOf s (rhe D (10 ^ (48+e).toNat)) e).2).toNat
 generalize decOf s (rhe D (10 ^ (48+e).toNat)) e=q at*
 have hz:valZ q≠0:=by
  intro c
  rw[c]at ha
  rcases Nat.mul_eq_zero.1 ha.symm with z|z
  ·exact h0 (Int.natAbs_eq_zero.1 z)
  ·omega
 obtain⟨K,hK⟩:∃K,rhe D (10 ^ (48+e).toNat)*10 ^ (48+e).toNat=K:=⟨_,rfl⟩
 rw[hK]at hv
 cases s
 ·rw[decide_eq_false_iff_not,←hn,hv];show ¬(K:Int)<0;omega
 ·rw[decide_eq_true_eq,←hn]
  have:valZ q= -(K:Int):=hv
  omega
theorem of_ref {n:Int} {p:Int×Int} (h0: -9223372036854775808≤n) (h1:n≤9223372036854775807) (h:near (decide (n<0)) (ofN n) false=(p,0)):ofS n p=decide (wholeN p.1 p.2=n.natAbs*10 ^ 9):=by
 have hp:=near_right h
 rw[Bool.eq_iff_iff,ofS_iff h0 h1 hp,decide_eq_true_eq,layD_whole p.1 hp.2.2.1]
 have e:ofN n=n.natAbs*10 ^ 9*10 ^ 39:=by unfold ofN;rw[Nat.mul_assoc,←Nat.pow_add]
 rw[e]
 have hp39:=p39
 constructor
 ·intro c;exact Nat.eq_of_mul_eq_mul_right hp39 c.2
 ·intro c
  refine⟨?_,by rw[c]⟩
  by_cases z:p.1=0
  ·have:n.natAbs*10 ^ 9=0:=by rw[←c];unfold wholeN;rw[z];simp
   have:n.natAbs=0:=(Nat.mul_eq_zero.1 this).resolve_right (Nat.ne_of_gt (pow10_pos 9))
   rw[z,show n=0 by omega]
  ·exact near_sign h z
theorem of_lay (n:Int):refQ (decide (n<0)) n.natAbs 1=near (decide (n<0)) (ofN n) false:=refQ_one _ _
theorem sameD_iff {A B:Nat} (ha:A<10 ^ 96) (hb:B<10 ^ 96):sameD A B=decide (A=B):=by
 rw[Bool.eq_iff_iff,decide_eq_true_eq]
 unfold sameD
 rw[List.all_eq_true]
 constructor
 ·intro h
  have h2:∀k,k≤96→A%10 ^ k=B%10 ^ k:=by
   intro k
   induction k with
   |zero=>intro _;rw[Nat.pow_zero,Nat.mod_one,Nat.mod_one]
   |succ k ih=>
    intro hk
    have:=h k (List.mem_range.2 (by omega))
    rw[beq_iff_eq]at this
    have e:A / 10 ^ k%10=B / 10 ^ k%10:=by unfold dg at this;omega
    rw[mod_succ,mod_succ,ih (by omega),e]
  have:=h2 96 (Nat.le_refl _)
  rwa [Nat.mod_eq_of_lt ha,Nat.mod_eq_of_lt hb]at this
 ·rintro rfl k _;exact beq_self_eq_true _
theorem valW_append (B:List UInt8):∀A:List UInt8,valW (A++B)=valW A*10 ^ B.length+valW B
 | []=>by rw[List.nil_append,valW,Nat.zero_mul,Nat.zero_add]
 |c :: A=>by rw[List.cons_append,valW,valW,valW_append B A,List.length_append,Nat.pow_add,Nat.add_mul,←Nat.mul_assoc,Nat.add_assoc]
theorem readN_ref {A B:List UInt8} (hB:B.length≤48):readN A B=valW (A++B)*10 ^ (48-B.length):=by
 unfold readN
 rw[valW_append,Nat.add_mul,Nat.mul_assoc,←Nat.pow_add]
 congr 3;omega
theorem read_near (s:Bool) {A B:List UInt8} (hB:B.length≤48):refQ s (valW (A++B)) (10 ^ B.length)=near s (readN A B) false:=by
 unfold refQ
 rw[near_Q1,readN_ref hB]
 have e:valW (A++B)*10 ^ 48=10 ^ B.length*(valW (A++B)*10 ^ (48-B.length)):=by
  rw[Nat.mul_left_comm,←Nat.pow_add];congr 2;omega
 have:=nearQ_scale s (c:=10 ^ B.length) (N:=valW (A++B)*10 ^ (48-B.length)) (B:=1) (pow10_pos _) (by decide) 19 (-9)
 rw[Nat.mul_one]at this
 rw[e,this]
theorem read_same {A B:List UInt8} {p:Int×Int} (hp:RightP p) (hA:figB A=true) (hB:B= []∨figB B=true):sameD (layD p.1 p.2) (readN A B)=decide (wholeN p.1 p.2*10 ^ B.length=valW (A++B)*10 ^ 9):=by
 obtain⟨a1,a2,a3⟩:=figB_iff hA
 have hb:B.length≤40∧B.all (fun c=>digS.contains c)=true:=by
  rcases hB with rfl|h
  ·exact⟨by decide,rfl⟩
  ·exact⟨(figB_iff h).2.1,(figB_iff h).2.2⟩
 have hr:=readN_lt a3 hb.2 a2 hb.1
 have hl:layD p.1 p.2<10 ^ 96:=Nat.lt_trans (layD_lt (rightB_P.2 hp)) (by decide)
 have hr2:readN A B<10 ^ 96:=by omega
 rw[sameD_iff hl hr2,decide_eq_decide,readN_ref (by omega),layD_whole p.1 hp.2.2.1]
 have hP:=pow10_pos B.length
 have e1:valW (A++B)*10 ^ (48-B.length)*10 ^ B.length=valW (A++B)*10 ^ 9*10 ^ 39:=by
  rw[Nat.mul_assoc,←Nat.pow_add,Nat.mul_assoc,←Nat.pow_add];congr 2;omega
 have hp39:=p39
 constructor
 ·intro c
  have:wholeN p.1 p.2*10 ^ B.length*10 ^ 39=valW (A++B)*10 ^ 9*10 ^ 39:=by rw[←e1,←c];ac_rfl
  exact Nat.eq_of_mul_eq_mul_right hp39 this
 ·intro c
  have:wholeN p.1 p.2*10 ^ 39*10 ^ B.length=valW (A++B)*10 ^ (48-B.length)*10 ^ B.length:=by
   rw[e1,←c];ac_rfl
  exact Nat.eq_of_mul_eq_mul_right hP this
end Go.Proofs.YtkhohjdakcchdaaGreatDoor
namespace Go.Proofs.YtkhohjdakcchdaaGreatDoor
open Go.RowKit Go.Shelf
theorem less_below (b b':Nat) (v v':Value) (x y:Nat) (w:World) (h:World.dl w b v x) (h':World.dl w b' v' y) (hx:lenD x≤1000) (hy:lenD y≤1000):
 Calls Tryz.prog 87 #[v,v'] w fun e w'=>e= .returned (.bool (decide (x<y)))∧Below w.heap.size w w':=
 (less_any b b' v v' x y w h h' hx hy).mono (by rintro e w' ⟨rfl,n,rfl⟩;exact⟨rfl,below_drewN (Below.refl _ _) _⟩)
end Go.Proofs.YtkhohjdakcchdaaGreatDoor
namespace Go.Proofs.YtkhohjdakcchdaaGreatDoor
open Go.RowKit Go.Shelf
set_option maxRecDepth 100000 in
set_option maxHeartbeats 4000000 in
theorem rdiv_no1 (M E M' E':Int) (w:World) (h0: -9223372036854775808≤M) (h1:M≤9223372036854775807) (_h0': -9223372036854775808≤M') (_h1':M'≤9223372036854775807) (hr:rightB M E=false):
 Calls Tryz.prog 36 #[.agg #[.int .i64 M,.int .i64 E],.agg #[.int .i64 M',.int .i64 E']] w (DecPost ((0,0),10) w):=by
 go_enter Tryz.func36,Tryz.ntmps36
 go_wp2_with fail
 obtain⟨W,hW⟩:∃W,W=((w.alloc (.cells #[.int .i64 M,.int .i64 E] 23)).alloc (.cells #[.int .i64 M',.int .i64 E'] 23)).alloc (.cells #[.int .i64 0,.int .i64 0] 23):=⟨_,rfl⟩
 rw[←hW]
 have d0:World.dec W w.heap.size M E:=by rw[hW];exact((World.dec_new w M E _ rfl).alloc _).alloc _
 have d1:World.dec W (w.heap.size+1) M' E':=by rw[hW];exact(World.dec_new _ M' E' _ (by simp)).alloc _
 have d2:World.dec W (w.heap.size+1+1) 0 0:=by rw[hW];exact World.dec_new _ 0 0 _ (by simp)
 have hB:Below w.heap.size w W:=by rw[hW];exact(((Below.refl _ w).alloc (Nat.le_refl _) _).alloc (by simp) _).alloc (by simp;omega) _
 clear hW
 have a0:=d0.c0
 have a1:=d0.c1
 refine(rright_any M E _ h0 h1).mono ?_
 rintro e wr ⟨rfl,hB1⟩
 have d2:=d2.below hB1 d2.lt
 have hB:=hB.trans (hB1.mono hB.size)
 have hsz:=hB.size
 clear hB1
 have g0:=d2.c0
 have g1:=d2.c1
 have gf0:=d2.frozen 0
 have gf1:=d2.frozen 1
 go_wp2_with fail
 refine bodyPost_ret (results_dec_tmp rfl _ _ _ 0 0 rfl (World.dec.set1 (World.dec.set0 d2 0) 0)) rfl ?_
 exact⟨rfl,(hB.setCell (by simp;omega) _).setCell (by simp;omega) _⟩
set_option maxRecDepth 100000 in
set_option maxHeartbeats 4000000 in
theorem rdiv_no2 (M E M' E':Int) (w:World) (h0: -9223372036854775808≤M) (h1:M≤9223372036854775807) (h0': -9223372036854775808≤M') (h1':M'≤9223372036854775807) (hr:rightB M E=true) (hr':rightB M' E'=false):
 Calls Tryz.prog 36 #[.agg #[.int .i64 M,.int .i64 E],.agg #[.int .i64 M',.int .i64 E']] w (DecPost ((0,0),10) w):=by
 go_enter Tryz.func36,Tryz.ntmps36
 go_wp2_with fail
 obtain⟨W,hW⟩:∃W,W=((w.alloc (.cells #[.int .i64 M,.int .i64 E] 23)).alloc (.cells #[.int .i64 M',.int .i64 E'] 23)).alloc (.cells #[.int .i64 0,.int .i64 0] 23):=⟨_,rfl⟩
 rw[←hW]
 have d0:World.dec W w.heap.size M E:=by rw[hW];exact((World.dec_new w M E _ rfl).alloc _).alloc _
 have d1:World.dec W (w.heap.size+1) M' E':=by rw[hW];exact(World.dec_new _ M' E' _ (by simp)).alloc _
 have d2:World.dec W (w.heap.size+1+1) 0 0:=by rw[hW];exact World.dec_new _ 0 0 _ (by simp)
 have hB:Below w.heap.size w W:=by rw[hW];exact(((Below.refl _ w).alloc (Nat.le_refl _) _).alloc (by simp) _).alloc (by simp;omega) _
 clear hW
 refine(rright_any M E _ h0 h1).mono ?_
 rintro e wr ⟨rfl,hB1⟩
 have d1:=d1.below hB1 d1.lt
 have d2:=d2.below hB1 d2.lt
 have hB:=hB.trans (hB1.mono hB.size)
 have hsz:=hB.size
 clear hB1
 have b0:=d1.c0
 have b1:=d1.c1
 go_wp2_with fail
 refine(rright_any M' E' _ h0' h1').mono ?_
 rintro e wr ⟨rfl,hB1⟩
 have d2:=d2.below hB1 d2.lt
 have hB:=hB.trans (hB1.mono hB.size)
 have hsz:=hB.size
 clear hB1
 have g0:=d2.c0
 have g1:=d2.c1
 have gf0:=d2.frozen 0
 have gf1:=d2.frozen 1
 go_wp2_with fail
 refine bodyPost_ret (results_dec_tmp rfl _ _ _ 0 0 rfl (World.dec.set1 (World.dec.set0 d2 0) 0)) rfl ?_
 exact⟨rfl,(hB.setCell (by simp;omega) _).setCell (by simp;omega) _⟩
set_option maxRecDepth 100000 in
set_option maxHeartbeats 4000000 in
theorem rdiv_zero (M E M' E':Int) (w:World) (h0: -9223372036854775808≤M) (h1:M≤9223372036854775807) (h0': -9223372036854775808≤M') (h1':M'≤9223372036854775807) (hr:rightB M E=true) (hr':rightB M' E'=true) (hz:M'=0):
 Calls Tryz.prog 36 #[.agg #[.int .i64 M,.int .i64 E],.agg #[.int .i64 M',.int .i64 E']] w (DecPost ((0,0),11) w):=by
 subst hz
 go_enter Tryz.func36,Tryz.ntmps36
 go_wp2_with fail
 obtain⟨W,hW⟩:∃W,W=((w.alloc (.cells #[.int .i64 M,.int .i64 E] 23)).alloc (.cells #[.int .i64 0,.int .i64 E'] 23)).alloc (.cells #[.int .i64 0,.int .i64 0] 23):=⟨_,rfl⟩
 rw[←hW]
 have d0:World.dec W w.heap.size M E:=by rw[hW];exact((World.dec_new w M E _ rfl).alloc _).alloc _
 have d1:World.dec W (w.heap.size+1) 0 E':=by rw[hW];exact(World.dec_new _ 0 E' _ (by simp)).alloc _
 have d2:World.dec W (w.heap.size+1+1) 0 0:=by rw[hW];exact World.dec_new _ 0 0 _ (by simp)
 have hB:Below w.heap.size w W:=by rw[hW];exact(((Below.refl _ w).alloc (Nat.le_refl _) _).alloc (by simp) _).alloc (by simp;omega) _
 clear hW
 refine(rright_any M E _ h0 h1).mono ?_
 rintro e wr ⟨rfl,hB1⟩
 have d0:=d0.below hB1 d0.lt
 have d1:=d1.below hB1 d1.lt
 have d2:=d2.below hB1 d2.lt
 have hB:=hB.trans (hB1.mono hB.size)
 have hsz:=hB.size
 clear hB1
 have b0:=d1.c0
 have b1:=d1.c1
 go_wp2_with fail
 clear b0 b1
 refine(rright_any 0 E' _ (by omega) (by omega)).mono ?_
 rintro e wr ⟨rfl,hB1⟩
 have d0:=d0.below hB1 d0.lt
 have d1:=d1.below hB1 d1.lt
 have d2:=d2.below hB1 d2.lt
 have hB:=hB.trans (hB1.mono hB.size)
 have hsz:=hB.size
 clear hB1
 have b0:=d1.c0
 have b1:=d1.c1
 have g0:=d2.c0
 have g1:=d2.c1
 have gf0:=d2.frozen 0
 have gf1:=d2.frozen 1
 go_wp2_with fail
 refine bodyPost_ret (results_dec_tmp rfl _ _ _ 0 0 rfl (World.dec.set1 (World.dec.set0 d2 0) 0)) rfl ?_
 exact⟨rfl,(hB.setCell (by simp;omega) _).setCell (by simp;omega) _⟩
set_option maxRecDepth 100000 in
set_option maxHeartbeats 4000000 in
theorem rdiv_ok (M E M' E':Int) (w:World) (h0: -9223372036854775808≤M) (h1:M≤9223372036854775807) (h0': -9223372036854775808≤M') (h1':M'≤9223372036854775807) (hr:rightB M E=true) (hr':rightB M' E'=true) (hz:M'≠0):
 Calls Tryz.prog 36 #[.agg #[.int .i64 M,.int .i64 E],.agg #[.int .i64 M',.int .i64 E']] w (DecPost (divR M E M' E') w):=by
 obtain⟨r1,r2,r3,r4,_⟩:=rightB_iff.1 hr
 obtain⟨q1,q2,q3,q4,_⟩:=rightB_iff.1 hr'
 have hq:=div_ref (M:=M) hz r3 r4 q3 q4
 obtain⟨T,hT⟩:∃T,divR M E M' E'=T:=⟨_,rfl⟩
 rw[hT]at hq⊢
 obtain⟨⟨T1,T2⟩,T3⟩:=T
 have CX:∀m e,(m=M∧e=E)→∀w,Calls Tryz.prog 88 #[.agg #[.int .i64 m,.int .i64 e]] w (DlPost (wholeN M E) w):=by rintro _ _ ⟨rfl,rfl⟩ w;exact whole_any _ _ w h0 h1 r3 r4
 have CY:∀m e,(m=M'∧e=E')→∀w,Calls Tryz.prog 88 #[.agg #[.int .i64 m,.int .i64 e]] w (DlPost (wholeN M' E') w):=by rintro _ _ ⟨rfl,rfl⟩ w;exact whole_any _ _ w h0' h1' q3 q4
 have lx:=wholeN_len (M:=M) (E:=E) (by rw[p15n];omega) r4
 have ly:=wholeN_len (M:=M') (E:=E') (by rw[p15n];omega) q4
 have hyp:0<wholeN M' E':=Nat.mul_pos (by omega) (pow10_pos _)
 obtain⟨X,hX⟩:∃X,wholeN M E=X:=⟨_,rfl⟩
 obtain⟨Y,hY⟩:∃Y,wholeN M' E'=Y:=⟨_,rfl⟩
 rw[hX]at CX lx
 rw[hY]at CY ly hyp
 rw[hX,hY]at hq
 have CN:=fun (W:World) (v v':Value) (h:World.dl W w.heap.size v (X)) (h':World.dl W w.heap.size v' (Y))=>near_any (mulS M M') w.heap.size w.heap.size v v' (X) (Y) W h h' (by omega) (by omega) (hyp)
 rw[hq]at CN
 unfold mulS at CN
 have KX:=Lib.hid CX
 have KY:=Lib.hid CY
 have KN:=Lib.hid CN
 have LX:=Lib.hid lx
 have LY:=Lib.hid ly
 have HYP:=Lib.hid hyp
 clear hq hT hX hY CX CY CN lx ly hyp
 go_enter Tryz.func36,Tryz.ntmps36
 go_wp2_with fail
 obtain⟨W,hW⟩:∃W,W=((w.alloc (.cells #[.int .i64 M,.int .i64 E] 23)).alloc (.cells #[.int .i64 M',.int .i64 E'] 23)).alloc (.cells #[.int .i64 0,.int .i64 0] 23):=⟨_,rfl⟩
 rw[←hW]
 have d0:World.dec W w.heap.size M E:=by rw[hW];exact((World.dec_new w M E _ rfl).alloc _).alloc _
 have d1:World.dec W (w.heap.size+1) M' E':=by rw[hW];exact(World.dec_new _ M' E' _ (by simp)).alloc _
 have d2:World.dec W (w.heap.size+1+1) 0 0:=by rw[hW];exact World.dec_new _ 0 0 _ (by simp)
 have hB:Below w.heap.size w W:=by rw[hW];exact(((Below.refl _ w).alloc (Nat.le_refl _) _).alloc (by simp) _).alloc (by simp;omega) _
 clear hW
 refine(rright_any M E _ h0 h1).mono ?_
 rintro e wr ⟨rfl,hB1⟩
 have d0:=d0.below hB1 d0.lt
 have d1:=d1.below hB1 d1.lt
 have d2:=d2.below hB1 d2.lt
 have hB:=hB.trans (hB1.mono hB.size)
 have hsz:=hB.size
 clear hB1
 have b0:=d1.c0
 have b1:=d1.c1
 go_wp2_with fail
 clear b0 b1
 refine(rright_any M' E' _ h0' h1').mono ?_
 rintro e wr ⟨rfl,hB1⟩
 have d0:=d0.below hB1 d0.lt
 have d1:=d1.below hB1 d1.lt
 have d2:=d2.below hB1 d2.lt
 have hB:=hB.trans (hB1.mono hB.size)
 have hsz:=hB.size
 clear hB1
 have b0:=d1.c0
 have b1:=d1.c1
 have hzb:(M'==0)=false:=by simpa using hz
 go_wp2_with fail
 clear b0 b1
 clear hzb
 have a0:=d0.c0
 have a1:=d0.c1
 have b0:=d1.c0
 have b1:=d1.c1
 have d0:=d0.drew
 have d1:=d1.drew
 have d2:=d2.drew
 have hB:=hB.drew
 have hsz:=hB.size
 go_region_held3 (fun w'=>w'.cell? ⟨w.heap.size,0,none⟩=some (.int .i64 M)∧w'.cell? ⟨w.heap.size,1,none⟩=some (.int .i64 E)∧w'.cell? ⟨w.heap.size+1,0,none⟩=some (.int .i64 M')∧w'.cell? ⟨w.heap.size+1,1,none⟩=some (.int .i64 E'))
  (first|exact⟨a0,a1,b0,b1⟩|exact⟨(World.cell?_setCell_far _ _ _ _ (by first|(simp;done)|(simp;omega))).trans ((World.cell?_setCell_far _ _ _ _ (by first|(simp;done)|(simp;omega))).trans a0),(World.cell?_setCell_far _ _ _ _ (by first|(simp;done)|(simp;omega))).trans ((World.cell?_setCell_far _ _ _ _ (by first|(simp;done)|(simp;omega))).trans a1),(World.cell?_setCell_far _ _ _ _ (by first|(simp;done)|(simp;omega))).trans ((World.cell?_setCell_far _ _ _ _ (by first|(simp;done)|(simp;omega))).trans b0),(World.cell?_setCell_far _ _ _ _ (by first|(simp;done)|(simp;omega))).trans ((World.cell?_setCell_far _ _ _ _ (by first|(simp;done)|(simp;omega))).trans b1)⟩)
  (first
   |(go_at_call 88;refine(KX.out _ _ ?_ _).mono ?_;exact⟨rfl,rfl⟩;rintro e wx ⟨vx,rfl,hx,hB1⟩;have d0:=d0.below hB1 d0.lt;have d1:=d1.below hB1 d1.lt;have d2:=d2.below hB1 d2.lt;(try have hy:=hy.below hB1);have hx:=hx.mono hsz;have hB:=hB.trans (hB1.mono hB.size);have hsz:=hB.size;have a0:=d0.c0;have a1:=d0.c1;have b0:=d1.c0;have b1:=d1.c1)
   |(go_at_call 88;refine(KY.out _ _ ?_ _).mono ?_;exact⟨rfl,rfl⟩;rintro e wy ⟨vy,rfl,hy,hB1⟩;have d0:=d0.below hB1 d0.lt;have d1:=d1.below hB1 d1.lt;have d2:=d2.below hB1 d2.lt;(try have hx:=hx.below hB1);have hy:=hy.mono hsz;have hB:=hB.trans (hB1.mono hB.size);have hsz:=hB.size;have a0:=d0.c0;have a1:=d0.c1;have b0:=d1.c0;have b1:=d1.c1)
   |(go_at_call 85;refine(KN.out _ _ _ hx hy).mono ?_;rintro e wn ⟨rfl,hB1⟩;have d0:=d0.below hB1 d0.lt;have d1:=d1.below hB1 d1.lt;have d2:=d2.below hB1 d2.lt;(try have hx:=hx.below hB1);(try have hy:=hy.below hB1);have hB:=hB.trans (hB1.mono hB.size);have hsz:=hB.size;have a0:=d0.c0;have a1:=d0.c1;have b0:=d1.c0;have b1:=d1.c1;have c0:=d2.c0;have c1:=d2.c1;have cf0:=d2.frozen 0;have cf1:=d2.frozen 1))
 all_goals
  go_wp2_with fail
  refine bodyPost_ret (results_dec_tmp rfl _ _ _ _ _ rfl (World.dec.set1 (World.dec.set0 d2 _) _)) rfl ?_
  exact⟨rfl,(hB.setCell (by simp;omega) _).setCell (by simp;omega) _⟩
theorem rdiv_any (M E M' E':Int) (w:World) (h0: -9223372036854775808≤M) (h1:M≤9223372036854775807) (h0': -9223372036854775808≤M') (h1':M'≤9223372036854775807):
 Calls Tryz.prog 36 #[.agg #[.int .i64 M,.int .i64 E],.agg #[.int .i64 M',.int .i64 E']] w (DecPost (divD M E M' E') w):=by
 unfold divD
 by_cases hr:rightB M E=true
 ·by_cases hr':rightB M' E'=true
  ·rw[if_pos ⟨hr,hr'⟩]
   by_cases hz:M'=0
   ·rw[if_pos hz];exact rdiv_zero M E M' E' w h0 h1 h0' h1' hr hr' hz
   ·rw[if_neg hz];exact rdiv_ok M E M' E' w h0 h1 h0' h1' hr hr' hz
  ·rw[if_neg (fun h=>hr' h.2)];exact rdiv_no2 M E M' E' w h0 h1 h0' h1' hr (by simpa using hr')
 ·rw[if_neg (fun h=>hr h.1)];exact rdiv_no1 M E M' E' w h0 h1 h0' h1' (by simpa using hr)
end Go.Proofs.YtkhohjdakcchdaaGreatDoor
