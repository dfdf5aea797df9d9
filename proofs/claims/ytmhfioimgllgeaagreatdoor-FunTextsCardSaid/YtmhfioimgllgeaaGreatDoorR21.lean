/- Merged: Rops, Rmore. -/
import Derived.Test.YtmhfioimgllgeaaGreatDoorR20
import Derived.Test.YtmhfioimgllgeaaGreatDoorR14
import Derived.Test.YtmhfioimgllgeaaGreatDoorR12
import Derived.Deep.RegionHeld3
import Derived.Test.YtmhfioimgllgeaaGreatDoorR01
import Derived.Deep.RegionWith
namespace Go.Proofs.YtmhfioimgllgeaaGreatDoor
theorem layD_whole (M:Int) {E:Int} (h: -9≤E):layD M E=wholeN M E*10 ^ 39:=(whole_tens M h).symm
theorem p39 :0<(10:Nat) ^ 39:=pow10_pos 39
theorem near_sign {s:Bool} {D:Nat} {p:Int×Int} (h:near s D false=(p,0)) (h0:p.1≠0):decide (p.1<0)=s:=by
 obtain⟨e,h1,h2,h3,_,rfl⟩:=near_ok h
 have hv:=decOf_val s h3 h1 h2
 have hn:=valZ_neg (decOf s (rhe D (10 ^ (48+e).toNat)) e)
 have ha:=valZ_abs (decOf s (rhe D (10 ^ (48+e).toNat)) e)
 have hp:=pow10_pos (48+(decOf s (rhe D (10 ^ (48+e).toNat)) e).2).toNat
 generalize decOf s (rhe D (10 ^ (48+e).toNat)) e=q at*
 have hz:valZ q≠0:=by
  intro c
  rw[c]at ha
  rcases Nat.mul_eq_zero.1 ha.symm with z|z
  ·exact h0 (Int.natAbs_eq_zero.1 z)
  ·omega
 obtain⟨K,hK⟩:∃K,rhe D (10 ^ (48+e).toNat)*10 ^ (48+e).toNat=K:=⟨_,rfl⟩
 rw[hK]at hv
 cases s
 ·rw[decide_eq_false_iff_not,←hn,hv];show ¬(K:Int)<0;omega
 ·rw[decide_eq_true_eq,←hn]
  have:valZ q= -(K:Int):=hv
  omega
theorem of_ref {n:Int} {p:Int×Int} (h0: -9223372036854775808≤n) (h1:n≤9223372036854775807) (h:near (decide (n<0)) (ofN n) false=(p,0)):ofS n p=decide (wholeN p.1 p.2=n.natAbs*10 ^ 9):=by
 have hp:=near_right h
 rw[Bool.eq_iff_iff,ofS_iff h0 h1 hp,decide_eq_true_eq,layD_whole p.1 hp.2.2.1]
 have e:ofN n=n.natAbs*10 ^ 9*10 ^ 39:=by unfold ofN;rw[Nat.mul_assoc,←Nat.pow_add]
 rw[e]
 have hp39:=p39
 constructor
 ·intro c;exact Nat.eq_of_mul_eq_mul_right hp39 c.2
 ·intro c
  refine⟨?_,by rw[c]⟩
  by_cases z:p.1=0
  ·have:n.natAbs*10 ^ 9=0:=by rw[←c];unfold wholeN;rw[z];simp
   have:n.natAbs=0:=(Nat.mul_eq_zero.1 this).resolve_right (Nat.ne_of_gt (pow10_pos 9))
   rw[z,show n=0 by omega]
  ·exact near_sign h z
theorem of_lay (n:Int):refQ (decide (n<0)) n.natAbs 1=near (decide (n<0)) (ofN n) false:=refQ_one _ _
end Go.Proofs.YtmhfioimgllgeaaGreatDoor
namespace Go.Proofs.YtmhfioimgllgeaaGreatDoor
open Go.RowKit Go.Shelf
theorem less_below (b b':Nat) (v v':Value) (x y:Nat) (w:World) (h:World.dl w b v x) (h':World.dl w b' v' y) (hx:lenD x≤1000) (hy:lenD y≤1000):
 Calls Tryz.prog 106 #[v,v'] w fun e w'=>e= .returned (.bool (decide (x<y)))∧Below w.heap.size w w':=
 (less_any b b' v v' x y w h h' hx hy).mono (by rintro e w' ⟨rfl,n,rfl⟩;exact⟨rfl,below_drewN (Below.refl _ _) _⟩)
end Go.Proofs.YtmhfioimgllgeaaGreatDoor
namespace Go.Proofs.YtmhfioimgllgeaaGreatDoor
open Go.RowKit Go.Shelf
theorem less_lit (b b':Nat) (v v':Value) (x y:Nat) (w:World) (h:World.dl w b v x) (h':World.dl w b' v' y) (hx:lenD x≤1000) (hy:lenD y≤1000) (u u':Value) (r:Bool) (e:u=v) (e':u'=v') (hr:decide (x<y)=r):
 Calls Tryz.prog 106 #[u,u'] w fun e w'=>e= .returned (.bool r)∧Below w.heap.size w w':=by
 subst e e' hr
 exact less_below b b' _ _ x y w h h' hx hy
theorem int_len {n:Int} (h0: -9223372036854775808≤n) (h1:n≤9223372036854775807):lenD n.natAbs≤19:=by
 rw[lenD_iff]
 have:(9223372036854775808:Nat)<10 ^ 19:=by decide
 omega
theorem digits_eq (n m:Int) (h0: -9223372036854775808≤n) (h1:n≤9223372036854775807) (e:m=n) (w:World):Calls Tryz.prog 105 #[.int .i64 m] w (DlPost n.natAbs w):=by
 subst e;exact digits_any _ w h0 h1
set_option maxRecDepth 100000 in
set_option maxHeartbeats 4000000 in
theorem rof_bad (n:Int) (w:World) (h0: -9223372036854775808≤n) (h1:n≤9223372036854775807) (hn:refQ (decide (n<0)) n.natAbs 1=((0,0),10)):
 Calls Tryz.prog 56 #[.int .i64 n] w (DecPost (((0,0),10)) w):=by
 have ln:=int_len h0 h1
 have CD:=fun w=>digits_any n w h0 h1
 have CD2:=fun m (e:m=n) w=>digits_eq n m h0 h1 e w
 have CN:=fun (W:World) (v v':Value) (h:World.dl W w.heap.size v n.natAbs) (h':World.dl W w.heap.size v' 1)=>near_any (decide (n<0)) w.heap.size w.heap.size v v' n.natAbs 1 W h h' (by omega) (by rw[lenD_one];omega) (by decide)
 rw[hn]at CN
 obtain⟨N,hN⟩:∃N,n.natAbs=N:=⟨_,rfl⟩
 rw[hN]at CD CD2 CN ln
 have KD:=Lib.hid CD
 have KD2:=Lib.hid CD2
 have KN:=Lib.hid CN
 clear hn hN CD CD2 CN ln
 go_enter Tryz.func56,Tryz.ntmps56
 go_wp2_with fail
 obtain⟨W,hW⟩:∃W,W=w.alloc (.cells #[.int .i64 0,.int .i64 0] 34):=⟨_,rfl⟩
 rw[←hW]
 have d2:World.dec W w.heap.size 0 0:=by rw[hW];exact World.dec_new w 0 0 _ rfl
 have hB:Below w.heap.size w W:=by rw[hW];exact(Below.refl _ w).alloc (Nat.le_refl _) _
 have hsz:=hB.size
 clear hW
 refine(KD.out _).mono ?_
 rintro e w1 ⟨vd,rfl,hd,hB1⟩
 have d2:=d2.below hB1 d2.lt
 have hd:=hd.mono hsz
 have hB:=hB.trans (hB1.mono hB.size)
 have hsz:=hB.size
 clear hB1
 go_wp2_with fail
 obtain⟨w2,hw⟩:∃W,W=w1.alloc (.cells #[.int .i64 1] 3):=⟨_,rfl⟩
 rw[←hw]
 have ho:=one_dl w1 hsz
 rw[←hw]at ho
 have hB1:Below w1.heap.size w1 w2:=by rw[hw];exact(Below.refl _ _).alloc (Nat.le_refl _) _
 clear hw
 have d2:=d2.below hB1 d2.lt
 have hd:=hd.below hB1
 have hB:=hB.trans (hB1.mono hB.size)
 have hsz:=hB.size
 clear hB1
 refine(KN.out _ _ _ hd ho).mono ?_
 rintro e w3 ⟨rfl,hB1⟩
 have d2:=d2.below hB1 d2.lt
 have hB:=hB.trans (hB1.mono hB.size)
 have hsz:=hB.size
 clear hB1 hd ho
 have l2:=d2.lt
 go_wp2_with fail
 obtain⟨W,hW⟩:∃W,W=w3.alloc (.cells #[.int .i64 0,.int .i64 0] 34):=⟨_,rfl⟩
 rw[←hW]
 obtain⟨g,hg⟩:∃g,g=w3.heap.size:=⟨_,rfl⟩
 rw[←hg]
 have d5:World.dec W g 0 0:=by rw[hW];exact World.dec_new w3 _ _ _ hg
 have d2:World.dec W w.heap.size 0 0:=by rw[hW];exact d2.alloc _
 have hB:Below w.heap.size w W:=by rw[hW];exact hB.alloc hB.size _
 have hne:w.heap.size<g:=by omega
 clear hW hg l2
 have d2:=d2.drew
 have d5:=d5.drew
 have hB:=hB.drew
 have hsz:=hB.size
 have a0:=d5.c0
 have a1:=d5.c1
 go_quiet (fail)
 obtain⟨w9,hw⟩:∃W',W'=W.drewN nq:=⟨_,rfl⟩
 rw[←hw]
 have hB1:Below W.drew.heap.size W.drew w9:=by rw[hw];exact⟨rfl,rfl,rfl,Nat.le_refl _,fun _ _=>rfl⟩
 clear hw
 have d2:World.dec w9 w.heap.size 0 0:=d2.below hB1 d2.lt
 have hB:Below w.heap.size w w9:=hB.trans (hB1.mono hB.size)
 have hsz:=hB.size
 all_goals
  have c0:=d2.c0
  have c1:=d2.c1
  have f0:=d2.frozen 0
  have f1:=d2.frozen 1
  go_wp2_with fail
  refine bodyPost_ret (results_dec_tmp rfl _ _ _ _ _ rfl (World.dec.set1 (World.dec.set0 d2 0) 0)) rfl ?_
  exact⟨rfl,(hB.setCell (by simp) _).setCell (by simp) _⟩
set_option maxRecDepth 100000 in
set_option maxHeartbeats 4000000 in
theorem rof_lt (x y:Int) (n:Int) (w:World) (h0: -9223372036854775808≤n) (h1:n≤9223372036854775807) (hn:refQ (decide (n<0)) n.natAbs 1=((x,y),0)) (hx0:RightP (x,y)) (hl:wholeN x y<n.natAbs*10 ^ 9):
 Calls Tryz.prog 56 #[.int .i64 n] w (DecPost (((0,0),10)) w):=by
 have ln:=int_len h0 h1
 have CD:=fun w=>digits_any n w h0 h1
 have CD2:=fun m (e:m=n) w=>digits_eq n m h0 h1 e w
 have CN:=fun (W:World) (v v':Value) (h:World.dl W w.heap.size v n.natAbs) (h':World.dl W w.heap.size v' 1)=>near_any (decide (n<0)) w.heap.size w.heap.size v v' n.natAbs 1 W h h' (by omega) (by rw[lenD_one];omega) (by decide)
 rw[hn]at CN
 obtain⟨x0,x1,y0,y1,_⟩:=hx0
 simp only at x0 x1 y0 y1
 have CW:∀m e,(m=x∧e=y)→∀w,Calls Tryz.prog 107 #[.agg #[.int .i64 m,.int .i64 e]] w (DlPost (wholeN x y) w):=by rintro _ _ ⟨rfl,rfl⟩ w;exact whole_any _ _ w (by omega) (by omega) y0 y1
 have lx:=wholeN_len (M:=x) (E:=y) (by rw[p15n];omega) y1
 obtain⟨X,hX⟩:∃X,wholeN x y=X:=⟨_,rfl⟩
 rw[hX]at CW lx hl
 obtain⟨N,hN⟩:∃N,n.natAbs=N:=⟨_,rfl⟩
 rw[hN]at CD CD2 CN ln hl
 have CT:=fun (v:Value) (W:World) (h:World.dl W w.heap.size v N)=>ten_any w.heap.size v N 9 W h (by omega) (by omega) (by omega)
 rw[show ((9:Int).toNat)=9 from rfl]at CT
 have lz:lenD (N*10 ^ 9)≤28:=Nat.le_trans tens_len (by omega)
 obtain⟨Z,hZ⟩:∃Z,N*10 ^ 9=Z:=⟨_,rfl⟩
 rw[hZ]at CT lz hl
 have KT:=Lib.hid CT
 have KW:=Lib.hid CW
 have LX:=Lib.hid lx
 have LZ:=Lib.hid lz
 have b1:decide (X<Z)=true:=decide_eq_true hl
 have KB1:=Lib.hid b1
 clear b1
 have KD:=Lib.hid CD
 have KD2:=Lib.hid CD2
 have KN:=Lib.hid CN
 clear hn hN CD CD2 CN ln hX hZ hl lx lz CT CW
 go_enter Tryz.func56,Tryz.ntmps56
 go_wp2_with fail
 obtain⟨W,hW⟩:∃W,W=w.alloc (.cells #[.int .i64 0,.int .i64 0] 34):=⟨_,rfl⟩
 rw[←hW]
 have d2:World.dec W w.heap.size 0 0:=by rw[hW];exact World.dec_new w 0 0 _ rfl
 have hB:Below w.heap.size w W:=by rw[hW];exact(Below.refl _ w).alloc (Nat.le_refl _) _
 have hsz:=hB.size
 clear hW
 refine(KD.out _).mono ?_
 rintro e w1 ⟨vd,rfl,hd,hB1⟩
 have d2:=d2.below hB1 d2.lt
 have hd:=hd.mono hsz
 have hB:=hB.trans (hB1.mono hB.size)
 have hsz:=hB.size
 clear hB1
 go_wp2_with fail
 obtain⟨w2,hw⟩:∃W,W=w1.alloc (.cells #[.int .i64 1] 3):=⟨_,rfl⟩
 rw[←hw]
 have ho:=one_dl w1 hsz
 rw[←hw]at ho
 have hB1:Below w1.heap.size w1 w2:=by rw[hw];exact(Below.refl _ _).alloc (Nat.le_refl _) _
 clear hw
 have d2:=d2.below hB1 d2.lt
 have hd:=hd.below hB1
 have hB:=hB.trans (hB1.mono hB.size)
 have hsz:=hB.size
 clear hB1
 refine(KN.out _ _ _ hd ho).mono ?_
 rintro e w3 ⟨rfl,hB1⟩
 have d2:=d2.below hB1 d2.lt
 have hB:=hB.trans (hB1.mono hB.size)
 have hsz:=hB.size
 clear hB1 hd ho
 have l2:=d2.lt
 go_wp2_with fail
 obtain⟨W,hW⟩:∃W,W=w3.alloc (.cells #[.int .i64 x,.int .i64 y] 34):=⟨_,rfl⟩
 rw[←hW]
 obtain⟨g,hg⟩:∃g,g=w3.heap.size:=⟨_,rfl⟩
 rw[←hg]
 have d5:World.dec W g x y:=by rw[hW];exact World.dec_new w3 _ _ _ hg
 have d2:World.dec W w.heap.size 0 0:=by rw[hW];exact d2.alloc _
 have hB:Below w.heap.size w W:=by rw[hW];exact hB.alloc hB.size _
 have hne:w.heap.size<g:=by omega
 clear hW hg l2
 have d2:=d2.drew
 have d5:=d5.drew
 have hB:=hB.drew
 have hsz:=hB.size
 have a0:=d5.c0
 have a1:=d5.c1
 first|(go_region_with
  (first
   |(go_at_call 107;refine(KW.out _ _ ?_ _).mono ?_;exact⟨rfl,rfl⟩;rintro e wx ⟨vx,rfl,hx,hB1⟩;have d2:=d2.below hB1 d2.lt;have d5:=d5.below hB1 d5.lt;(try have hd:=hd.below hB1);(try have ht:=ht.below hB1);have hx:=hx.mono hsz;have hB:=hB.trans (hB1.mono hB.size);have hsz:=hB.size;have a0:=d5.c0;have a1:=d5.c1)
   |(go_at_call 105;refine(KD2.out _ rfl _).mono ?_;rintro e wx ⟨vd,rfl,hd,hB1⟩;have d2:=d2.below hB1 d2.lt;have d5:=d5.below hB1 d5.lt;(try have hx:=hx.below hB1);(try have ht:=ht.below hB1);have hd:=hd.mono hsz;have hB:=hB.trans (hB1.mono hB.size);have hsz:=hB.size;have a0:=d5.c0;have a1:=d5.c1)
   |(go_at_call 108;refine(KT.out _ _ hd).mono ?_;rintro e wx ⟨vt,rfl,ht,hB1⟩;have d2:=d2.below hB1 d2.lt;have d5:=d5.below hB1 d5.lt;(try have hx:=hx.below hB1);(try have hd:=hd.below hB1);have ht:=ht.mono hsz;have hB:=hB.trans (hB1.mono hB.size);have hsz:=hB.size;have a0:=d5.c0;have a1:=d5.c1)
   |(go_at_call 106;refine(less_lit w.heap.size w.heap.size vx vt X Z _ hx ht (by have:=LX.out;omega) (by have:=LZ.out;omega) _ _ _ ?_ ?_ KB1.out).mono ?_;exact rfl;exact rfl;rintro e wl ⟨rfl,hB1⟩;have d2:=d2.below hB1 d2.lt;have d5:=d5.below hB1 d5.lt;(try have hx:=hx.below hB1);(try have hd:=hd.below hB1);(try have ht:=ht.below hB1);have hB:=hB.trans (hB1.mono hB.size);have hsz:=hB.size;have a0:=d5.c0;have a1:=d5.c1)
   |fail))|fail
 all_goals
  have c0:=d2.c0
  have c1:=d2.c1
  have f0:=d2.frozen 0
  have f1:=d2.frozen 1
  go_wp2_with fail
  refine bodyPost_ret (results_dec_tmp rfl _ _ _ _ _ rfl (World.dec.set1 (World.dec.set0 d2 0) 0)) rfl ?_
  exact⟨rfl,(hB.setCell (by simp) _).setCell (by simp) _⟩
set_option maxRecDepth 100000 in
set_option maxHeartbeats 4000000 in
theorem rof_gt (x y:Int) (n:Int) (w:World) (h0: -9223372036854775808≤n) (h1:n≤9223372036854775807) (hn:refQ (decide (n<0)) n.natAbs 1=((x,y),0)) (hx0:RightP (x,y)) (hl:n.natAbs*10 ^ 9<wholeN x y):
 Calls Tryz.prog 56 #[.int .i64 n] w (DecPost (((0,0),10)) w):=by
 have ln:=int_len h0 h1
 have CD:=fun w=>digits_any n w h0 h1
 have CD2:=fun m (e:m=n) w=>digits_eq n m h0 h1 e w
 have CN:=fun (W:World) (v v':Value) (h:World.dl W w.heap.size v n.natAbs) (h':World.dl W w.heap.size v' 1)=>near_any (decide (n<0)) w.heap.size w.heap.size v v' n.natAbs 1 W h h' (by omega) (by rw[lenD_one];omega) (by decide)
 rw[hn]at CN
 obtain⟨x0,x1,y0,y1,_⟩:=hx0
 simp only at x0 x1 y0 y1
 have CW:∀m e,(m=x∧e=y)→∀w,Calls Tryz.prog 107 #[.agg #[.int .i64 m,.int .i64 e]] w (DlPost (wholeN x y) w):=by rintro _ _ ⟨rfl,rfl⟩ w;exact whole_any _ _ w (by omega) (by omega) y0 y1
 have lx:=wholeN_len (M:=x) (E:=y) (by rw[p15n];omega) y1
 obtain⟨X,hX⟩:∃X,wholeN x y=X:=⟨_,rfl⟩
 rw[hX]at CW lx hl
 obtain⟨N,hN⟩:∃N,n.natAbs=N:=⟨_,rfl⟩
 rw[hN]at CD CD2 CN ln hl
 have CT:=fun (v:Value) (W:World) (h:World.dl W w.heap.size v N)=>ten_any w.heap.size v N 9 W h (by omega) (by omega) (by omega)
 rw[show ((9:Int).toNat)=9 from rfl]at CT
 have lz:lenD (N*10 ^ 9)≤28:=Nat.le_trans tens_len (by omega)
 obtain⟨Z,hZ⟩:∃Z,N*10 ^ 9=Z:=⟨_,rfl⟩
 rw[hZ]at CT lz hl
 have KT:=Lib.hid CT
 have KW:=Lib.hid CW
 have LX:=Lib.hid lx
 have LZ:=Lib.hid lz
 have b1:decide (X<Z)=false:=decide_eq_false (by omega)
 have b2:decide (Z<X)=true:=decide_eq_true hl
 have KB1:=Lib.hid b1
 clear b1
 have KB2:=Lib.hid b2
 clear b2
 have KD:=Lib.hid CD
 have KD2:=Lib.hid CD2
 have KN:=Lib.hid CN
 clear hn hN CD CD2 CN ln hX hZ hl lx lz CT CW
 go_enter Tryz.func56,Tryz.ntmps56
 go_wp2_with fail
 obtain⟨W,hW⟩:∃W,W=w.alloc (.cells #[.int .i64 0,.int .i64 0] 34):=⟨_,rfl⟩
 rw[←hW]
 have d2:World.dec W w.heap.size 0 0:=by rw[hW];exact World.dec_new w 0 0 _ rfl
 have hB:Below w.heap.size w W:=by rw[hW];exact(Below.refl _ w).alloc (Nat.le_refl _) _
 have hsz:=hB.size
 clear hW
 refine(KD.out _).mono ?_
 rintro e w1 ⟨vd,rfl,hd,hB1⟩
 have d2:=d2.below hB1 d2.lt
 have hd:=hd.mono hsz
 have hB:=hB.trans (hB1.mono hB.size)
 have hsz:=hB.size
 clear hB1
 go_wp2_with fail
 obtain⟨w2,hw⟩:∃W,W=w1.alloc (.cells #[.int .i64 1] 3):=⟨_,rfl⟩
 rw[←hw]
 have ho:=one_dl w1 hsz
 rw[←hw]at ho
 have hB1:Below w1.heap.size w1 w2:=by rw[hw];exact(Below.refl _ _).alloc (Nat.le_refl _) _
 clear hw
 have d2:=d2.below hB1 d2.lt
 have hd:=hd.below hB1
 have hB:=hB.trans (hB1.mono hB.size)
 have hsz:=hB.size
 clear hB1
 refine(KN.out _ _ _ hd ho).mono ?_
 rintro e w3 ⟨rfl,hB1⟩
 have d2:=d2.below hB1 d2.lt
 have hB:=hB.trans (hB1.mono hB.size)
 have hsz:=hB.size
 clear hB1 hd ho
 have l2:=d2.lt
 go_wp2_with fail
 obtain⟨W,hW⟩:∃W,W=w3.alloc (.cells #[.int .i64 x,.int .i64 y] 34):=⟨_,rfl⟩
 rw[←hW]
 obtain⟨g,hg⟩:∃g,g=w3.heap.size:=⟨_,rfl⟩
 rw[←hg]
 have d5:World.dec W g x y:=by rw[hW];exact World.dec_new w3 _ _ _ hg
 have d2:World.dec W w.heap.size 0 0:=by rw[hW];exact d2.alloc _
 have hB:Below w.heap.size w W:=by rw[hW];exact hB.alloc hB.size _
 have hne:w.heap.size<g:=by omega
 clear hW hg l2
 have d2:=d2.drew
 have d5:=d5.drew
 have hB:=hB.drew
 have hsz:=hB.size
 have a0:=d5.c0
 have a1:=d5.c1
 first|(go_region_held3 (fun w'=>w'.cell? ⟨g,0,none⟩=some (.int .i64 x)∧w'.cell? ⟨g,1,none⟩=some (.int .i64 y))
  (first|exact⟨a0,a1⟩)
  (first
   |(go_at_call 107;refine(KW.out _ _ ?_ _).mono ?_;exact⟨rfl,rfl⟩;rintro e wx ⟨vx,rfl,hx,hB1⟩;have d2:=d2.below hB1 d2.lt;have d5:=d5.below hB1 d5.lt;(try have hd:=hd.below hB1);(try have ht:=ht.below hB1);have hx:=hx.mono hsz;have hB:=hB.trans (hB1.mono hB.size);have hsz:=hB.size;have a0:=d5.c0;have a1:=d5.c1)
   |(go_at_call 105;refine(KD2.out _ rfl _).mono ?_;rintro e wx ⟨vd,rfl,hd,hB1⟩;have d2:=d2.below hB1 d2.lt;have d5:=d5.below hB1 d5.lt;(try have hx:=hx.below hB1);(try have ht:=ht.below hB1);have hd:=hd.mono hsz;have hB:=hB.trans (hB1.mono hB.size);have hsz:=hB.size;have a0:=d5.c0;have a1:=d5.c1)
   |(go_at_call 108;refine(KT.out _ _ hd).mono ?_;rintro e wx ⟨vt,rfl,ht,hB1⟩;have d2:=d2.below hB1 d2.lt;have d5:=d5.below hB1 d5.lt;(try have hx:=hx.below hB1);(try have hd:=hd.below hB1);have ht:=ht.mono hsz;have hB:=hB.trans (hB1.mono hB.size);have hsz:=hB.size;have a0:=d5.c0;have a1:=d5.c1)
   |(go_at_call 106;refine(less_lit w.heap.size w.heap.size vx vt X Z _ hx ht (by have:=LX.out;omega) (by have:=LZ.out;omega) _ _ _ ?_ ?_ KB1.out).mono ?_;exact rfl;exact rfl;rintro e wl ⟨rfl,hB1⟩;have d2:=d2.below hB1 d2.lt;have d5:=d5.below hB1 d5.lt;(try have hx:=hx.below hB1);(try have hd:=hd.below hB1);(try have ht:=ht.below hB1);have hB:=hB.trans (hB1.mono hB.size);have hsz:=hB.size;have a0:=d5.c0;have a1:=d5.c1)
   |(go_at_call 106;refine(less_lit w.heap.size w.heap.size vt vx Z X _ ht hx (by have:=LZ.out;omega) (by have:=LX.out;omega) _ _ _ ?_ ?_ KB2.out).mono ?_;exact rfl;exact rfl;rintro e wl ⟨rfl,hB1⟩;have d2:=d2.below hB1 d2.lt;have d5:=d5.below hB1 d5.lt;(try have hx:=hx.below hB1);(try have hd:=hd.below hB1);(try have ht:=ht.below hB1);have hB:=hB.trans (hB1.mono hB.size);have hsz:=hB.size;have a0:=d5.c0;have a1:=d5.c1)
   |fail))|fail
 all_goals
  have c0:=d2.c0
  have c1:=d2.c1
  have f0:=d2.frozen 0
  have f1:=d2.frozen 1
  go_wp2_with fail
  refine bodyPost_ret (results_dec_tmp rfl _ _ _ _ _ rfl (World.dec.set1 (World.dec.set0 d2 0) 0)) rfl ?_
  exact⟨rfl,(hB.setCell (by simp) _).setCell (by simp) _⟩
set_option maxRecDepth 100000 in
set_option maxHeartbeats 4000000 in
theorem rof_eq (x y:Int) (n:Int) (w:World) (h0: -9223372036854775808≤n) (h1:n≤9223372036854775807) (hn:refQ (decide (n<0)) n.natAbs 1=((x,y),0)) (hx0:RightP (x,y)) (hl:wholeN x y=n.natAbs*10 ^ 9):
 Calls Tryz.prog 56 #[.int .i64 n] w (DecPost (((x,y),0)) w):=by
 have ln:=int_len h0 h1
 have CD:=fun w=>digits_any n w h0 h1
 have CD2:=fun m (e:m=n) w=>digits_eq n m h0 h1 e w
 have CN:=fun (W:World) (v v':Value) (h:World.dl W w.heap.size v n.natAbs) (h':World.dl W w.heap.size v' 1)=>near_any (decide (n<0)) w.heap.size w.heap.size v v' n.natAbs 1 W h h' (by omega) (by rw[lenD_one];omega) (by decide)
 rw[hn]at CN
 obtain⟨x0,x1,y0,y1,_⟩:=hx0
 simp only at x0 x1 y0 y1
 have CW:∀m e,(m=x∧e=y)→∀w,Calls Tryz.prog 107 #[.agg #[.int .i64 m,.int .i64 e]] w (DlPost (wholeN x y) w):=by rintro _ _ ⟨rfl,rfl⟩ w;exact whole_any _ _ w (by omega) (by omega) y0 y1
 have lx:=wholeN_len (M:=x) (E:=y) (by rw[p15n];omega) y1
 obtain⟨X,hX⟩:∃X,wholeN x y=X:=⟨_,rfl⟩
 rw[hX]at CW lx hl
 obtain⟨N,hN⟩:∃N,n.natAbs=N:=⟨_,rfl⟩
 rw[hN]at CD CD2 CN ln hl
 have CT:=fun (v:Value) (W:World) (h:World.dl W w.heap.size v N)=>ten_any w.heap.size v N 9 W h (by omega) (by omega) (by omega)
 rw[show ((9:Int).toNat)=9 from rfl]at CT
 have lz:lenD (N*10 ^ 9)≤28:=Nat.le_trans tens_len (by omega)
 obtain⟨Z,hZ⟩:∃Z,N*10 ^ 9=Z:=⟨_,rfl⟩
 rw[hZ]at CT lz hl
 have KT:=Lib.hid CT
 have KW:=Lib.hid CW
 have LX:=Lib.hid lx
 have LZ:=Lib.hid lz
 have b1:decide (X<Z)=false:=decide_eq_false (by omega)
 have b2:decide (Z<X)=false:=decide_eq_false (by omega)
 have KB1:=Lib.hid b1
 clear b1
 have KB2:=Lib.hid b2
 clear b2
 have KD:=Lib.hid CD
 have KD2:=Lib.hid CD2
 have KN:=Lib.hid CN
 clear hn hN CD CD2 CN ln hX hZ hl lx lz CT CW
 go_enter Tryz.func56,Tryz.ntmps56
 go_wp2_with fail
 obtain⟨W,hW⟩:∃W,W=w.alloc (.cells #[.int .i64 0,.int .i64 0] 34):=⟨_,rfl⟩
 rw[←hW]
 have d2:World.dec W w.heap.size 0 0:=by rw[hW];exact World.dec_new w 0 0 _ rfl
 have hB:Below w.heap.size w W:=by rw[hW];exact(Below.refl _ w).alloc (Nat.le_refl _) _
 have hsz:=hB.size
 clear hW
 refine(KD.out _).mono ?_
 rintro e w1 ⟨vd,rfl,hd,hB1⟩
 have d2:=d2.below hB1 d2.lt
 have hd:=hd.mono hsz
 have hB:=hB.trans (hB1.mono hB.size)
 have hsz:=hB.size
 clear hB1
 go_wp2_with fail
 obtain⟨w2,hw⟩:∃W,W=w1.alloc (.cells #[.int .i64 1] 3):=⟨_,rfl⟩
 rw[←hw]
 have ho:=one_dl w1 hsz
 rw[←hw]at ho
 have hB1:Below w1.heap.size w1 w2:=by rw[hw];exact(Below.refl _ _).alloc (Nat.le_refl _) _
 clear hw
 have d2:=d2.below hB1 d2.lt
 have hd:=hd.below hB1
 have hB:=hB.trans (hB1.mono hB.size)
 have hsz:=hB.size
 clear hB1
 refine(KN.out _ _ _ hd ho).mono ?_
 rintro e w3 ⟨rfl,hB1⟩
 have d2:=d2.below hB1 d2.lt
 have hB:=hB.trans (hB1.mono hB.size)
 have hsz:=hB.size
 clear hB1 hd ho
 have l2:=d2.lt
 go_wp2_with fail
 obtain⟨W,hW⟩:∃W,W=w3.alloc (.cells #[.int .i64 x,.int .i64 y] 34):=⟨_,rfl⟩
 rw[←hW]
 obtain⟨g,hg⟩:∃g,g=w3.heap.size:=⟨_,rfl⟩
 rw[←hg]
 have d5:World.dec W g x y:=by rw[hW];exact World.dec_new w3 _ _ _ hg
 have d2:World.dec W w.heap.size 0 0:=by rw[hW];exact d2.alloc _
 have hB:Below w.heap.size w W:=by rw[hW];exact hB.alloc hB.size _
 have hne:w.heap.size<g:=by omega
 clear hW hg l2
 have d2:=d2.drew
 have d5:=d5.drew
 have hB:=hB.drew
 have hsz:=hB.size
 have a0:=d5.c0
 have a1:=d5.c1
 first|(go_region_held3 (fun w'=>w'.cell? ⟨g,0,none⟩=some (.int .i64 x)∧w'.cell? ⟨g,1,none⟩=some (.int .i64 y))
  (first|exact⟨a0,a1⟩)
  (first
   |(go_at_call 107;refine(KW.out _ _ ?_ _).mono ?_;exact⟨rfl,rfl⟩;rintro e wx ⟨vx,rfl,hx,hB1⟩;have d2:=d2.below hB1 d2.lt;have d5:=d5.below hB1 d5.lt;(try have hd:=hd.below hB1);(try have ht:=ht.below hB1);have hx:=hx.mono hsz;have hB:=hB.trans (hB1.mono hB.size);have hsz:=hB.size;have a0:=d5.c0;have a1:=d5.c1)
   |(go_at_call 105;refine(KD2.out _ rfl _).mono ?_;rintro e wx ⟨vd,rfl,hd,hB1⟩;have d2:=d2.below hB1 d2.lt;have d5:=d5.below hB1 d5.lt;(try have hx:=hx.below hB1);(try have ht:=ht.below hB1);have hd:=hd.mono hsz;have hB:=hB.trans (hB1.mono hB.size);have hsz:=hB.size;have a0:=d5.c0;have a1:=d5.c1)
   |(go_at_call 108;refine(KT.out _ _ hd).mono ?_;rintro e wx ⟨vt,rfl,ht,hB1⟩;have d2:=d2.below hB1 d2.lt;have d5:=d5.below hB1 d5.lt;(try have hx:=hx.below hB1);(try have hd:=hd.below hB1);have ht:=ht.mono hsz;have hB:=hB.trans (hB1.mono hB.size);have hsz:=hB.size;have a0:=d5.c0;have a1:=d5.c1)
   |(go_at_call 106;refine(less_lit w.heap.size w.heap.size vx vt X Z _ hx ht (by have:=LX.out;omega) (by have:=LZ.out;omega) _ _ _ ?_ ?_ KB1.out).mono ?_;exact rfl;exact rfl;rintro e wl ⟨rfl,hB1⟩;have d2:=d2.below hB1 d2.lt;have d5:=d5.below hB1 d5.lt;(try have hx:=hx.below hB1);(try have hd:=hd.below hB1);(try have ht:=ht.below hB1);have hB:=hB.trans (hB1.mono hB.size);have hsz:=hB.size;have a0:=d5.c0;have a1:=d5.c1)
   |(go_at_call 106;refine(less_lit w.heap.size w.heap.size vt vx Z X _ ht hx (by have:=LZ.out;omega) (by have:=LX.out;omega) _ _ _ ?_ ?_ KB2.out).mono ?_;exact rfl;exact rfl;rintro e wl ⟨rfl,hB1⟩;have d2:=d2.below hB1 d2.lt;have d5:=d5.below hB1 d5.lt;(try have hx:=hx.below hB1);(try have hd:=hd.below hB1);(try have ht:=ht.below hB1);have hB:=hB.trans (hB1.mono hB.size);have hsz:=hB.size;have a0:=d5.c0;have a1:=d5.c1)
   |fail))|fail
 all_goals
  have c0:=d2.c0
  have c1:=d2.c1
  have f0:=d2.frozen 0
  have f1:=d2.frozen 1
  go_wp2_with fail
  refine bodyPost_ret (results_dec_tmp rfl _ _ _ _ _ rfl (World.dec.set1 (World.dec.set0 d2 x) y)) rfl ?_
  exact⟨rfl,(hB.setCell (by simp) _).setCell (by simp) _⟩
theorem rof_any (n:Int) (w:World) (h0: -9223372036854775808≤n) (h1:n≤9223372036854775807):
 Calls Tryz.prog 56 #[.int .i64 n] w (DecPost (ofD n) w):=by
 rcases near_two (decide (n<0)) (ofN n)with h|h
 ·obtain⟨⟨x,y⟩,hp⟩:∃p,near (decide (n<0)) (ofN n) false=(p,0):=⟨_,Prod.ext rfl h⟩
  have hR:=near_right hp
  have hs:=of_ref h0 h1 hp
  simp only at hs
  have hn:refQ (decide (n<0)) n.natAbs 1=((x,y),0):=by rw[of_lay,hp]
  rcases Nat.lt_trichotomy (wholeN x y) (n.natAbs*10 ^ 9)with c|c|c
  ·rw[ofD_no hp (by rw[hs];exact decide_eq_false (by omega))];exact rof_lt x y n w h0 h1 hn hR c
  ·rw[ofD_yes hp (by rw[hs];exact decide_eq_true c)];exact rof_eq x y n w h0 h1 hn hR c
  ·rw[ofD_no hp (by rw[hs];exact decide_eq_false (by omega))];exact rof_gt x y n w h0 h1 hn hR c
 ·rw[ofD_bad h];exact rof_bad n w h0 h1 (by rw[of_lay,h])
end Go.Proofs.YtmhfioimgllgeaaGreatDoor
