/- Merged: Div64, Div10. -/
import Derived.Test.YtmhfioimgllgeaaGreatDoorR02
import Derived.Test.YtmhfioimgllgeaaGreatDoorR03
import Derived.Laws.Bits64b
import Derived.Laws.BitsAllLaws
namespace Go.Proofs.YtmhfioimgllgeaaGreatDoor
open Go.RowKit
theorem ret_two {k k':IntKind} {a b c d:Int} (h:a=c) (h':b=d):Ending.returned (.tuple #[.int k a,.int k' b])= .returned (.tuple #[.int k c,.int k' d]):=by rw[h,h']
theorem wrap_u64 (x:Int):IntKind.u64.wrap x=x%18446744073709551616:=rfl
set_option maxHeartbeats 400000 in
theorem div_0 (lo:Int) (w:World) (h0:0≤lo) (h1:lo≤18446744073709551615):
 Calls Tryz.prog 112 #[.int .u64 0,.int .u64 lo,.int .u64 10] w fun e w'=>e= .returned (.tuple #[.int .u64 (lo / 10),.int .u64 (lo%10)])∧∃n,w'=w.drewN n:=by
 go_enter Tryz.func112,Tryz.ntmps112
 go_wp2
 go_quiet (fail)
 go_wp2
 go_ret2
 exact⟨rfl,nq,rfl⟩
set_option maxHeartbeats 400000 in
theorem div_w (hi lo A V U:Int) (w:World) (_h0:0≤lo) (_h1:lo≤18446744073709551615) (g0:1≤hi) (g1:hi≤9)
 (a0:0≤A) (a1:A≤11529215046068469759) (v0:0≤V) (v1:V≤4294967295)
 (hor:bits BinOp.or IntKind.u64 (hi*1152921504606846976) (lo / 16)=A)
 (hV:IntKind.u64.wrap (lo*1152921504606846976) / 4294967296=V)
 (hz:bits BinOp.and IntKind.u64 (IntKind.u64.wrap (lo*1152921504606846976)) 4294967295=0)
 (u0:0≤U) (u1:U≤11529215046068469759)
 (hU:IntKind.u64.wrap (IntKind.u64.wrap (IntKind.u64.wrap (A*4294967296)+V)-IntKind.u64.wrap (A / 2684354560*11529215046068469760))=U)
 (hy:bits BinOp.and IntKind.u64 11529215046068469760 4294967295=0):
 Calls Tryz.prog 112 #[.int .u64 hi,.int .u64 lo,.int .u64 10] w fun e w'=>
  e= .returned (.tuple #[.int .u64 (A / 2684354560*4294967296+U / 2684354560),.int .u64 (IntKind.u64.wrap (IntKind.u64.wrap (IntKind.u64.wrap (U*4294967296))-IntKind.u64.wrap (U / 2684354560*11529215046068469760)) / 1152921504606846976)])∧w'=w:=by
 have c0:(hi==0)=false:=by simp;omega
 go_enter Tryz.func112,Tryz.ntmps112
 go_wp2_with fail
 refine(Tryz.bits_LeadingZeros64 10 _ (by omega) (by omega)).mono ?_
 rintro e w1 ⟨rfl,rfl⟩
 rw[show (64-(Lib.bitLen (10:Int).toNat:Int))=60 from by decide]
 go_wp2_with fail
 refine wp_loop_once ?_
 go_wp2_with fail
 refine wp_loop_once ?_
 go_wp2_with fail
 go_ret2
 exact⟨rfl,rfl⟩
end Go.Proofs.YtmhfioimgllgeaaGreatDoor
namespace Go.Proofs.YtmhfioimgllgeaaGreatDoor
open Go.RowKit
theorem or_hi_lo (hi lo:Nat) (g:hi≤9) (h:lo<18446744073709551616):bits BinOp.or IntKind.u64 ((hi:Int)*1152921504606846976) ((lo:Int) / 16)=(hi*1152921504606846976+lo / 16:Nat):=by
 have e1:((hi:Int)*1152921504606846976)=((hi*1152921504606846976:Nat):Int):=by simp
 have e2:((lo:Int) / 16)=((lo / 16:Nat):Int):=by simp
 rw[e1,e2,u64_or_nat _ _ (by omega) (by omega)]
 congr 1
 have:=Nat.two_pow_add_eq_or_of_lt (i:=60) (b:=lo / 16) (by omega) hi
 rw[show (2:Nat) ^ 60=1152921504606846976 from by decide]at this
 rw[Nat.mul_comm hi,this]
theorem and_low (x:Nat) (h:x<18446744073709551616) (h2:x%4294967296=0):bits BinOp.and IntKind.u64 (x:Int) 4294967295=0:=by
 have:=u64_and_nat x 4294967295 h (by omega)
 rw[show ((4294967295:Nat):Int)=4294967295 from rfl]at this
 rw[this]
 have e:=Nat.and_two_pow_sub_one_eq_mod x 32
 rw[show (2:Nat) ^ 32-1=4294967295 from by decide,show(2:Nat) ^ 32=4294967296 from by decide]at e
 rw[e,h2];rfl
theorem hU_eq0 (A V:Nat) (hv:V<4294967296):((((A:Int)*4294967296)%18446744073709551616+V)%18446744073709551616-((A:Int) / 2684354560*11529215046068469760)%18446744073709551616)%18446744073709551616=((A%2684354560*4294967296+V:Nat):Int):=by
 rw[Int.emod_add_emod,Int.emod_sub_emod,Int.sub_emod_emod]
 have e:(A:Int)*4294967296+V-(A:Int) / 2684354560*11529215046068469760=((A%2684354560*4294967296+V:Nat):Int):=by omega
 rw[e]
 have l:A%2684354560*4294967296+V<18446744073709551616:=by omega
 exact Int.emod_eq_of_lt (Int.natCast_nonneg _) (Int.ofNat_lt.2 l)
theorem q2_eq0 (U:Nat):((((U:Int)*4294967296)%18446744073709551616%18446744073709551616-((U:Int) / 2684354560*11529215046068469760)%18446744073709551616)%18446744073709551616 / 1152921504606846976)=((U%2684354560 / 268435456:Nat):Int):=by
 rw[Int.emod_emod,Int.emod_sub_emod,Int.sub_emod_emod]
 have e:(U:Int)*4294967296-(U:Int) / 2684354560*11529215046068469760=((U%2684354560*4294967296:Nat):Int):=by omega
 rw[e]
 have l:U%2684354560<2684354560:=Nat.mod_lt _ (by omega)
 have l2:U%2684354560*4294967296<18446744073709551616:=by omega
 have l3:((U%2684354560*4294967296:Nat):Int)%18446744073709551616=((U%2684354560*4294967296:Nat):Int):=Int.emod_eq_of_lt (Int.natCast_nonneg _) (Int.ofNat_lt.2 l2)
 rw[l3]
 generalize U%2684354560=R at l
 omega
theorem q1_q2' (N q1 r1 q0 r0:Nat) (m:Nat) (hA:N=(q1*2684354560+r1)*16+m) (hU:r1*4294967296+m*268435456=q0*2684354560+r0) (l:r0<2684354560):
 q1*4294967296+q0=N / 10∧r0 / 268435456=N%10:=by
 obtain⟨Q,hQ⟩:∃Q,Q=q1*4294967296+q0:=⟨_,rfl⟩
 have h:268435456*N=268435456*(10*Q)+r0:=by rw[hQ,hA];omega
 rw[←hQ]
 have hr:r0=268435456*(N-10*Q):=by rw[Nat.mul_sub,h,Nat.add_sub_cancel_left]
 have h2:10*Q≤N:=by
  rcases Nat.lt_or_ge N (10*Q)with h3|h3
  ·have:268435456*N<268435456*(10*Q):=Nat.mul_lt_mul_of_pos_left h3 (by decide)
   omega
  ·exact h3
 have ht:N-10*Q<10:=by
  rcases Nat.lt_or_ge (N-10*Q) 10 with h3|h3
  ·exact h3
  ·have:268435456*10≤268435456*(N-10*Q):=Nat.mul_le_mul_left _ h3
   omega
 rw[hr,Nat.mul_div_cancel_left _ (by decide)]
 clear hr h hA hU hQ
 omega
theorem q1_q2 (N A V U:Nat) (m:Nat) (hA:N=A*16+m) (hV:V=m*268435456) (hU:U=A%2684354560*4294967296+V):
 A / 2684354560*4294967296+U / 2684354560=N / 10∧U%2684354560 / 268435456=N%10:=by
 refine q1_q2' N (A / 2684354560) (A%2684354560) (U / 2684354560) (U%2684354560) m ?_ ?_ (Nat.mod_lt _ (by decide))
 ·rw[Nat.div_add_mod'];exact hA
 ·rw[Nat.div_add_mod',hU,hV]
theorem hU_eq (A V:Nat) (hv:V<4294967296):IntKind.u64.wrap (IntKind.u64.wrap (IntKind.u64.wrap ((A:Int)*4294967296)+V)-IntKind.u64.wrap ((A:Int) / 2684354560*11529215046068469760))=((A%2684354560*4294967296+V:Nat):Int):=by
 rw[wrap_u64,wrap_u64,wrap_u64,wrap_u64];exact hU_eq0 A V hv
theorem q2_eq (U:Nat):(IntKind.u64.wrap (IntKind.u64.wrap (IntKind.u64.wrap ((U:Int)*4294967296))-IntKind.u64.wrap ((U:Int) / 2684354560*11529215046068469760)) / 1152921504606846976)=((U%2684354560 / 268435456:Nat):Int):=by
 rw[wrap_u64,wrap_u64,wrap_u64,wrap_u64];exact q2_eq0 U
theorem wrap_lo (lo:Nat):IntKind.u64.wrap ((lo:Int)*1152921504606846976)=((lo%16*1152921504606846976:Nat):Int):=by rw[wrap_u64];omega
theorem wrap_lo_div (lo:Nat):IntKind.u64.wrap ((lo:Int)*1152921504606846976) / 4294967296=((lo%16*268435456:Nat):Int):=by rw[wrap_lo];omega
theorem wrap_lo_and (lo:Nat):bits BinOp.and IntKind.u64 (IntKind.u64.wrap ((lo:Int)*1152921504606846976)) 4294967295=0:=by
 rw[wrap_lo];exact and_low _ (by omega) (by omega)
theorem ten_and :bits BinOp.and IntKind.u64 11529215046068469760 4294967295=0:=and_low 11529215046068469760 (by decide) (by decide)
theorem A_lt (hi lo:Nat) (g:hi<10) (h:lo<18446744073709551616):hi*1152921504606846976+lo / 16≤11529215046068469759:=by omega
theorem U_lt (A V:Nat) (hV:V≤4294967295):A%2684354560*4294967296+V≤11529215046068469759:=by omega
theorem V_lt (lo:Nat):lo%16*268435456≤4294967295:=by omega
theorem N_eq (hi lo:Nat):hi*18446744073709551616+lo=(hi*1152921504606846976+lo / 16)*16+lo%16:=by omega
theorem cast_q (A U:Nat):(A:Int) / 2684354560*4294967296+(U:Int) / 2684354560=((A / 2684354560*4294967296+U / 2684354560:Nat):Int):=by omega
theorem div_n (hi lo:Nat) (w:World) (g0:1≤hi) (g:hi<10) (h:lo<18446744073709551616) (A V U:Nat) (hA:A=hi*1152921504606846976+lo / 16) (hV:V=lo%16*268435456) (hU:U=A%2684354560*4294967296+V):
 Calls Tryz.prog 112 #[.int .u64 hi,.int .u64 lo,.int .u64 10] w fun e w'=>
  e= .returned (.tuple #[.int .u64 ((A:Int) / 2684354560*4294967296+(U:Int) / 2684354560),.int .u64 (IntKind.u64.wrap (IntKind.u64.wrap (IntKind.u64.wrap ((U:Int)*4294967296))-IntKind.u64.wrap ((U:Int) / 2684354560*11529215046068469760)) / 1152921504606846976)])∧w'=w:=by
 have hv:V≤4294967295:=hV▸V_lt lo
 have ha:A≤11529215046068469759:=hA▸A_lt hi lo g h
 have hu:U≤11529215046068469759:=hU▸U_lt A V hv
 have ho:=or_hi_lo hi lo (Nat.le_of_lt_succ g) h
 rw[←hA]at ho
 have hd:=wrap_lo_div lo
 rw[←hV]at hd
 have hw:=hU_eq A V (Nat.lt_succ_of_le hv)
 rw[←hU]at hw
 exact div_w hi lo A V U w (Int.natCast_nonneg _) (Int.ofNat_le.2 (Nat.le_of_lt_succ h)) (Int.ofNat_le.2 g0) (Int.ofNat_le.2 (Nat.le_of_lt_succ g)) (Int.natCast_nonneg _) (Int.ofNat_le.2 ha) (Int.natCast_nonneg _) (Int.ofNat_le.2 hv)
  ho hd (wrap_lo_and lo) (Int.natCast_nonneg _) (Int.ofNat_le.2 hu) hw ten_and
/-- Div64 at 10, whatever the high word below 10. -/
theorem div10 (hi lo:Nat) (w:World) (g:hi<10) (h:lo<18446744073709551616):
 Calls Tryz.prog 112 #[.int .u64 hi,.int .u64 lo,.int .u64 10] w fun e w'=>e= .returned (.tuple #[.int .u64 ((hi*18446744073709551616+lo) / 10:Nat),.int .u64 ((hi*18446744073709551616+lo)%10:Nat)])∧∃n,w'=w.drewN n:=by
 by_cases h0:hi=0
 ·subst h0
  refine(div_0 lo w (Int.natCast_nonneg _) (Int.ofNat_le.2 (Nat.le_of_lt_succ h))).mono ?_
  rintro e w' ⟨rfl,hn⟩
  exact⟨ret_two (by rw[Nat.zero_mul,Nat.zero_add];rfl) (by rw[Nat.zero_mul,Nat.zero_add];rfl),hn⟩
 ·refine(div_n hi lo w (Nat.pos_of_ne_zero h0) g h _ _ _ rfl rfl rfl).mono ?_
  have hq:=q1_q2 (hi*18446744073709551616+lo) _ _ _ (lo%16) (N_eq hi lo) rfl rfl
  rintro e w' ⟨rfl,rfl⟩
  refine⟨ret_two ?_ ?_,0,rfl⟩
  ·rw[cast_q,hq.1]
  ·rw[q2_eq,hq.2]
end Go.Proofs.YtmhfioimgllgeaaGreatDoor
