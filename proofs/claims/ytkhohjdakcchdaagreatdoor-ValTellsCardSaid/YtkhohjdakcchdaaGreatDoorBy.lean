/- Merged: Shelf, Div64, Div10, Trim. -/
import Derived.Test.YtkhohjdakcchdaaGreatDoorProg
import Derived.Shelf.Strings.Builder1
import Derived.Shelf.Strings.Trim
import Derived.Shelf.Small.Utf8
import Derived.Shelf.Small.Bits
import Derived.Shelf.Small.Strs
import Derived.Shelf.Small.Wraps
import Derived.Shelf.Strings.BuilderF
import Derived.Shelf.Strings.BuilderK
import Derived.Shelf.Strconv.Itoa0
import Derived.Shelf.Strings.Search1
import Derived.Shelf.Strings.Search2
import Derived.Shelf.Strings.Cut
import Derived.Shelf.LaysM
import Derived.Shelf.Strings.Shaped
import Derived.Shelf.Strings.Prefix
import Derived.Shelf.Strings.AsciiSet
import Derived.Shelf.Bits.Mul64
import Derived.Test.YtkhohjdakcchdaaGreatDoorBb
import Derived.Laws.Bits64b
import Derived.Laws.BitsAllLaws
import Derived.Shelf.Strings.SlTrimAscii
namespace Go.Proofs
open Go.Shelf
def Tryz.lays169_ren :Go.Shelf.Ren:=⟨fun|169=>84|n=>n,fun|70=>102|9=>9|0=>0|72=>105|37=>103|127=>143|3=>3|5=>5|n=>n,fun|n=>n⟩
theorem Tryz.lays169 :Go.Proofs.Lays.n169 Tryz.prog Tryz.lays169_ren:= {
 mixed:=by kernel_rfl
 f169:=Tryz.func84.trans (congrArg some (by kernel_rfl))
 t0:=Tryz.underlying0
 a0:=Tryz.isAgg0
 z0:=Tryz.sizeOf0
 v0:=Tryz.zeroValue0
 t3:=Tryz.underlying3
 a3:=Tryz.isAgg3
 z3:=Tryz.sizeOf3
 v3:=Tryz.zeroValue3
 t9:=Tryz.underlying9
 a9:=Tryz.isAgg9
 z9:=Tryz.sizeOf9
 v9:=Tryz.zeroValue9
 t37:=Tryz.underlying103
 a37:=Tryz.isAgg103
 z37:=Tryz.sizeOf103
 v37:=Tryz.zeroValue103
 t70:=Tryz.underlying102
 a70:=Tryz.isAgg102
 z70:=Tryz.sizeOf102
 v70:=Tryz.zeroValue102
 t72:=Tryz.underlying105
 a72:=Tryz.isAgg105
 z72:=Tryz.sizeOf105
 v72:=Tryz.zeroValue105
 t127:=Tryz.underlying143
 a127:=Tryz.isAgg143
 z127:=Tryz.sizeOf143
 v127:=Tryz.zeroValue143}
theorem Tryz.Builder_Extra_169 :Builder.Extra Tryz.prog Tryz.lays169_ren:= {
 sizeBuilder:=by kernel_rfl
 liesBuilder:=by kernel_rfl
 t5:=Tryz.underlying5
 a5:=Tryz.isAgg5
 z5:=Tryz.sizeOf5
 v5:=Tryz.zeroValue5
 infoByte:=by kernel_rfl
 cellsByte:=by kernel_rfl
 sizeByte:=by kernel_rfl
 neB5:=by decide}
open Go.RowKit in
theorem Tryz.Builder_String_any (B b:Nat) (l:List UInt8) (w:World) (h:Lib.IsBuilder 105 5 B b (Lib.byteCells l) w) (hBw:B≤w.heap.size):
 Calls Tryz.prog 84 #[.pointer (some ⟨b,0,none⟩)] w fun e w'=>e= .returned (.string ⟨l.toArray⟩)∧Below B w w':=Any.Builder_String_any Tryz.lays169 Tryz.Builder_Extra_169 B b l w h hBw
def Tryz.lays134_ren :Go.Shelf.Ren:=⟨fun|134=>167|129=>179|n=>n,fun|53=>139|3=>3|4=>4|46=>159|5=>5|9=>9|n=>n,fun|n=>n⟩
theorem Tryz.lays134 :Go.Proofs.Lays.n134 Tryz.prog Tryz.lays134_ren:= {
 mixed:=by kernel_rfl
 f129:=Tryz.func179.trans (congrArg some (by kernel_rfl))
 f134:=Tryz.func167.trans (congrArg some (by kernel_rfl))
 t3:=Tryz.underlying3
 a3:=Tryz.isAgg3
 z3:=Tryz.sizeOf3
 v3:=Tryz.zeroValue3
 t4:=Tryz.underlying4
 a4:=Tryz.isAgg4
 z4:=Tryz.sizeOf4
 v4:=Tryz.zeroValue4
 t5:=Tryz.underlying5
 a5:=Tryz.isAgg5
 z5:=Tryz.sizeOf5
 v5:=Tryz.zeroValue5
 t9:=Tryz.underlying9
 a9:=Tryz.isAgg9
 z9:=Tryz.sizeOf9
 v9:=Tryz.zeroValue9
 t46:=Tryz.underlying159
 a46:=Tryz.isAgg159
 z46:=Tryz.sizeOf159
 v46:=Tryz.zeroValue159
 t53:=Tryz.underlying139
 a53:=Tryz.isAgg139
 z53:=Tryz.sizeOf139
 v53:=Tryz.zeroValue139}
theorem Tryz.bits_LeadingZeros64 (x:Int) (w:World) (h0:0≤x) (h1:x≤18446744073709551615):
 Calls Tryz.prog 167 #[.int .u64 x] w fun e w'=>e= .returned (.int .i64 (64-(Lib.bitLen x.toNat:Int)))∧w'=w:=Any.bits_LeadingZeros64 Tryz.lays134 x w h0 h1
def Tryz.lays103_ren :Go.Shelf.Ren:=⟨fun|103=>98|210=>132|206=>138|n=>n,fun|9=>9|4=>4|24=>119|3=>3|n=>n,fun|n=>n⟩
theorem Tryz.lays103 :Go.Proofs.Lays.n103 Tryz.prog Tryz.lays103_ren:= {
 mixed:=by kernel_rfl
 f103:=Tryz.func98.trans (congrArg some (by kernel_rfl))
 f206:=Tryz.func138.trans (congrArg some (by kernel_rfl))
 f210:=Tryz.func132.trans (congrArg some (by kernel_rfl))
 t3:=Tryz.underlying3
 a3:=Tryz.isAgg3
 z3:=Tryz.sizeOf3
 v3:=Tryz.zeroValue3
 t4:=Tryz.underlying4
 a4:=Tryz.isAgg4
 z4:=Tryz.sizeOf4
 v4:=Tryz.zeroValue4
 t9:=Tryz.underlying9
 a9:=Tryz.isAgg9
 z9:=Tryz.sizeOf9
 v9:=Tryz.zeroValue9
 t24:=Tryz.underlying119
 a24:=Tryz.isAgg119
 z24:=Tryz.sizeOf119
 v24:=Tryz.zeroValue119}
open Go.RowKit in
theorem Tryz.strings_CutPrefix (s p:ByteArray) (w:World):
 Calls Tryz.prog 98 #[.string s,.string p] w fun e w'=>e= .returned (.tuple #[.string ⟨(Lib.trimPrefix s.data.toList p.data.toList).toArray⟩,.bool (Lib.hasPrefix s.data.toList p.data.toList)])∧w'=w:=Any.strings_CutPrefix Tryz.lays103 s p w
def Tryz.lays145_ren :Go.Shelf.Ren:=⟨fun|145=>99|220=>133|219=>153|217=>168|225=>169|224=>170|267=>171|266=>180|314=>181|n=>n,fun|9=>9|4=>4|59=>121|3=>3|5=>5|46=>159|146=>188|51=>187|n=>n,fun|1=>2|n=>n⟩
theorem Tryz.lays145 :Go.Proofs.Lays.n145 Tryz.prog Tryz.lays145_ren:= {
 mixed:=by kernel_rfl
 f145:=Tryz.func99.trans (congrArg some (by kernel_rfl))
 f217:=Tryz.func168.trans (congrArg some (by kernel_rfl))
 f219:=Tryz.func153.trans (congrArg some (by kernel_rfl))
 f220:=Tryz.func133.trans (congrArg some (by kernel_rfl))
 f224:=Tryz.func170.trans (congrArg some (by kernel_rfl))
 f225:=Tryz.func169.trans (congrArg some (by kernel_rfl))
 f266:=Tryz.func180.trans (congrArg some (by kernel_rfl))
 f267:=Tryz.func171.trans (congrArg some (by kernel_rfl))
 f314:=Tryz.func181.trans (congrArg some (by kernel_rfl))
 t3:=Tryz.underlying3
 a3:=Tryz.isAgg3
 z3:=Tryz.sizeOf3
 v3:=Tryz.zeroValue3
 t4:=Tryz.underlying4
 a4:=Tryz.isAgg4
 z4:=Tryz.sizeOf4
 v4:=Tryz.zeroValue4
 t5:=Tryz.underlying5
 a5:=Tryz.isAgg5
 z5:=Tryz.sizeOf5
 v5:=Tryz.zeroValue5
 t9:=Tryz.underlying9
 a9:=Tryz.isAgg9
 z9:=Tryz.sizeOf9
 v9:=Tryz.zeroValue9
 t46:=Tryz.underlying159
 a46:=Tryz.isAgg159
 z46:=Tryz.sizeOf159
 v46:=Tryz.zeroValue159
 t51:=Tryz.underlying187
 a51:=Tryz.isAgg187
 z51:=Tryz.sizeOf187
 v51:=Tryz.zeroValue187
 t59:=Tryz.underlying121
 a59:=Tryz.isAgg121
 z59:=Tryz.sizeOf121
 v59:=Tryz.zeroValue121
 t146:=Tryz.underlying188
 a146:=Tryz.isAgg188
 z146:=Tryz.sizeOf188
 v146:=Tryz.zeroValue188
 g1:=by kernel_rfl}
open Go.RowKit Go.Lib in
theorem Tryz.strings_Cut (s sep:ByteArray) (m:Int) (w:World) (hs:s.size<4294967281) (hm:w.cell? ⟨2,0,none⟩=some (.int .i64 m)):
 Calls Tryz.prog 99 #[.string s,.string sep] w fun e w'=>e= .returned (.tuple #[.string ⟨(Lib.cut s.data.toList sep.data.toList).1.toArray⟩,.string ⟨(Lib.cut s.data.toList sep.data.toList).2.1.toArray⟩,.bool (Lib.cut s.data.toList sep.data.toList).2.2])∧∃n,w'=w.drewN n:=Any.strings_Cut Tryz.lays145 s sep m w hs hm
end Go.Proofs
namespace Go.Proofs.YtkhohjdakcchdaaGreatDoor
open Go.RowKit
theorem ret_two {k k':IntKind} {a b c d:Int} (h:a=c) (h':b=d):Ending.returned (.tuple #[.int k a,.int k' b])= .returned (.tuple #[.int k c,.int k' d]):=by rw[h,h']
theorem wrap_u64 (x:Int):IntKind.u64.wrap x=x%18446744073709551616:=rfl
set_option maxHeartbeats 400000 in
theorem div_0 (lo:Int) (w:World) (h0:0≤lo) (h1:lo≤18446744073709551615):
 Calls Tryz.prog 147 #[.int .u64 0,.int .u64 lo,.int .u64 10] w fun e w'=>e= .returned (.tuple #[.int .u64 (lo / 10),.int .u64 (lo%10)])∧∃n,w'=w.drewN n:=by
 go_enter Tryz.func147,Tryz.ntmps147
 go_wp2
 go_quiet (fail)
 go_wp2
 go_ret2
 exact⟨rfl,nq,rfl⟩
set_option maxHeartbeats 400000 in
theorem div_w (hi lo A V U:Int) (w:World) (_h0:0≤lo) (_h1:lo≤18446744073709551615) (g0:1≤hi) (g1:hi≤9)
 (a0:0≤A) (a1:A≤11529215046068469759) (v0:0≤V) (v1:V≤4294967295)
 (hor:bits BinOp.or IntKind.u64 (hi*1152921504606846976) (lo / 16)=A)
 (hV:IntKind.u64.wrap (lo*1152921504606846976) / 4294967296=V)
 (hz:bits BinOp.and IntKind.u64 (IntKind.u64.wrap (lo*1152921504606846976)) 4294967295=0)
 (u0:0≤U) (u1:U≤11529215046068469759)
 (hU:IntKind.u64.wrap (IntKind.u64.wrap (IntKind.u64.wrap (A*4294967296)+V)-IntKind.u64.wrap (A / 2684354560*11529215046068469760))=U)
 (hy:bits BinOp.and IntKind.u64 11529215046068469760 4294967295=0):
 Calls Tryz.prog 147 #[.int .u64 hi,.int .u64 lo,.int .u64 10] w fun e w'=>
  e= .returned (.tuple #[.int .u64 (A / 2684354560*4294967296+U / 2684354560),.int .u64 (IntKind.u64.wrap (IntKind.u64.wrap (IntKind.u64.wrap (U*4294967296))-IntKind.u64.wrap (U / 2684354560*11529215046068469760)) / 1152921504606846976)])∧w'=w:=by
 have c0:(hi==0)=false:=by simp;omega
 go_enter Tryz.func147,Tryz.ntmps147
 go_wp2_with fail
 refine(Tryz.bits_LeadingZeros64 10 _ (by omega) (by omega)).mono ?_
 rintro e w1 ⟨rfl,rfl⟩
 rw[show (64-(Lib.bitLen (10:Int).toNat:Int))=60 from by decide]
 go_wp2_with fail
 refine wp_loop_once ?_
 go_wp2_with fail
 refine wp_loop_once ?_
 go_wp2_with fail
 go_ret2
 exact⟨rfl,rfl⟩
end Go.Proofs.YtkhohjdakcchdaaGreatDoor
namespace Go.Proofs.YtkhohjdakcchdaaGreatDoor
open Go.RowKit
theorem or_hi_lo (hi lo:Nat) (g:hi≤9) (h:lo<18446744073709551616):bits BinOp.or IntKind.u64 ((hi:Int)*1152921504606846976) ((lo:Int) / 16)=(hi*1152921504606846976+lo / 16:Nat):=by
 have e1:((hi:Int)*1152921504606846976)=((hi*1152921504606846976:Nat):Int):=by simp
 have e2:((lo:Int) / 16)=((lo / 16:Nat):Int):=by simp
 rw[e1,e2,u64_or_nat _ _ (by omega) (by omega)]
 congr 1
 have:=Nat.two_pow_add_eq_or_of_lt (i:=60) (b:=lo / 16) (by omega) hi
 rw[show (2:Nat) ^ 60=1152921504606846976 from by decide]at this
 rw[Nat.mul_comm hi,this]
theorem and_low (x:Nat) (h:x<18446744073709551616) (h2:x%4294967296=0):bits BinOp.and IntKind.u64 (x:Int) 4294967295=0:=by
 have:=u64_and_nat x 4294967295 h (by omega)
 rw[show ((4294967295:Nat):Int)=4294967295 from rfl]at this
 rw[this]
 have e:=Nat.and_two_pow_sub_one_eq_mod x 32
 rw[show (2:Nat) ^ 32-1=4294967295 from by decide,show(2:Nat) ^ 32=4294967296 from by decide]at e
 rw[e,h2];rfl
theorem hU_eq0 (A V:Nat) (hv:V<4294967296):((((A:Int)*4294967296)%18446744073709551616+V)%18446744073709551616-((A:Int) / 2684354560*11529215046068469760)%18446744073709551616)%18446744073709551616=((A%2684354560*4294967296+V:Nat):Int):=by
 rw[Int.emod_add_emod,Int.emod_sub_emod,Int.sub_emod_emod]
 have e:(A:Int)*4294967296+V-(A:Int) / 2684354560*11529215046068469760=((A%2684354560*4294967296+V:Nat):Int):=by omega
 rw[e]
 have l:A%2684354560*4294967296+V<18446744073709551616:=by omega
 exact Int.emod_eq_of_lt (Int.natCast_nonneg _) (Int.ofNat_lt.2 l)
theorem q2_eq0 (U:Nat):((((U:Int)*4294967296)%18446744073709551616%18446744073709551616-((U:Int) / 2684354560*11529215046068469760)%18446744073709551616)%18446744073709551616 / 1152921504606846976)=((U%2684354560 / 268435456:Nat):Int):=by
 rw[Int.emod_emod,Int.emod_sub_emod,Int.sub_emod_emod]
 have e:(U:Int)*4294967296-(U:Int) / 2684354560*11529215046068469760=((U%2684354560*4294967296:Nat):Int):=by omega
 rw[e]
 have l:U%2684354560<2684354560:=Nat.mod_lt _ (by omega)
 have l2:U%2684354560*4294967296<18446744073709551616:=by omega
 have l3:((U%2684354560*4294967296:Nat):Int)%18446744073709551616=((U%2684354560*4294967296:Nat):Int):=Int.emod_eq_of_lt (Int.natCast_nonneg _) (Int.ofNat_lt.2 l2)
 rw[l3]
 generalize U%2684354560=R at l
 omega
theorem q1_q2' (N q1 r1 q0 r0:Nat) (m:Nat) (hA:N=(q1*2684354560+r1)*16+m) (hU:r1*4294967296+m*268435456=q0*2684354560+r0) (l:r0<2684354560):
 q1*4294967296+q0=N / 10∧r0 / 268435456=N%10:=by
 obtain⟨Q,hQ⟩:∃Q,Q=q1*4294967296+q0:=⟨_,rfl⟩
 have h:268435456*N=268435456*(10*Q)+r0:=by rw[hQ,hA];omega
 rw[←hQ]
 have hr:r0=268435456*(N-10*Q):=by rw[Nat.mul_sub,h,Nat.add_sub_cancel_left]
 have h2:10*Q≤N:=by
  rcases Nat.lt_or_ge N (10*Q)with h3|h3
  ·have:268435456*N<268435456*(10*Q):=Nat.mul_lt_mul_of_pos_left h3 (by decide)
   omega
  ·exact h3
 have ht:N-10*Q<10:=by
  rcases Nat.lt_or_ge (N-10*Q) 10 with h3|h3
  ·exact h3
  ·have:268435456*10≤268435456*(N-10*Q):=Nat.mul_le_mul_left _ h3
   omega
 rw[hr,Nat.mul_div_cancel_left _ (by decide)]
 clear hr h hA hU hQ
 omega
theorem q1_q2 (N A V U:Nat) (m:Nat) (hA:N=A*16+m) (hV:V=m*268435456) (hU:U=A%2684354560*4294967296+V):
 A / 2684354560*4294967296+U / 2684354560=N / 10∧U%2684354560 / 268435456=N%10:=by
 refine q1_q2' N (A / 2684354560) (A%2684354560) (U / 2684354560) (U%2684354560) m ?_ ?_ (Nat.mod_lt _ (by decide))
 ·rw[Nat.div_add_mod'];exact hA
 ·rw[Nat.div_add_mod',hU,hV]
theorem hU_eq (A V:Nat) (hv:V<4294967296):IntKind.u64.wrap (IntKind.u64.wrap (IntKind.u64.wrap ((A:Int)*4294967296)+V)-IntKind.u64.wrap ((A:Int) / 2684354560*11529215046068469760))=((A%2684354560*4294967296+V:Nat):Int):=by
 rw[wrap_u64,wrap_u64,wrap_u64,wrap_u64];exact hU_eq0 A V hv
theorem q2_eq (U:Nat):(IntKind.u64.wrap (IntKind.u64.wrap (IntKind.u64.wrap ((U:Int)*4294967296))-IntKind.u64.wrap ((U:Int) / 2684354560*11529215046068469760)) / 1152921504606846976)=((U%2684354560 / 268435456:Nat):Int):=by
 rw[wrap_u64,wrap_u64,wrap_u64,wrap_u64];exact q2_eq0 U
theorem wrap_lo (lo:Nat):IntKind.u64.wrap ((lo:Int)*1152921504606846976)=((lo%16*1152921504606846976:Nat):Int):=by rw[wrap_u64];omega
theorem wrap_lo_div (lo:Nat):IntKind.u64.wrap ((lo:Int)*1152921504606846976) / 4294967296=((lo%16*268435456:Nat):Int):=by rw[wrap_lo];omega
theorem wrap_lo_and (lo:Nat):bits BinOp.and IntKind.u64 (IntKind.u64.wrap ((lo:Int)*1152921504606846976)) 4294967295=0:=by
 rw[wrap_lo];exact and_low _ (by omega) (by omega)
theorem ten_and :bits BinOp.and IntKind.u64 11529215046068469760 4294967295=0:=and_low 11529215046068469760 (by decide) (by decide)
theorem A_lt (hi lo:Nat) (g:hi<10) (h:lo<18446744073709551616):hi*1152921504606846976+lo / 16≤11529215046068469759:=by omega
theorem U_lt (A V:Nat) (hV:V≤4294967295):A%2684354560*4294967296+V≤11529215046068469759:=by omega
theorem V_lt (lo:Nat):lo%16*268435456≤4294967295:=by omega
theorem N_eq (hi lo:Nat):hi*18446744073709551616+lo=(hi*1152921504606846976+lo / 16)*16+lo%16:=by omega
theorem cast_q (A U:Nat):(A:Int) / 2684354560*4294967296+(U:Int) / 2684354560=((A / 2684354560*4294967296+U / 2684354560:Nat):Int):=by omega
theorem div_n (hi lo:Nat) (w:World) (g0:1≤hi) (g:hi<10) (h:lo<18446744073709551616) (A V U:Nat) (hA:A=hi*1152921504606846976+lo / 16) (hV:V=lo%16*268435456) (hU:U=A%2684354560*4294967296+V):
 Calls Tryz.prog 147 #[.int .u64 hi,.int .u64 lo,.int .u64 10] w fun e w'=>
  e= .returned (.tuple #[.int .u64 ((A:Int) / 2684354560*4294967296+(U:Int) / 2684354560),.int .u64 (IntKind.u64.wrap (IntKind.u64.wrap (IntKind.u64.wrap ((U:Int)*4294967296))-IntKind.u64.wrap ((U:Int) / 2684354560*11529215046068469760)) / 1152921504606846976)])∧w'=w:=by
 have hv:V≤4294967295:=hV▸V_lt lo
 have ha:A≤11529215046068469759:=hA▸A_lt hi lo g h
 have hu:U≤11529215046068469759:=hU▸U_lt A V hv
 have ho:=or_hi_lo hi lo (Nat.le_of_lt_succ g) h
 rw[←hA]at ho
 have hd:=wrap_lo_div lo
 rw[←hV]at hd
 have hw:=hU_eq A V (Nat.lt_succ_of_le hv)
 rw[←hU]at hw
 exact div_w hi lo A V U w (Int.natCast_nonneg _) (Int.ofNat_le.2 (Nat.le_of_lt_succ h)) (Int.ofNat_le.2 g0) (Int.ofNat_le.2 (Nat.le_of_lt_succ g)) (Int.natCast_nonneg _) (Int.ofNat_le.2 ha) (Int.natCast_nonneg _) (Int.ofNat_le.2 hv)
  ho hd (wrap_lo_and lo) (Int.natCast_nonneg _) (Int.ofNat_le.2 hu) hw ten_and
/-- Div64 at 10, whatever the high word below 10. -/
theorem div10 (hi lo:Nat) (w:World) (g:hi<10) (h:lo<18446744073709551616):
 Calls Tryz.prog 147 #[.int .u64 hi,.int .u64 lo,.int .u64 10] w fun e w'=>e= .returned (.tuple #[.int .u64 ((hi*18446744073709551616+lo) / 10:Nat),.int .u64 ((hi*18446744073709551616+lo)%10:Nat)])∧∃n,w'=w.drewN n:=by
 by_cases h0:hi=0
 ·subst h0
  refine(div_0 lo w (Int.natCast_nonneg _) (Int.ofNat_le.2 (Nat.le_of_lt_succ h))).mono ?_
  rintro e w' ⟨rfl,hn⟩
  exact⟨ret_two (by rw[Nat.zero_mul,Nat.zero_add];rfl) (by rw[Nat.zero_mul,Nat.zero_add];rfl),hn⟩
 ·refine(div_n hi lo w (Nat.pos_of_ne_zero h0) g h _ _ _ rfl rfl rfl).mono ?_
  have hq:=q1_q2 (hi*18446744073709551616+lo) _ _ _ (lo%16) (N_eq hi lo) rfl rfl
  rintro e w' ⟨rfl,rfl⟩
  refine⟨ret_two ?_ ?_,0,rfl⟩
  ·rw[cast_q,hq.1]
  ·rw[q2_eq,hq.2]
end Go.Proofs.YtkhohjdakcchdaaGreatDoor
namespace Go.Proofs
open Go.Shelf
def Tryz.lays160_ren :Go.Shelf.Ren:=⟨fun|160=>134|232=>155|231=>154|227=>156|234=>158|233=>157|236=>160|235=>159|228=>172|271=>174|151=>173|197=>164|120=>183|152=>182|260=>177|137=>184|119=>185|224=>170|225=>169|217=>168|266=>180|n=>n,fun|9=>9|4=>4|3=>3|5=>5|117=>174|116=>173|0=>0|124=>177|21=>21|105=>180|46=>159|119=>155|139=>158|138=>157|n=>n,fun|3=>0|4=>1|n=>n⟩
theorem Tryz.lays160 :Go.Proofs.Lays.n160 Tryz.prog Tryz.lays160_ren:= {
 mixed:=by kernel_rfl
 f119:=Tryz.func185.trans (congrArg some (by kernel_rfl))
 f120:=Tryz.func183.trans (congrArg some (by kernel_rfl))
 f137:=Tryz.func184.trans (congrArg some (by kernel_rfl))
 f151:=Tryz.func173.trans (congrArg some (by kernel_rfl))
 f152:=Tryz.func182.trans (congrArg some (by kernel_rfl))
 f160:=Tryz.func134.trans (congrArg some (by kernel_rfl))
 f197:=Tryz.func164.trans (congrArg some (by kernel_rfl))
 f217:=Tryz.func168.trans (congrArg some (by kernel_rfl))
 f224:=Tryz.func170.trans (congrArg some (by kernel_rfl))
 f225:=Tryz.func169.trans (congrArg some (by kernel_rfl))
 f227:=Tryz.func156.trans (congrArg some (by kernel_rfl))
 f228:=Tryz.func172.trans (congrArg some (by kernel_rfl))
 f231:=Tryz.func154.trans (congrArg some (by kernel_rfl))
 f232:=Tryz.func155.trans (congrArg some (by kernel_rfl))
 f233:=Tryz.func157.trans (congrArg some (by kernel_rfl))
 f234:=Tryz.func158.trans (congrArg some (by kernel_rfl))
 f235:=Tryz.func159.trans (congrArg some (by kernel_rfl))
 f236:=Tryz.func160.trans (congrArg some (by kernel_rfl))
 f260:=Tryz.func177.trans (congrArg some (by kernel_rfl))
 f266:=Tryz.func180.trans (congrArg some (by kernel_rfl))
 f271:=Tryz.func174.trans (congrArg some (by kernel_rfl))
 t0:=Tryz.underlying0
 a0:=Tryz.isAgg0
 z0:=Tryz.sizeOf0
 v0:=Tryz.zeroValue0
 t3:=Tryz.underlying3
 a3:=Tryz.isAgg3
 z3:=Tryz.sizeOf3
 v3:=Tryz.zeroValue3
 t4:=Tryz.underlying4
 a4:=Tryz.isAgg4
 z4:=Tryz.sizeOf4
 v4:=Tryz.zeroValue4
 t5:=Tryz.underlying5
 a5:=Tryz.isAgg5
 z5:=Tryz.sizeOf5
 v5:=Tryz.zeroValue5
 t9:=Tryz.underlying9
 a9:=Tryz.isAgg9
 z9:=Tryz.sizeOf9
 v9:=Tryz.zeroValue9
 t21:=Tryz.underlying21
 a21:=Tryz.isAgg21
 z21:=Tryz.sizeOf21
 v21:=Tryz.zeroValue21
 t46:=Tryz.underlying159
 a46:=Tryz.isAgg159
 z46:=Tryz.sizeOf159
 v46:=Tryz.zeroValue159
 t105:=Tryz.underlying180
 a105:=Tryz.isAgg180
 z105:=Tryz.sizeOf180
 v105:=Tryz.zeroValue180
 t116:=Tryz.underlying173
 a116:=Tryz.isAgg173
 z116:=Tryz.sizeOf173
 t117:=Tryz.underlying174
 a117:=Tryz.isAgg174
 z117:=Tryz.sizeOf174
 v117:=Tryz.zeroValue174
 t119:=Tryz.underlying155
 a119:=Tryz.isAgg155
 z119:=Tryz.sizeOf155
 t124:=Tryz.underlying177
 a124:=Tryz.isAgg177
 z124:=Tryz.sizeOf177
 v124:=Tryz.zeroValue177
 t138:=Tryz.underlying157
 a138:=Tryz.isAgg157
 z138:=Tryz.sizeOf157
 v138:=Tryz.zeroValue157
 t139:=Tryz.underlying158
 a139:=Tryz.isAgg158
 z139:=Tryz.sizeOf158
 v139:=Tryz.zeroValue158
 g3:=by kernel_rfl
 g4:=by kernel_rfl}
end Go.Proofs
