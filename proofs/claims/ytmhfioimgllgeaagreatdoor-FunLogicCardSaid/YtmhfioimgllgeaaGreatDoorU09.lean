/- Merged: Right, Add, Mul, Div1. -/
import Derived.Test.YtmhfioimgllgeaaGreatDoorU07
import Derived.Test.YtmhfioimgllgeaaGreatDoorU05
import Derived.Shelf.Abstract
import Derived.Deep.RegionHeld3
import Derived.Deep.DeepCutAuto
import Derived.RegionTactic
import Derived.ChangeAlike
namespace Go.Proofs.YtmhfioimgllgeaaGreatDoor
open Go.RowKit
def rightB (M E:Int):Bool:=decide (-999999999999999≤M∧M≤999999999999999∧ -9≤E∧E≤9∧(M=0∧E=0∨M≠0∧(M%10≠0∨E=9)))
theorem rightB_iff {M E:Int}:rightB M E=true↔(-999999999999999≤M∧M≤999999999999999∧ -9≤E∧E≤9∧(M=0∧E=0∨M≠0∧(M%10≠0∨E=9))):=by simp[rightB]
set_option maxHeartbeats 1000000 in
theorem right_any (M E:Int) (w:World) (h0: -9223372036854775808≤M) (h1:M≤9223372036854775807):
 Calls Tryz.prog 58 #[.agg #[.int .i64 M,.int .i64 E]] w fun e w'=>e= .returned (.bool (rightB M E))∧Below w.heap.size w w':=by
 have HT:=Lib.hid (show M.tmod 10=0↔M%10=0 from by rw[←Int.dvd_iff_tmod_eq_zero,Int.dvd_iff_emod_eq_zero])
 go_enter Tryz.func58,Tryz.ntmps58
 go_wp2_with (go_at_call 76;refine(abs_any _ _ (by omega) (by omega)).mono ?_;rintro e w' ⟨rfl,rfl⟩)
 all_goals
  go_ret
  refine⟨ret_bool ?_,(Below.refl _ _).alloc (Nat.le_refl _) _⟩
  have ht:=HT.out
  rw[Bool.eq_iff_iff,rightB_iff]
  (try simp only[beq_iff_eq,bne_iff_ne,ne_eq,Bool.and_eq_true,Bool.false_eq_true,false_iff,true_iff])
  omega
set_option maxHeartbeats 1000000 in
theorem greater_any (b b':Nat) (s s':Bool) (f g:Nat→Int) (m m':Bool) (w:World) (hx:World.num w b s f m) (hy:World.num w b' s' g m'):
 Calls Tryz.prog 82 #[.pointer (some ⟨b,0,none⟩),.pointer (some ⟨b',0,none⟩)] w fun e w'=>e= .returned (.bool (gtF f g 96))∧∃n,w'=w.drewN n:=by
 go_enter Tryz.func82,Tryz.ntmps82
 go_wp2
 go_loopw [5] (fun k wr=>∃K:Nat,k= .int .i64 ((K:Int)-1)∧K≤96∧Hid (gtF f g K=gtF f g 96)∧∃n,wr=w.drewN n) (fun k _=>(intOf k+1).toNat)
 case atStart=>exact⟨96,rfl,by omega,rfl,0,rfl⟩
 case round=>
  obtain⟨K,rfl,j0,HK,n0,rfl⟩:=hrel
  cases K with
  |zero=>
   go_wp2
   go_ret
   exact⟨ret_bool HK.out,n0,rfl⟩
  |succ k=>
   rw[show ((k+1:Nat):Int)-1=(k:Int) by omega]
   have hc:=(World.num.at hx k (by omega)).1
   have hd:=(World.num.at hy k (by omega)).1
   have hkI:(k:Int)<96:=by omega
   by_cases h:f k=g k
   ·have hb:(f k != g k)=false:=by simp[h]
    have HE:Hid (gtF f g k=gtF f g 96):=by show _=_;rw[←HK.out,gtF,if_pos h]
    clear h
    go_wp2_with fail
    go_quiet (fail)
    go_wp2_with fail
    go_roundw
    case rel=>exact⟨k,rfl,by omega,HE,_,rfl⟩
    case measure=>first|(simp[intOf];done)|(simp[intOf];omega)
   ·have hb:(f k != g k)=true:=by simpa using h
    have HE:Hid (decide (g k<f k)=gtF f g 96):=by show _=_;rw[←HK.out,gtF,if_neg h]
    clear h
    go_wp2_with fail
    go_quiet (fail)
    go_wp2_with fail
    go_quiet (fail)
    go_wp2_with fail
    go_ret
    refine⟨ret_bool HE.out,?_⟩
    simp only[World.drewN_drewN]
    exact⟨_,rfl⟩
end Go.Proofs.YtmhfioimgllgeaaGreatDoor
namespace Go.Proofs.YtmhfioimgllgeaaGreatDoor
open Go.RowKit Go.Shelf
theorem layD_lt {M E:Int} (h:rightB M E=true):layD M E<10 ^ 72:=by
 obtain⟨r1,r2,r3,r4,_⟩:=rightB_iff.1 h
 unfold layD
 calc M.natAbs*10 ^ (48+E).toNat<10 ^ 15*10 ^ (48+E).toNat:=Nat.mul_lt_mul_of_pos_right (by rw[show (10:Nat) ^ 15=1000000000000000 from by decide];omega) (pow10_pos _)
  _≤10 ^ 15*10 ^ 57:=Nat.mul_le_mul_left _ (Nat.pow_le_pow_right (by decide) (by omega))
  _=10 ^ 72:=by rw[←Nat.pow_add]
end Go.Proofs.YtmhfioimgllgeaaGreatDoor
namespace Go.Proofs.YtmhfioimgllgeaaGreatDoor
open Go.RowKit Go.Shelf
def mulS (M M':Int):Bool:=decide (M<0) != decide (M'<0)
end Go.Proofs.YtmhfioimgllgeaaGreatDoor
namespace Go.Proofs.YtmhfioimgllgeaaGreatDoor
open Go.RowKit Go.Shelf
def quoD (A B p:Nat):Nat:=A*10 ^ p / B
end Go.Proofs.YtmhfioimgllgeaaGreatDoor
