/- Merged: Of, Lay, Rest. -/
import Derived.Test.YtmhfioimgllgeaaGreatDoorR02
import Derived.Test.YtmhfioimgllgeaaGreatDoorR04
import Derived.Test.YtmhfioimgllgeaaGreatDoorR05
import Derived.StillTailTactics
import Derived.Lib.Hide
namespace Go.Proofs.YtmhfioimgllgeaaGreatDoor
open Go.RowKit
theorem div10i (hi lo:Int) (w:World) (g0:0≤hi) (g:hi≤9) (h0:0≤lo) (h:lo≤18446744073709551615):
 Calls Tryz.prog 112 #[.int .u64 hi,.int .u64 lo,.int .u64 10] w fun e w'=>e= .returned (.tuple #[.int .u64 ((hi*18446744073709551616+lo) / 10),.int .u64 ((hi*18446744073709551616+lo)%10)])∧∃n,w'=w.drewN n:=by
 obtain⟨a,rfl⟩:=Int.eq_ofNat_of_zero_le g0
 obtain⟨b,rfl⟩:=Int.eq_ofNat_of_zero_le h0
 refine(div10 a b w (by omega) (by omega)).mono ?_
 rintro e w' ⟨rfl,hn⟩
 exact⟨ret_two (by rw[Int.natCast_ediv,Int.natCast_add,Int.natCast_mul];rfl) (by rw[Int.natCast_emod,Int.natCast_add,Int.natCast_mul];rfl),hn⟩
/-- What of leaves. -/
def OfPost (s:Bool) (D:Nat) (w:World) (e:Ending) (w':World):Prop:=e= .returned (.agg (numF s (dg D) false))∧Below w.heap.size w w'
set_option maxHeartbeats 1000000 in
theorem of_any (s:Bool) (hi lo e:Int) (V p:Nat) (w:World) (h0:0≤hi) (l0:0≤lo) (h1:hi≤18446744073709551615) (l1:lo≤18446744073709551615) (hV:Hid (hi*18446744073709551616+lo=(V:Int))) (hp:(p:Int)=48+e) (hb:Hid (V*10 ^ p<10 ^ 96)) (hp96:p≤96):
 Calls Tryz.prog 77 #[.bool s,.int .u64 hi,.int .u64 lo,.int .i64 e] w (OfPost s (V*10 ^ p) w):=by
 have hwr:wrap64 (48+e)=(p:Int):=by rw[←hp];exact IntWalk.wrap64_in _ ⟨by omega,by omega⟩
 clear hp
 go_enter Tryz.func77,Tryz.ntmps77
 go_wp2_with (first|refine wpList_alloc56 rfl rfl ?_|refine wpList_build56 rfl rfl rfl ?_|(refine wpList_store56 rfl rfl rfl rfl (World.num_new _ _ _ _) ?_;intro w1 hn1 hg1 hz1))
 have hn0:World.num w1 w.heap.size false z96 false:=World.num.grown (World.num.alloc (World.num_new w _ _ _) _) hg1 (by simp)
 have hB:Below w.heap.size w w1:=(((Below.refl _ w).alloc (Nat.le_refl _) _).alloc (by simp) _).grown hg1 (by simp;omega) (fun k hk=>by cases hk;simp)
 rw[World.size_alloc]at hn1
 have hz2:w.heap.size+1<w1.heap.size:=by rw[hz1];simp
 clear hg1 hz1
 go_loopw [1,2,10] (fun hi lo k wr=>∃(H L:Int) (K:Nat),hi= .int .u64 H∧lo= .int .u64 L∧k= .int .i64 K∧p≤K∧K≤96∧0≤H∧0≤L∧H≤18446744073709551615∧L≤18446744073709551615∧Hid (H*18446744073709551616+L=(V / 10 ^ (K-p):Nat))∧
  World.num wr (w.heap.size+1) s (lowTo (V*10 ^ p) K) false∧World.num wr w.heap.size false z96 false∧Below w.heap.size w wr) (fun _ _ k _=>96-(intOf k).toNat)
 case atStart=>
  refine⟨hi,lo,p,rfl,rfl,by rw[hwr],Nat.le_refl _,hp96,h0,l0,h1,l1,?_,?_,hn0,hB⟩
  ·show _=_;rw[Nat.sub_self,Nat.pow_zero,Nat.div_one];exact hV.out
  ·exact World.num.congr hn1 (fun k _=>(lowTo_start V p k).symm)
 case round=>
  obtain⟨H,L,K,rfl,rfl,rfl,k0,k1,a0,b0,a1,b1,hN,hx,hr,hBr⟩:=hrel
  clear hn0 hn1 hB hz2 hwr
  by_cases c:H=0∧L=0
  ·obtain⟨rfl,rfl⟩:=c
   go_wp2_with (first|(refine wpList_load56 rfl rfl rfl hx ?_)|(refine wpList_store56 rfl rfl rfl rfl hr ?_;intro w2 hn2 hg2 hz2))
   refine bodyPost_ret (results_cell_row rfl _ _ _ 105 _ (0,0) _ rfl hn2 Tryz.underlying105 rfl (info56' _ _ _)) rfl ?_
   refine⟨?_,hBr.grown hg2 hBr.size (fun k hk=>by cases hk;exact Nat.le_refl _)⟩
   have h:=hN.out
   rw[numF_congr (fun i _=>lowTo_end k0 (by omega) i)]
  ·have hlt:K<96:=lt_of_rest k0 hb.out (by have:=hN.out;omega)
   obtain⟨hc,hf⟩:=World.num.at hx K hlt
   have hne:(H != 0)=true∨(H != 0)=false∧(L != 0)=true:=by
    by_cases e:H=0
    ·right;subst e;exact⟨rfl,by simpa using c⟩
    ·left;simpa using e
   clear c
   have HX:Hid (H / 10*18446744073709551616+(H%10*18446744073709551616+L) / 10=((V / 10 ^ (K+1-p):Nat):Int))∧Hid ((H%10*18446744073709551616+L)%10=dg (V*10 ^ p) K)∧
    0≤(H%10*18446744073709551616+L) / 10∧(H%10*18446744073709551616+L) / 10≤18446744073709551615:=by
    obtain⟨s1,s2,s3,s4⟩:=step10 H L _ hN.out a0 b0 b1
    refine⟨?_,?_,s3,s4⟩
    ·show _=_;rw[s1,div_succ _ _ _ k0];omega
    ·show _=_;rw[s2,dg_shift _ _ _ k0];omega
   obtain⟨X1,X2,X3,X4⟩:=HX
   rcases hne with hne|⟨hne,hne2⟩
   all_goals
    go_wp2_with fail
    refine(div10i _ _ _ ?_ ?_ ?_ ?_).mono ?_
    ·omega
    ·omega
    ·omega
    ·omega
    rintro e w3 ⟨rfl,n3,rfl⟩
    go_wp2
    go_roundw
    case rel=>
     refine⟨_,_,K+1,rfl,rfl,by go_num,by omega,by omega,by omega,X3,by omega,X4,X1,?_,World.num.drewN (World.num.other hr (by simp) _) _,below_drewN (hBr.setCell (by simp) _) _⟩
     refine World.num.drewN (World.num.congr (World.num.set hx hlt _) (fun i _=> ?_)) _
     rw[X2.out];exact lowTo_succ _ _ _
    case measure=>simp[intOf];omega
end Go.Proofs.YtmhfioimgllgeaaGreatDoor
namespace Go.Proofs.YtmhfioimgllgeaaGreatDoor
open Go.RowKit
set_option maxHeartbeats 400000 in
theorem abs_any (n:Int) (w:World) (h0: -9223372036854775808≤n) (h1:n≤9223372036854775807):
 Calls Tryz.prog 76 #[.int .i64 n] w fun e w'=>e= .returned (.int .u64 (n.natAbs:Int))∧w'=w:=by
 by_cases h:n<0
 ·go_enter Tryz.func76,Tryz.ntmps76
  go_wp2
  go_ret
  refine⟨ret_int ?_,rfl⟩
  rw[wrap_u64,wrap_u64];omega
 ·go_enter Tryz.func76,Tryz.ntmps76
  go_wp2
  go_ret
  refine⟨ret_int ?_,rfl⟩
  first|(rw[wrap_u64];omega)|omega
theorem lay_lt {V p a b:Nat} (hV:V<10 ^ a) (hp:p≤b) (hab:a+b≤96):V*10 ^ p<10 ^ 96:=by
 calc V*10 ^ p<10 ^ a*10 ^ p:=Nat.mul_lt_mul_of_pos_right hV (pow10_pos p)
  _=10 ^ (a+p):=by rw[Nat.pow_add]
  _≤10 ^ 96:=Nat.pow_le_pow_right (by decide) (by omega)
/-- The digits of a decimal: those of ten to i stand at 48 + i. -/
def layD (M E:Int):Nat:=M.natAbs*10 ^ (48+E).toNat
set_option maxHeartbeats 1000000 in
set_option maxRecDepth 100000 in
theorem lay_any (M E:Int) (w:World) (h0: -999999999999999≤M) (h1:M≤999999999999999) (e0: -9≤E) (e1:E≤9):
 Calls Tryz.prog 59 #[.agg #[.int .i64 M,.int .i64 E]] w (OfPost (decide (M<0)) (layD M E) w):=by
 go_enter Tryz.func59,Tryz.ntmps59
 go_wp2_with (first|refine wpList_alloc56 rfl rfl ?_)
 obtain⟨W,hW⟩:∃W,W=(w.alloc (.cells #[.int .i64 M,.int .i64 E] 34)).alloc (.cells (numF false z96 false) 105):=⟨_,rfl⟩
 rw[←hW]
 have hc0:W.cell? ⟨w.heap.size,0,none⟩=some (.int .i64 M):=by rw[hW];go_simp
 have hc1:W.cell? ⟨w.heap.size,1,none⟩=some (.int .i64 E):=by rw[hW];go_simp
 have hn:World.num W (w.heap.size+1) false z96 false:=by rw[hW];exact World.num_new' _ _ _ _ _ (by simp)
 have hB:Below w.heap.size w W:=by rw[hW];exact((Below.refl _ w).alloc (Nat.le_refl _) _).alloc (by simp) _
 have hz:w.heap.size+1<W.heap.size:=by rw[hW];simp
 clear hW
 refine wp_region_still_tail 8 (by kernel_rfl) (by kernel_rfl) ?_
 change wpStill _ _ W.drew _ _ _
 simp only[List.take_succ_cons,List.take_zero,List.drop_succ_cons,List.drop_zero]
 iterate 5 still_step
 still_call (abs_any _ _ (by omega) (by omega))
 iterate 2 still_step
 refine wpStill_nil ?_
 change wpList _ _ _ _ _ W.drew
 have hb:Hid (M.natAbs*10 ^ (48+E).toNat<10 ^ 96):=lay_lt (a:=15) (b:=57) (by rw[show (10:Nat) ^ 15=1000000000000000 from by decide];omega) (by omega) (by decide)
 have hp:(((48+E).toNat:Nat):Int)=48+E:=by omega
 have Hp:=Lib.hid hp
 clear hp
 go_wp2_with (first
  |(go_at_call 77;go_must (refine(of_any _ _ _ _ M.natAbs (48+E).toNat _ ?_ ?_ ?_ ?_ ?_ Hp.out hb ?_).mono ?_;(first|omega|skip);(first|omega|skip);(first|omega|skip);(first|omega|skip);(show _=_;omega);(omega);rintro e w1 ⟨rfl,hB1⟩;have hn1:=World.num.below (World.num.drew hn) hB1 (by simp;exact hz)))
  |(refine wpList_store56 rfl rfl rfl rfl hn1 ?_;intro w2 hn2 hg2 hz2))
 refine bodyPost_ret (results_cell_row rfl _ _ _ 105 _ (0,0) _ rfl hn2 Tryz.underlying105 rfl (info56' _ _ _)) rfl ?_
 refine⟨rfl,?_⟩
 have hBd:Below w.heap.size W.drew w1:=hB1.mono (by simp;omega)
 exact(hB.drew.trans hBd).grown hg2 (by have:=hBd.size;simp at this;omega) (fun k hk=>by cases hk;omega)
end Go.Proofs.YtmhfioimgllgeaaGreatDoor
namespace Go.Proofs.YtmhfioimgllgeaaGreatDoor
open Go.RowKit
set_option maxHeartbeats 1000000 in
theorem top_any (b:Nat) (s:Bool) (f:Nat→Int) (m:Bool) (t:Int) (w:World) (hx:World.num w b s f m) (t0: -1≤t) (t1:t≤95) (hhi:∀k:Nat,k<96→t<(k:Int)→f k=0) (hat:∀k:Nat,(k:Int)=t→f k≠0):
 Calls Tryz.prog 62 #[.pointer (some ⟨b,0,none⟩)] w fun e w'=>e= .returned (.int .i64 t)∧w'=w:=by
 have hhi:=Lib.hid hhi
 have hat:=Lib.hid hat
 go_enter Tryz.func62,Tryz.ntmps62
 go_wp2
 go_loop [3] (fun k=>∃K:Int,k= .int .i64 K∧t≤K∧K≤95) (fun k=>(intOf k+1).toNat)
 case atStart=>exact⟨95,rfl,t1,by omega⟩
 case round=>
  obtain⟨K,rfl,k0,k1⟩:=hrel
  by_cases h:K<0
  ·have:t= -1:=by omega
   subst this
   have:K= -1:=by omega
   subst this
   go_wp2
   go_ret
   exact⟨rfl,rfl⟩
  ·obtain⟨k,rfl⟩:=Int.eq_ofNat_of_zero_le (by omega:0≤K)
   obtain⟨hc,hf⟩:=World.num.at hx k (by omega)
   by_cases e:(k:Int)=t
   ·have hne:(f k != 0)=true:=by simpa using hat.out k e
    subst e
    go_wp2
    go_ret
    exact⟨rfl,rfl⟩
   ·have hne:(f k != 0)=false:=by simpa using hhi.out k (by omega) (by omega)
    have e2:t<(k:Int):=by omega
    clear e
    go_wp2
    go_round
    case rel=>exact⟨(k:Int)-1,rfl,by omega,by omega⟩
    case measure=>first|(simp[intOf];done)|(simp[intOf];omega)
set_option maxHeartbeats 1000000 in
theorem rest_any (b:Nat) (s:Bool) (f:Nat→Int) (m:Bool) (k:Nat) (w:World) (hx:World.num w b s f m) (k0:1≤k) (k1:k≤96):
 Calls Tryz.prog 61 #[.pointer (some ⟨b,0,none⟩),.int .i64 k] w fun e w'=>e= .returned (.int .i64 (restF (f (k-1)) (m||lowB f (k-1))))∧w'=w:=by
 have hm:=hx.more
 have hc0:=(World.num.at hx (k-1) (by omega)).1
 rw[show 1+(k-1)=k by omega]at hc0
 have hmax:∀x y:Int,(if x<y then y else x)=max x y:=fun x y=>by rw[Int.max_def];split<;>split<;>omega
 go_enter Tryz.func61,Tryz.ntmps61
 go_wp2
 clear hmax
 go_loop [5,15] (fun more i=>∃(M:Bool) (K:Nat),more= .bool M∧i= .int .i64 K∧K≤k-1∧Hid (M=(m||lowB f K))) (fun _ i=>k-(intOf i).toNat)
 case atStart=>exact⟨m,0,rfl,rfl,by omega,by show _=_;simp[lowB]⟩
 case round=>
  obtain⟨M,K,rfl,rfl,j0,HM⟩:=hrel
  by_cases h:K<k-1
  ·obtain⟨hc,hf⟩:=World.num.at hx K (by omega)
   have hs:Hid ((M||f K != 0)=(m||lowB f (K+1))):=by show _=_;rw[HM.out,lowB_succ,Bool.or_assoc]
   cases M
   ·go_wp2
    go_round
    case rel=>exact⟨_,K+1,rfl,by go_num,by omega,by show _=_;rw[←hs.out];rfl⟩
    case measure=>first|(simp[intOf];done)|(simp[intOf];omega)
   ·go_wp2
    go_round
    case rel=>exact⟨_,K+1,rfl,by go_num,by omega,by show _=_;rw[←hs.out];rfl⟩
    case measure=>first|(simp[intOf];done)|(simp[intOf];omega)
  ·obtain rfl:K=k-1:=by omega
   clear h
   cases M
   ·go_wp2
    all_goals
     go_ret
     refine⟨ret_int ?_,rfl⟩
     rw[←HM.out,restF_f]
     (repeat' split)<;>omega
   ·go_wp2
    all_goals
     go_ret
     refine⟨ret_int ?_,rfl⟩
     rw[←HM.out,restF_t]
     (repeat' split)<;>omega
end Go.Proofs.YtmhfioimgllgeaaGreatDoor
