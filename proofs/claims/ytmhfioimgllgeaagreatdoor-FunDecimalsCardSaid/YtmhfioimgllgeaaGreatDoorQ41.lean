/- Merged: YRound, YFloor. -/
import Derived.Test.YtmhfioimgllgeaaGreatDoorQ01
import Derived.Test.YtmhfioimgllgeaaGreatDoorQ23
import Derived.Test.YtmhfioimgllgeaaGreatDoorQ17
import Derived.Test.YtmhfioimgllgeaaGreatDoorQ08
import Derived.Test.YtmhfioimgllgeaaGreatDoorQ40
namespace Go.Proofs.YtmhfioimgllgeaaGreatDoor
open Go.RowKit
/-- A number cut at a place, one more of that place if so told. -/
def cutN (D:Nat) (k:Nat) (up:Bool):Nat:=(D / 10 ^ k+(if up=true then 1 else 0))*10 ^ k
theorem cutN_le {D k:Nat} {up:Bool}:cutN D k up≤D+10 ^ k:=by
 unfold cutN
 have:=Nat.div_mul_le_self D (10 ^ k)
 rw[Nat.add_mul]
 have h0:=pow10_pos k
 split<;>(try rw[Nat.one_mul])<;>(try rw[Nat.zero_mul])<;>omega
theorem cutN_lt {D k:Nat} {up:Bool} (hk:k≤57) (hD:D<10 ^ 72):cutN D k up+10 ^ 57<10 ^ 96:=by
 have h1:= @cutN_le D k up
 have h2:10 ^ k≤10 ^ 57:=Nat.pow_le_pow_right (by decide) hk
 have h3:(10:Nat) ^ 72+10 ^ 57+10 ^ 57<10 ^ 96:=by decide
 omega
theorem cut_b (b:Nat) (s m:Bool) (D:Nat) (k:Int) (up:Bool) (w:World) (hx:World.num w b s (dg D) m) (k0:1≤k) (k1:k≤57) (hD:Hid (D<10 ^ 72)):
 Calls Tryz.prog 60 #[.pointer (some ⟨b,0,none⟩),.int .i64 k,.bool up] w (CutPost b s (cutN D k.toNat up) w):=by
 obtain⟨n,rfl⟩:=Int.eq_ofNat_of_zero_le (by omega:0≤k)
 have hq:=cutN_lt (up:=up) (show n≤57 by omega) hD.out
 rw[Int.toNat_natCast]at*
 unfold cutN at hq⊢
 cases up
 ·exact cut_f b s m D n w hx (by omega) (by omega)
 ·exact cut_t b s m D n w hx (by omega) (by omega) (by show _<_;simp at hq;omega)
set_option maxRecDepth 100000 in
set_option maxHeartbeats 2000000 in
theorem round_ok (M E n:Int) (w:World) (h0: -9223372036854775808≤M) (h1:M≤9223372036854775807) (hr:rightB M E=true) (n0: -9≤n) (n1:n≤9):
 Calls Tryz.prog 33 #[.agg #[.int .i64 M,.int .i64 E],.int .i64 n] w
  (DecPost (near (decide (M<0)) (cutN (layD M E) (48-n).toNat (decide (0≤restD (layD M E) false (48-n).toNat))) false) w):=by
 go_enter Tryz.func33,Tryz.ntmps33
 go_wp2_with fail
 obtain⟨W,hW⟩:∃W,W=(w.alloc (.cells #[.int .i64 M,.int .i64 E] 34)).alloc (.cells #[.int .i64 0,.int .i64 0] 34):=⟨_,rfl⟩
 rw[←hW]
 have d0:World.dec W w.heap.size M E:=by rw[hW];exact(World.dec_new w M E _ rfl).alloc _
 have d2:World.dec W (w.heap.size+1) 0 0:=by rw[hW];exact World.dec_new _ 0 0 _ (by simp)
 have hB:Below w.heap.size w W:=by rw[hW];exact((Below.refl _ w).alloc (Nat.le_refl _) _).alloc (by simp) _
 clear hW
 refine(right_any M E _ h0 h1).mono ?_
 rintro e w1 ⟨rfl,hB1⟩
 have d0:=d0.below hB1 d0.lt
 have d2:=d2.below hB1 d2.lt
 have hB:=hB.trans (hB1.mono hB.size)
 clear hB1
 have a0:=d0.c0
 have a1:=d0.c1
 obtain⟨r1,r2,r3,r4,_⟩:=rightB_iff.1 hr
 have hD:=Lib.hid (layD_lt hr)
 go_wp2_with fail
 refine(lay_any M E _ r1 r2 r3 r4).mono ?_
 rintro e w2 ⟨rfl,hB1⟩
 have d2:=d2.below hB1 d2.lt
 have hB:=hB.trans (hB1.mono hB.size)
 clear hB1 a0 a1 d0
 go_wp2_with (first
  |refine wpList_alloc56 rfl rfl ?_
  |(refine wpList_store56 rfl rfl rfl rfl (World.num_new _ _ _ _) ?_;intro w3 hn3 hg3 hz3))
 have hs:=d2.lt
 have d3:World.dec w3 (w.heap.size+1) 0 0:=World.dec.below (d2.alloc _) (Below.grown (Below.refl w2.heap.size _) hg3 (by simp) (fun k hk=>by cases hk;exact Nat.le_refl _)) (by omega)
 have hB3:Below w.heap.size w w3:=(hB.alloc hB.size _).grown hg3 (by have:=hB.size;simp;omega) (fun k hk=>by cases hk;exact hB.size)
 have hbs:=hB.size
 clear hg3 hz3 d2
 refine(rest_i _ _ _ _ _ _ hn3 (by omega) (by omega)).mono ?_
 rintro e w4 ⟨rfl,rfl⟩
 obtain⟨r,hr'⟩:∃r:Int,r=restD (layD M E) false (48-n).toNat:=⟨_,rfl⟩
 rw[←hr']
 have Hr:=Lib.hid hr'
 clear hr'
 go_wp2_with fail
 refine(cut_b _ _ _ _ _ _ _ hn3 (by omega) (by omega) hD).mono ?_
 rintro e w5 ⟨rfl,hn5,hg5⟩
 have d5:World.dec w5 (w.heap.size+1) 0 0:=World.dec.grown d3 hg5 (by simp;omega)
 have hB5:Below w.heap.size w w5:=hB3.grown hg5 hB3.size (fun k hk=>by cases hk;exact hbs)
 clear hg5 hn3 hB3 hB d3
 have hN:Hid (cutN (layD M E) (48-n).toNat (decide (0≤r))+10 ^ 57<10 ^ 96):=cutN_lt (by omega) hD.out
 go_wp2_with (refine wpList_load56 rfl rfl rfl hn5 ?_)
 refine(nearest_any _ _ false _ hN).mono ?_
 rintro e w6 ⟨rfl,hB1⟩
 have d6:=d5.below hB1 d5.lt
 have hB6:=hB5.trans (hB1.mono hB5.size)
 have g0:=d6.c0
 have g1:=d6.c1
 have gf0:=d6.frozen 0
 have gf1:=d6.frozen 1
 go_wp2_with fail
 refine bodyPost_ret (results_dec_tmp rfl _ _ _ _ _ rfl (World.dec.set1 (World.dec.set0 d6 _) _)) rfl ?_
 rw[←Hr.out]
 exact⟨rfl,(hB6.setCell (by simp) _).setCell (by simp) _⟩
set_option maxRecDepth 100000 in
set_option maxHeartbeats 2000000 in
theorem round_arg (M E n:Int) (w:World) (h0: -9223372036854775808≤M) (h1:M≤9223372036854775807) (hr:rightB M E=true) (hn:n< -9∨9<n):
 Calls Tryz.prog 33 #[.agg #[.int .i64 M,.int .i64 E],.int .i64 n] w (DecPost ((0,0),2) w):=by
 go_enter Tryz.func33,Tryz.ntmps33
 go_wp2_with fail
 obtain⟨W,hW⟩:∃W,W=(w.alloc (.cells #[.int .i64 M,.int .i64 E] 34)).alloc (.cells #[.int .i64 0,.int .i64 0] 34):=⟨_,rfl⟩
 rw[←hW]
 have d0:World.dec W w.heap.size M E:=by rw[hW];exact(World.dec_new w M E _ rfl).alloc _
 have d2:World.dec W (w.heap.size+1) 0 0:=by rw[hW];exact World.dec_new _ 0 0 _ (by simp)
 have hB:Below w.heap.size w W:=by rw[hW];exact((Below.refl _ w).alloc (Nat.le_refl _) _).alloc (by simp) _
 clear hW
 refine(right_any M E _ h0 h1).mono ?_
 rintro e w1 ⟨rfl,hB1⟩
 have d2:=d2.below hB1 d2.lt
 have hB:=hB.trans (hB1.mono hB.size)
 clear hB1
 have g0:=d2.c0
 have g1:=d2.c1
 have gf0:=d2.frozen 0
 have gf1:=d2.frozen 1
 rcases hn with hn|hn
 all_goals
  go_wp2_with fail
  refine bodyPost_ret (results_dec_tmp rfl _ _ _ 0 0 rfl (World.dec.set1 (World.dec.set0 d2 0) 0)) rfl ?_
  exact⟨rfl,(hB.setCell (by simp) _).setCell (by simp) _⟩
set_option maxRecDepth 100000 in
set_option maxHeartbeats 2000000 in
theorem round_no (M E n:Int) (w:World) (h0: -9223372036854775808≤M) (h1:M≤9223372036854775807) (hr:rightB M E=false):
 Calls Tryz.prog 33 #[.agg #[.int .i64 M,.int .i64 E],.int .i64 n] w (DecPost ((0,0),10) w):=by
 go_enter Tryz.func33,Tryz.ntmps33
 go_wp2_with fail
 obtain⟨W,hW⟩:∃W,W=(w.alloc (.cells #[.int .i64 M,.int .i64 E] 34)).alloc (.cells #[.int .i64 0,.int .i64 0] 34):=⟨_,rfl⟩
 rw[←hW]
 have d0:World.dec W w.heap.size M E:=by rw[hW];exact(World.dec_new w M E _ rfl).alloc _
 have d2:World.dec W (w.heap.size+1) 0 0:=by rw[hW];exact World.dec_new _ 0 0 _ (by simp)
 have hB:Below w.heap.size w W:=by rw[hW];exact((Below.refl _ w).alloc (Nat.le_refl _) _).alloc (by simp) _
 clear hW
 refine(right_any M E _ h0 h1).mono ?_
 rintro e w1 ⟨rfl,hB1⟩
 have d2:=d2.below hB1 d2.lt
 have hB:=hB.trans (hB1.mono hB.size)
 clear hB1
 have g0:=d2.c0
 have g1:=d2.c1
 have gf0:=d2.frozen 0
 have gf1:=d2.frozen 1
 go_wp2_with fail
 refine bodyPost_ret (results_dec_tmp rfl _ _ _ 0 0 rfl (World.dec.set1 (World.dec.set0 d2 0) 0)) rfl ?_
 exact⟨rfl,(hB.setCell (by simp) _).setCell (by simp) _⟩
/-- A decimal rounded. -/
def roundR (M E n:Int):(Int×Int)×Int:=near (decide (M<0)) (cutN (layD M E) (48-n).toNat (decide (0≤restD (layD M E) false (48-n).toNat))) false
def roundD (M E n:Int):(Int×Int)×Int:=if rightB M E=true then(if -9≤n∧n≤9 then roundR M E n else((0,0),2))else((0,0),10)
theorem round_any (M E n:Int) (w:World) (h0: -9223372036854775808≤M) (h1:M≤9223372036854775807):
 Calls Tryz.prog 33 #[.agg #[.int .i64 M,.int .i64 E],.int .i64 n] w (DecPost (roundD M E n) w):=by
 unfold roundD
 by_cases hr:rightB M E=true
 ·rw[if_pos hr]
  by_cases hn: -9≤n∧n≤9
  ·rw[if_pos hn];exact round_ok M E n w h0 h1 hr hn.1 hn.2
  ·rw[if_neg hn];exact round_arg M E n w h0 h1 hr (by omega)
 ·rw[if_neg hr];exact round_no M E n w h0 h1 (by simpa using hr)
end Go.Proofs.YtmhfioimgllgeaaGreatDoor
namespace Go.Proofs.YtmhfioimgllgeaaGreatDoor
open Go.RowKit
/-- One more than the whole part, where a decimal below 0 has more behind the point. -/
def floorUp (M E:Int):Bool:=decide (M<0)&&decide (-2<restD (layD M E) false 48)
def floorQ (M E:Int):Nat:=layD M E / 10 ^ 48+(if floorUp M E=true then 1 else 0)
def floorR (M E:Int):Int×Int:=if floorQ M E<10 ^ 15 then(if M<0 then -((floorQ M E:Nat):Int)else((floorQ M E:Nat):Int),0)else(0,10)
def floorD (M E:Int):Int×Int:=if rightB M E=true then floorR M E else(0,10)
/-- What Floor leaves. -/
def FloorPost (r:Int×Int) (w:World) (e:Ending) (w':World):Prop:=e= .returned (.tuple #[.int .i64 r.1,.int .i64 r.2])∧Below w.heap.size w w'
theorem q_zero {q:Nat} {i:Nat} (h:q*10 ^ 48<10 ^ i) (hi:i≤48):q=0:=by
 have h1:(10:Nat) ^ i≤10 ^ 48:=Nat.pow_le_pow_right (by decide) hi
 have h2:(0:Nat)<10 ^ 48:=pow10_pos 48
 rcases Nat.eq_zero_or_pos q with h0|h0
 ·exact h0
 ·have:=Nat.le_mul_of_pos_left (10 ^ 48) h0
  omega
theorem q_div (q i:Nat) (h:q*10 ^ 48<10 ^ i∧i≤48∨i=48):q*10 ^ 48 / 10 ^ i=q:=by
 rcases h with ⟨h,hi⟩|rfl
 ·rw[q_zero h hi,Nat.zero_mul,Nat.zero_div]
 ·exact Nat.mul_div_cancel q (pow10_pos 48)
theorem q15 {q:Nat} (h:q<10 ^ 15):(q:Int)<1000000000000000:=by
 have h1:(10:Nat) ^ 15=1000000000000000:=by decide
 omega
theorem q_le (q i:Nat) (h:48≤i):q*10 ^ 48 / 10 ^ i≤q:=by
 calc q*10 ^ 48 / 10 ^ i≤q*10 ^ 48 / 10 ^ 48:=Nat.div_le_div_left (Nat.pow_le_pow_right (by decide) h) (pow10_pos 48)
  _=q:=Nat.mul_div_cancel q (pow10_pos 48)
set_option maxRecDepth 100000 in
set_option maxHeartbeats 2000000 in
theorem floor_neg (M E:Int) (w:World) (h0: -9223372036854775808≤M) (h1:M≤9223372036854775807) (hr:rightB M E=true) (hM:M<0):
 Calls Tryz.prog 26 #[.agg #[.int .i64 M,.int .i64 E]] w (FloorPost (floorR M E) w):=by
 obtain⟨R,hR⟩:∃R,R=floorR M E:=⟨_,rfl⟩
 rw[←hR]
 have HR:=Lib.hid hR
 clear hR
 go_enter Tryz.func26,Tryz.ntmps26
 go_wp2_with fail
 obtain⟨W,hW⟩:∃W,W=w.alloc (.cells #[.int .i64 M,.int .i64 E] 34):=⟨_,rfl⟩
 rw[←hW]
 have d0:World.dec W w.heap.size M E:=by rw[hW];exact World.dec_new w M E _ rfl
 have hB:Below w.heap.size w W:=by rw[hW];exact(Below.refl _ w).alloc (Nat.le_refl _) _
 clear hW
 refine(right_any M E _ h0 h1).mono ?_
 rintro e w1 ⟨rfl,hB1⟩
 have d0:=d0.below hB1 d0.lt
 have hB:=hB.trans (hB1.mono hB.size)
 clear hB1
 have a0:=d0.c0
 have a1:=d0.c1
 obtain⟨r1,r2,r3,r4,_⟩:=rightB_iff.1 hr
 have hD:=Lib.hid (layD_lt hr)
 go_wp2_with fail
 refine(lay_any M E _ r1 r2 r3 r4).mono ?_
 rintro e w2 ⟨rfl,hB1⟩
 have d0:=d0.below hB1 d0.lt
 have hB:=hB.trans (hB1.mono hB.size)
 clear hB1 a0 a1
 have hs:=d0.lt
 have hbs:=hB.size
 go_wp2_with (first
  |refine wpList_alloc56 rfl rfl ?_
  |(refine wpList_store56 rfl rfl rfl rfl (World.num_new _ _ _ _) ?_;intro w3 hn3 hg3 hz3
    have d3:World.dec w3 w.heap.size M E:=World.dec.below (d0.alloc _) (Below.grown (Below.refl w2.heap.size _) hg3 (by simp) (fun k hk=>by cases hk;exact Nat.le_refl _)) (by omega)
    have hB3:Below w.heap.size w w3:=(hB.alloc hB.size _).grown hg3 (by simp;omega) (fun k hk=>by cases hk;exact hbs)
    clear hg3 hz3
    have a0:=d3.c0))
 refine(rest_i _ _ _ _ _ _ hn3 (by omega) (by omega)).mono ?_
 rintro e w4 ⟨rfl,rfl⟩
 have HU:Hid (floorUp M E=decide (-2<restD (layD M E) false 48)):=by show _=_;unfold floorUp;rw[decide_eq_true hM];rfl
 go_wp2_with fail
 refine(cut_b _ _ _ _ _ _ _ hn3 (by omega) (by omega) hD).mono ?_
 rintro e w5 ⟨rfl,hn5,hg5⟩
 have d5:World.dec w5 w.heap.size M E:=World.dec.grown d3 hg5 (by simp;omega)
 have hB5:Below w.heap.size w w5:=hB3.grown hg5 hB3.size (fun k hk=>by cases hk;exact hbs)
 clear hg5 hn3 hB3 d3 a0 d0 hB
 have a0:=d5.c0
 have hcut:(cutN (layD M E) (48:Int).toNat (decide (-2<restD (layD M E) false 48)))=floorQ M E*10 ^ 48:=by rw[floorQ,HU.out];rfl
 rw[hcut]at hn5
 have hq96:floorQ M E*10 ^ 48<10 ^ 96:=by rw[←hcut];have:= @cutN_lt (layD M E) (48:Int).toNat (decide (-2<restD (layD M E) false 48)) (by decide) hD.out;omega
 clear hcut
 obtain⟨t,t0,t1,t2,t3⟩:=top_exists 96 (floorQ M E*10 ^ 48) hq96
 have hq:=top_lt t2 t3
 have T2:=Lib.hid t2
 have T3:=Lib.hid t3
 have HQ:=Lib.hid hq
 clear hq t2 t3 hq96
 go_wp2_with fail
 refine(top_any _ _ _ false t _ hn5 t0 (by omega) (fun k _ hk=>top_hi T2.out k hk) (top_at T2.out T3.out)).mono ?_
 rintro e w6 ⟨rfl,rfl⟩
 by_cases h15:floorQ M E<10 ^ 15
 ·have hlt15:t<63:=by have:=HQ.out.2 h15;omega
  have HRe:=HR.out
  rw[floorR,if_pos h15,if_pos hM]at HRe
  clear HR
  have hq15:Hid (∀_:Unit,((floorQ M E:Nat):Int)<1000000000000000):=fun _=>q15 h15
  clear h15
  obtain⟨q,hq⟩:∃q,q=floorQ M E:=⟨_,rfl⟩
  rw[←hq]at hn5 T2 T3 hq15 HRe
  have HR:=Lib.hid HRe
  clear HQ hq HRe HU T3
  obtain⟨D,hD'⟩:∃D,D=q*10 ^ 48:=⟨_,rfl⟩
  rw[←hD']at hn5 T2
  have HDq:Hid (∀i,(D<10 ^ i∧i≤48∨i=48)→D / 10 ^ i=q):=by rw[hD'];exact fun i h=>q_div q i h
  have HDl:Hid (∀i,48≤i→D / 10 ^ i≤q):=by rw[hD'];exact fun i h=>q_le q i h
  clear hD'
  go_wp2_with fail
  go_loop [6,7] (fun n k=>∃(i:Nat) (v:Int),n= .int .i64 v∧k= .int .i64 ((i:Int)-1)∧i≤63∧0≤v∧v≤999999999999999∧Hid (v=((D / 10 ^ i:Nat):Int))∧Hid (D<10 ^ i∧i≤48∨48≤i)) (fun _ k=>(intOf k+1).toNat)
  case atStart=>
   refine⟨(t+1).toNat,0,rfl,by congr 1;omega,by omega,by omega,by omega,?_,?_⟩
   ·show _=_;rw[Nat.div_eq_of_lt T2.out];rfl
   ·show _∨_
    have:=T2.out
    by_cases hh:(t+1).toNat≤48
    ·exact Or.inl ⟨this,hh⟩
    ·exact Or.inr (by omega)
  case round=>
   obtain⟨i,v,rfl,rfl,i1,v0,v1,HV,HI⟩:=hrel
   by_cases hi:48<i
   ·obtain⟨k,rfl⟩:∃k,i=k+1:=⟨i-1,by omega⟩
    obtain⟨hc,hf⟩:=World.num.at hn5 k (by omega)
    have e0:=dg_nonneg D k
    have e1:=dg_le D k
    have hs:=div_take D k
    rw[←HV.out]at hs
    have hle:10*v+dg D k≤999999999999999:=by
     rw[hs]
     have h1:=HDl.out k (by omega)
     have h2:=hq15.out ()
     omega
    have HS:=Lib.hid hs
    clear hs HV
    obtain⟨d,hd⟩:∃d,d=dg D k:=⟨_,rfl⟩
    rw[←hd]at hc e0 e1 HS hle
    clear hd
    rw[show ((k+1:Nat):Int)-1=(k:Int) by omega]
    go_wp2_with fail
    go_round
    case rel=>exact⟨k,10*v+d,rfl,rfl,by omega,by omega,hle,HS,Or.inr (by omega)⟩
    case measure=>first|(simp[intOf];done)|(simp[intOf];omega)
   ·have hvq:v=(q:Int):=by
     rw[HV.out,HDq.out i (by rcases HI.out with h|h;exact Or.inl h;exact Or.inr (by omega))]
    have HVQ:=Lib.hid hvq
    clear HV HI T2 hvq
    go_wp2_with fail
    refine bodyPost_ret (results_tmp2 rfl _ _ _) rfl ?_
    refine⟨?_,hB5⟩
    rw[HR.out,←HVQ.out];rfl
 ·have hlt15:¬t<63:=by have:=mt HQ.out.1 h15;omega
  have HRe:=HR.out
  rw[floorR,if_neg h15]at HRe
  have HR:=Lib.hid HRe
  clear h15 HQ HRe
  go_wp2_with fail
  refine bodyPost_ret (results_tmp2 rfl _ _ _) rfl ?_
  refine⟨?_,hB5⟩
  rw[HR.out];rfl
set_option maxRecDepth 100000 in
set_option maxHeartbeats 2000000 in
theorem floor_pos (M E:Int) (w:World) (h0: -9223372036854775808≤M) (h1:M≤9223372036854775807) (hr:rightB M E=true) (hM:¬M<0):
 Calls Tryz.prog 26 #[.agg #[.int .i64 M,.int .i64 E]] w (FloorPost (floorR M E) w):=by
 obtain⟨R,hR⟩:∃R,R=floorR M E:=⟨_,rfl⟩
 rw[←hR]
 have HR:=Lib.hid hR
 clear hR
 go_enter Tryz.func26,Tryz.ntmps26
 go_wp2_with fail
 obtain⟨W,hW⟩:∃W,W=w.alloc (.cells #[.int .i64 M,.int .i64 E] 34):=⟨_,rfl⟩
 rw[←hW]
 have d0:World.dec W w.heap.size M E:=by rw[hW];exact World.dec_new w M E _ rfl
 have hB:Below w.heap.size w W:=by rw[hW];exact(Below.refl _ w).alloc (Nat.le_refl _) _
 clear hW
 refine(right_any M E _ h0 h1).mono ?_
 rintro e w1 ⟨rfl,hB1⟩
 have d0:=d0.below hB1 d0.lt
 have hB:=hB.trans (hB1.mono hB.size)
 clear hB1
 have a0:=d0.c0
 have a1:=d0.c1
 obtain⟨r1,r2,r3,r4,_⟩:=rightB_iff.1 hr
 have hD:=Lib.hid (layD_lt hr)
 go_wp2_with fail
 refine(lay_any M E _ r1 r2 r3 r4).mono ?_
 rintro e w2 ⟨rfl,hB1⟩
 have d0:=d0.below hB1 d0.lt
 have hB:=hB.trans (hB1.mono hB.size)
 clear hB1 a0 a1
 have hs:=d0.lt
 have hbs:=hB.size
 go_wp2_with (first
  |refine wpList_alloc56 rfl rfl ?_
  |(refine wpList_store56 rfl rfl rfl rfl (World.num_new _ _ _ _) ?_;intro w3 hn3 hg3 hz3
    have d3:World.dec w3 w.heap.size M E:=World.dec.below (d0.alloc _) (Below.grown (Below.refl w2.heap.size _) hg3 (by simp) (fun k hk=>by cases hk;exact Nat.le_refl _)) (by omega)
    have hB3:Below w.heap.size w w3:=(hB.alloc hB.size _).grown hg3 (by simp;omega) (fun k hk=>by cases hk;exact hbs)
    clear hg3 hz3
    have a0:=d3.c0))
 have HU:Hid (floorUp M E=false):=by show _=_;unfold floorUp;rw[decide_eq_false (by omega:¬M<0)];rfl
 refine(cut_b _ _ _ _ _ _ _ hn3 (by omega) (by omega) hD).mono ?_
 rintro e w5 ⟨rfl,hn5,hg5⟩
 have d5:World.dec w5 w.heap.size M E:=World.dec.grown d3 hg5 (by simp;omega)
 have hB5:Below w.heap.size w w5:=hB3.grown hg5 hB3.size (fun k hk=>by cases hk;exact hbs)
 clear hg5 hn3 hB3 d3 a0 d0 hB
 have a0:=d5.c0
 have hcut:(cutN (layD M E) (48:Int).toNat false)=floorQ M E*10 ^ 48:=by rw[floorQ,HU.out];rfl
 rw[hcut]at hn5
 have hq96:floorQ M E*10 ^ 48<10 ^ 96:=by rw[←hcut];have:= @cutN_lt (layD M E) (48:Int).toNat false (by decide) hD.out;omega
 clear hcut
 obtain⟨t,t0,t1,t2,t3⟩:=top_exists 96 (floorQ M E*10 ^ 48) hq96
 have hq:=top_lt t2 t3
 have T2:=Lib.hid t2
 have T3:=Lib.hid t3
 have HQ:=Lib.hid hq
 clear hq t2 t3 hq96
 go_wp2_with fail
 refine(top_any _ _ _ false t _ hn5 t0 (by omega) (fun k _ hk=>top_hi T2.out k hk) (top_at T2.out T3.out)).mono ?_
 rintro e w6 ⟨rfl,rfl⟩
 by_cases h15:floorQ M E<10 ^ 15
 ·have hlt15:t<63:=by have:=HQ.out.2 h15;omega
  have HRe:=HR.out
  rw[floorR,if_pos h15,if_neg (by omega:¬M<0)]at HRe
  clear HR
  have hq15:Hid (∀_:Unit,((floorQ M E:Nat):Int)<1000000000000000):=fun _=>q15 h15
  clear h15
  obtain⟨q,hq⟩:∃q,q=floorQ M E:=⟨_,rfl⟩
  rw[←hq]at hn5 T2 T3 hq15 HRe
  have HR:=Lib.hid HRe
  clear HQ hq HRe HU T3
  obtain⟨D,hD'⟩:∃D,D=q*10 ^ 48:=⟨_,rfl⟩
  rw[←hD']at hn5 T2
  have HDq:Hid (∀i,(D<10 ^ i∧i≤48∨i=48)→D / 10 ^ i=q):=by rw[hD'];exact fun i h=>q_div q i h
  have HDl:Hid (∀i,48≤i→D / 10 ^ i≤q):=by rw[hD'];exact fun i h=>q_le q i h
  clear hD'
  go_wp2_with fail
  go_loop [6,7] (fun n k=>∃(i:Nat) (v:Int),n= .int .i64 v∧k= .int .i64 ((i:Int)-1)∧i≤63∧0≤v∧v≤999999999999999∧Hid (v=((D / 10 ^ i:Nat):Int))∧Hid (D<10 ^ i∧i≤48∨48≤i)) (fun _ k=>(intOf k+1).toNat)
  case atStart=>
   refine⟨(t+1).toNat,0,rfl,by congr 1;omega,by omega,by omega,by omega,?_,?_⟩
   ·show _=_;rw[Nat.div_eq_of_lt T2.out];rfl
   ·show _∨_
    have:=T2.out
    by_cases hh:(t+1).toNat≤48
    ·exact Or.inl ⟨this,hh⟩
    ·exact Or.inr (by omega)
  case round=>
   obtain⟨i,v,rfl,rfl,i1,v0,v1,HV,HI⟩:=hrel
   by_cases hi:48<i
   ·obtain⟨k,rfl⟩:∃k,i=k+1:=⟨i-1,by omega⟩
    obtain⟨hc,hf⟩:=World.num.at hn5 k (by omega)
    have e0:=dg_nonneg D k
    have e1:=dg_le D k
    have hs:=div_take D k
    rw[←HV.out]at hs
    have hle:10*v+dg D k≤999999999999999:=by
     rw[hs]
     have h1:=HDl.out k (by omega)
     have h2:=hq15.out ()
     omega
    have HS:=Lib.hid hs
    clear hs HV
    obtain⟨d,hd⟩:∃d,d=dg D k:=⟨_,rfl⟩
    rw[←hd]at hc e0 e1 HS hle
    clear hd
    rw[show ((k+1:Nat):Int)-1=(k:Int) by omega]
    go_wp2_with fail
    go_round
    case rel=>exact⟨k,10*v+d,rfl,rfl,by omega,by omega,hle,HS,Or.inr (by omega)⟩
    case measure=>first|(simp[intOf];done)|(simp[intOf];omega)
   ·have hvq:v=(q:Int):=by
     rw[HV.out,HDq.out i (by rcases HI.out with h|h;exact Or.inl h;exact Or.inr (by omega))]
    have HVQ:=Lib.hid hvq
    clear HV HI T2 hvq
    go_wp2_with fail
    refine bodyPost_ret (results_tmp2 rfl _ _ _) rfl ?_
    refine⟨?_,hB5⟩
    rw[HR.out,←HVQ.out];rfl
 ·have hlt15:¬t<63:=by have:=mt HQ.out.1 h15;omega
  have HRe:=HR.out
  rw[floorR,if_neg h15]at HRe
  have HR:=Lib.hid HRe
  clear h15 HQ HRe
  go_wp2_with fail
  refine bodyPost_ret (results_tmp2 rfl _ _ _) rfl ?_
  refine⟨?_,hB5⟩
  rw[HR.out];rfl
set_option maxRecDepth 100000 in
set_option maxHeartbeats 2000000 in
theorem floor_no (M E:Int) (w:World) (h0: -9223372036854775808≤M) (h1:M≤9223372036854775807) (hr:rightB M E=false):
 Calls Tryz.prog 26 #[.agg #[.int .i64 M,.int .i64 E]] w (FloorPost (0,10) w):=by
 go_enter Tryz.func26,Tryz.ntmps26
 go_wp2_with fail
 obtain⟨W,hW⟩:∃W,W=w.alloc (.cells #[.int .i64 M,.int .i64 E] 34):=⟨_,rfl⟩
 rw[←hW]
 have d0:World.dec W w.heap.size M E:=by rw[hW];exact World.dec_new w M E _ rfl
 have hB:Below w.heap.size w W:=by rw[hW];exact(Below.refl _ w).alloc (Nat.le_refl _) _
 clear hW
 refine(right_any M E _ h0 h1).mono ?_
 rintro e w1 ⟨rfl,hB1⟩
 have hB:=hB.trans (hB1.mono hB.size)
 clear hB1
 go_wp2_with fail
 refine bodyPost_ret (results_tmp2 rfl _ _ _) rfl ?_
 exact⟨rfl,hB⟩
theorem floor_any (M E:Int) (w:World) (h0: -9223372036854775808≤M) (h1:M≤9223372036854775807):
 Calls Tryz.prog 26 #[.agg #[.int .i64 M,.int .i64 E]] w (FloorPost (floorD M E) w):=by
 unfold floorD
 by_cases hr:rightB M E=true
 ·rw[if_pos hr]
  by_cases hM:M<0
  ·exact floor_neg M E w h0 h1 hr hM
  ·exact floor_pos M E w h0 h1 hr (by omega)
 ·rw[if_neg hr];exact floor_no M E w h0 h1 (by simpa using hr)
end Go.Proofs.YtmhfioimgllgeaaGreatDoor
