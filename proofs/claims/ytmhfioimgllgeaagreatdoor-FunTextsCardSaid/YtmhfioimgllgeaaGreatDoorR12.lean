/- Merged: Cmp, Pow, Eqs, Ofn, Byte, Text. -/
import Derived.Test.YtmhfioimgllgeaaGreatDoorR01
import Derived.Test.YtmhfioimgllgeaaGreatDoorR08
import Derived.Test.YtmhfioimgllgeaaGreatDoorR05
import Derived.Deep.DeepCutAuto
import Derived.RegionTactic
import Derived.ChangeAlike
import Derived.ChangeKeysEq
import Derived.DeepKeys
namespace Go.Proofs.YtmhfioimgllgeaaGreatDoor
open Go.RowKit Go.Shelf
def CmpMid (s s':Bool) (D D':Nat) (w:World) (v v':Value) (wc:World):Prop:=
 ∃g g',v= .pointer (some ⟨g,0,none⟩)∧v'= .pointer (some ⟨g',0,none⟩)∧World.num wc g s (dg D) false∧World.num wc g' s' (dg D') false∧Below w.heap.size w wc
def cmpS (M E M' E':Int):Int:=if gtF (dg (layD M E)) (dg (layD M' E')) 96=true then(if M<0 then -1 else 1)else-(if M<0 then -1 else 1)
def signI (M:Int):Int:=if M<0 then -1 else 1
theorem signI_bd (M:Int): -1≤signI M∧signI M≤1:=by unfold signI;split<;>omega
theorem World.new_of {W:World} {b:Nat} {M E:Int} (d:World.dec W b M E):∃g,World.num (W.alloc (.cells (numF false z96 false) 105)) g false z96 false∧b<g∧W.heap.size=g:=⟨_,World.num_new _ _ _ _,d.lt,rfl⟩
def CmpPost (r:Int) (w:World) (e:Ending) (w':World):Prop:=e= .returned (.int .i64 r)∧Below w.heap.size w w'
set_option maxRecDepth 100000 in
set_option maxHeartbeats 4000000 in
theorem cmp_no1 (M E M' E':Int) (w:World) (h0: -9223372036854775808≤M) (h1:M≤9223372036854775807) (_h0': -9223372036854775808≤M') (_h1':M'≤9223372036854775807) (hr:rightB M E=false):
 Calls Tryz.prog 37 #[.agg #[.int .i64 M,.int .i64 E],.agg #[.int .i64 M',.int .i64 E']] w (CmpPost 0 w):=by
 go_enter Tryz.func37,Tryz.ntmps37
 go_wp2_with fail
 obtain⟨W,hW⟩:∃W,W=(w.alloc (.cells #[.int .i64 M,.int .i64 E] 34)).alloc (.cells #[.int .i64 M',.int .i64 E'] 34):=⟨_,rfl⟩
 rw[←hW]
 have d0:World.dec W w.heap.size M E:=by rw[hW];exact(World.dec_new w M E _ rfl).alloc _
 have d1:World.dec W (w.heap.size+1) M' E':=by rw[hW];exact World.dec_new _ M' E' _ (by simp)
 have hB:Below w.heap.size w W:=by rw[hW];exact((Below.refl _ w).alloc (Nat.le_refl _) _).alloc (by simp) _
 clear hW
 refine(right_any M E _ h0 h1).mono ?_
 rintro e w1 ⟨rfl,hB1⟩
 have d0:=d0.below hB1 d0.lt
 have d1:=d1.below hB1 d1.lt
 have hB:=hB.trans (hB1.mono hB.size)
 clear hB1
 have a0:=d0.c0
 have a1:=d0.c1
 have b0:=d1.c0
 have b1:=d1.c1
 go_wp2_with fail
 go_ret
 exact⟨rfl,hB⟩
set_option maxRecDepth 100000 in
set_option maxHeartbeats 4000000 in
theorem cmp_no2 (M E M' E':Int) (w:World) (h0: -9223372036854775808≤M) (h1:M≤9223372036854775807) (h0': -9223372036854775808≤M') (h1':M'≤9223372036854775807) (hr:rightB M E=true) (hr':rightB M' E'=false):
 Calls Tryz.prog 37 #[.agg #[.int .i64 M,.int .i64 E],.agg #[.int .i64 M',.int .i64 E']] w (CmpPost 0 w):=by
 go_enter Tryz.func37,Tryz.ntmps37
 go_wp2_with fail
 obtain⟨W,hW⟩:∃W,W=(w.alloc (.cells #[.int .i64 M,.int .i64 E] 34)).alloc (.cells #[.int .i64 M',.int .i64 E'] 34):=⟨_,rfl⟩
 rw[←hW]
 have d0:World.dec W w.heap.size M E:=by rw[hW];exact(World.dec_new w M E _ rfl).alloc _
 have d1:World.dec W (w.heap.size+1) M' E':=by rw[hW];exact World.dec_new _ M' E' _ (by simp)
 have hB:Below w.heap.size w W:=by rw[hW];exact((Below.refl _ w).alloc (Nat.le_refl _) _).alloc (by simp) _
 clear hW
 refine(right_any M E _ h0 h1).mono ?_
 rintro e w1 ⟨rfl,hB1⟩
 have d0:=d0.below hB1 d0.lt
 have d1:=d1.below hB1 d1.lt
 have hB:=hB.trans (hB1.mono hB.size)
 clear hB1
 have a0:=d0.c0
 have a1:=d0.c1
 have b0:=d1.c0
 have b1:=d1.c1
 go_wp2_with fail
 clear a0 a1 b0 b1
 refine(right_any M' E' _ h0' h1').mono ?_
 rintro e w1 ⟨rfl,hB1⟩
 have d0:=d0.below hB1 d0.lt
 have d1:=d1.below hB1 d1.lt
 have hB:=hB.trans (hB1.mono hB.size)
 clear hB1
 have a0:=d0.c0
 have a1:=d0.c1
 have b0:=d1.c0
 have b1:=d1.c1
 go_wp2_with fail
 go_ret
 exact⟨rfl,hB⟩
set_option maxRecDepth 100000 in
set_option maxHeartbeats 4000000 in
theorem cmp_eq (M E:Int) (w:World) (h0: -9223372036854775808≤M) (h1:M≤9223372036854775807) (hr:rightB M E=true):
 Calls Tryz.prog 37 #[.agg #[.int .i64 M,.int .i64 E],.agg #[.int .i64 M,.int .i64 E]] w (CmpPost 0 w):=by
 go_enter Tryz.func37,Tryz.ntmps37
 go_wp2_with fail
 obtain⟨W,hW⟩:∃W,W=(w.alloc (.cells #[.int .i64 M,.int .i64 E] 34)).alloc (.cells #[.int .i64 M,.int .i64 E] 34):=⟨_,rfl⟩
 rw[←hW]
 have d0:World.dec W w.heap.size M E:=by rw[hW];exact(World.dec_new w M E _ rfl).alloc _
 have d1:World.dec W (w.heap.size+1) M E:=by rw[hW];exact World.dec_new _ M E _ (by simp)
 have hB:Below w.heap.size w W:=by rw[hW];exact((Below.refl _ w).alloc (Nat.le_refl _) _).alloc (by simp) _
 clear hW
 refine(right_any M E _ h0 h1).mono ?_
 rintro e w1 ⟨rfl,hB1⟩
 have d0:=d0.below hB1 d0.lt
 have d1:=d1.below hB1 d1.lt
 have hB:=hB.trans (hB1.mono hB.size)
 clear hB1
 have a0:=d0.c0
 have a1:=d0.c1
 have b0:=d1.c0
 have b1:=d1.c1
 go_wp2_with fail
 clear a0 a1 b0 b1
 refine(right_any M E _ h0 h1).mono ?_
 rintro e w1 ⟨rfl,hB1⟩
 have d0:=d0.below hB1 d0.lt
 have d1:=d1.below hB1 d1.lt
 have hB:=hB.trans (hB1.mono hB.size)
 clear hB1
 have a0:=d0.c0
 have a1:=d0.c1
 have b0:=d1.c0
 have b1:=d1.c1
 go_wp2_with fail
 go_ret
 exact⟨rfl,hB⟩
set_option maxRecDepth 100000 in
set_option maxHeartbeats 4000000 in
theorem cmp_s1 (M E M' E':Int) (w:World) (h0: -9223372036854775808≤M) (h1:M≤9223372036854775807) (h0': -9223372036854775808≤M') (h1':M'≤9223372036854775807) (hr:rightB M E=true) (hr':rightB M' E'=true) (hde:(M==M'&&E==E')=false) (hs:decide (M<0)=true) (hs':decide (M'<0)=false):
 Calls Tryz.prog 37 #[.agg #[.int .i64 M,.int .i64 E],.agg #[.int .i64 M',.int .i64 E']] w (CmpPost (-1) w):=by
 go_enter Tryz.func37,Tryz.ntmps37
 go_upto_region 1 with fail
 obtain⟨W,hW⟩:∃W,W=(w.alloc (.cells #[.int .i64 M,.int .i64 E] 34)).alloc (.cells #[.int .i64 M',.int .i64 E'] 34):=⟨_,rfl⟩
 rw[←hW]
 have d0:World.dec W w.heap.size M E:=by rw[hW];exact(World.dec_new w M E _ rfl).alloc _
 have d1:World.dec W (w.heap.size+1) M' E':=by rw[hW];exact World.dec_new _ M' E' _ (by simp)
 have hB:Below w.heap.size w W:=by rw[hW];exact((Below.refl _ w).alloc (Nat.le_refl _) _).alloc (by simp) _
 clear hW
 go_cut [20] (fun v wc=>v= .bool false∧World.dec wc w.heap.size M E∧World.dec wc (w.heap.size+1) M' E'∧Below w.heap.size w wc)
 case first=>
  have a0:=d0.c0
  have a1:=d0.c1
  have b0:=d1.c0
  have b1:=d1.c1
  go_wp2_with fail
  clear a0 a1 b0 b1
  refine(right_any M E _ h0 h1).mono ?_
  rintro e w1 ⟨rfl,hB1⟩
  have d0:=d0.below hB1 d0.lt
  have d1:=d1.below hB1 d1.lt
  have hB:=hB.trans (hB1.mono hB.size)
  clear hB1
  have a0:=d0.c0
  have a1:=d0.c1
  have b0:=d1.c0
  have b1:=d1.c1
  go_wp2_with fail
  clear a0 a1 b0 b1
  refine(right_any M' E' _ h0' h1').mono ?_
  rintro e w1 ⟨rfl,hB1⟩
  have d0:=d0.below hB1 d0.lt
  have d1:=d1.below hB1 d1.lt
  have hB:=hB.trans (hB1.mono hB.size)
  clear hB1
  have a0:=d0.c0
  have a1:=d0.c1
  have b0:=d1.c0
  have b1:=d1.c1
  by_cases hM:M=M'
  ·have hE:(E==E')=false:=by
    rw[hM]at hde
    have h2:=hde
    simp only[beq_self_eq_true,Bool.true_and]at h2
    exact h2
   clear hde
   have hMb:(M==M')=true:=by simpa using hM
   have hMM:=Lib.hid hM
   clear hM
   go_wp2_with fail
   go_meet
   case rel=>exact⟨rfl,d0,d1,hB⟩
  ·have hMb:(M==M')=false:=by simpa using hM
   clear hde hM
   go_wp2_with fail
   go_meet
   case rel=>exact⟨rfl,d0,d1,hB⟩
 case rest=>
 obtain⟨rfl,d0,d1,hB⟩:=hcut
 have a0:=d0.c0
 have a1:=d0.c1
 have b0:=d1.c0
 have b1:=d1.c1
 clear hde
 go_wp2_with fail
 go_ret
 exact⟨rfl,hB⟩
set_option maxRecDepth 100000 in
set_option maxHeartbeats 4000000 in
theorem cmp_s0 (M E M' E':Int) (w:World) (h0: -9223372036854775808≤M) (h1:M≤9223372036854775807) (h0': -9223372036854775808≤M') (h1':M'≤9223372036854775807) (hr:rightB M E=true) (hr':rightB M' E'=true) (hde:(M==M'&&E==E')=false) (hs:decide (M<0)=false) (hs':decide (M'<0)=true):
 Calls Tryz.prog 37 #[.agg #[.int .i64 M,.int .i64 E],.agg #[.int .i64 M',.int .i64 E']] w (CmpPost 1 w):=by
 go_enter Tryz.func37,Tryz.ntmps37
 go_upto_region 1 with fail
 obtain⟨W,hW⟩:∃W,W=(w.alloc (.cells #[.int .i64 M,.int .i64 E] 34)).alloc (.cells #[.int .i64 M',.int .i64 E'] 34):=⟨_,rfl⟩
 rw[←hW]
 have d0:World.dec W w.heap.size M E:=by rw[hW];exact(World.dec_new w M E _ rfl).alloc _
 have d1:World.dec W (w.heap.size+1) M' E':=by rw[hW];exact World.dec_new _ M' E' _ (by simp)
 have hB:Below w.heap.size w W:=by rw[hW];exact((Below.refl _ w).alloc (Nat.le_refl _) _).alloc (by simp) _
 clear hW
 go_cut [20] (fun v wc=>v= .bool false∧World.dec wc w.heap.size M E∧World.dec wc (w.heap.size+1) M' E'∧Below w.heap.size w wc)
 case first=>
  have a0:=d0.c0
  have a1:=d0.c1
  have b0:=d1.c0
  have b1:=d1.c1
  go_wp2_with fail
  clear a0 a1 b0 b1
  refine(right_any M E _ h0 h1).mono ?_
  rintro e w1 ⟨rfl,hB1⟩
  have d0:=d0.below hB1 d0.lt
  have d1:=d1.below hB1 d1.lt
  have hB:=hB.trans (hB1.mono hB.size)
  clear hB1
  have a0:=d0.c0
  have a1:=d0.c1
  have b0:=d1.c0
  have b1:=d1.c1
  go_wp2_with fail
  clear a0 a1 b0 b1
  refine(right_any M' E' _ h0' h1').mono ?_
  rintro e w1 ⟨rfl,hB1⟩
  have d0:=d0.below hB1 d0.lt
  have d1:=d1.below hB1 d1.lt
  have hB:=hB.trans (hB1.mono hB.size)
  clear hB1
  have a0:=d0.c0
  have a1:=d0.c1
  have b0:=d1.c0
  have b1:=d1.c1
  by_cases hM:M=M'
  ·have hE:(E==E')=false:=by
    rw[hM]at hde
    have h2:=hde
    simp only[beq_self_eq_true,Bool.true_and]at h2
    exact h2
   clear hde
   have hMb:(M==M')=true:=by simpa using hM
   have hMM:=Lib.hid hM
   clear hM
   go_wp2_with fail
   go_meet
   case rel=>exact⟨rfl,d0,d1,hB⟩
  ·have hMb:(M==M')=false:=by simpa using hM
   clear hde hM
   go_wp2_with fail
   go_meet
   case rel=>exact⟨rfl,d0,d1,hB⟩
 case rest=>
 obtain⟨rfl,d0,d1,hB⟩:=hcut
 have a0:=d0.c0
 have a1:=d0.c1
 have b0:=d1.c0
 have b1:=d1.c1
 clear hde
 go_wp2_with fail
 go_ret
 exact⟨rfl,hB⟩
set_option maxRecDepth 100000 in
set_option maxHeartbeats 4000000 in
theorem cmp_same (M E M' E':Int) (w:World) (h0: -9223372036854775808≤M) (h1:M≤9223372036854775807) (h0': -9223372036854775808≤M') (h1':M'≤9223372036854775807) (hr:rightB M E=true) (hr':rightB M' E'=true) (hde:(M==M'&&E==E')=false) (hss:Hid (decide (M<0)=decide (M'<0))):
 Calls Tryz.prog 37 #[.agg #[.int .i64 M,.int .i64 E],.agg #[.int .i64 M',.int .i64 E']] w (CmpPost (cmpS M E M' E') w):=by
 go_enter Tryz.func37,Tryz.ntmps37
 go_upto_region 1 with fail
 obtain⟨W,hW⟩:∃W,W=(w.alloc (.cells #[.int .i64 M,.int .i64 E] 34)).alloc (.cells #[.int .i64 M',.int .i64 E'] 34):=⟨_,rfl⟩
 rw[←hW]
 have d0:World.dec W w.heap.size M E:=by rw[hW];exact(World.dec_new w M E _ rfl).alloc _
 have d1:World.dec W (w.heap.size+1) M' E':=by rw[hW];exact World.dec_new _ M' E' _ (by simp)
 have hB:Below w.heap.size w W:=by rw[hW];exact((Below.refl _ w).alloc (Nat.le_refl _) _).alloc (by simp) _
 clear hW
 go_cut [20] (fun v wc=>v= .bool false∧World.dec wc w.heap.size M E∧World.dec wc (w.heap.size+1) M' E'∧Below w.heap.size w wc)
 case first=>
  have a0:=d0.c0
  have a1:=d0.c1
  have b0:=d1.c0
  have b1:=d1.c1
  go_wp2_with fail
  clear a0 a1 b0 b1
  refine(right_any M E _ h0 h1).mono ?_
  rintro e w1 ⟨rfl,hB1⟩
  have d0:=d0.below hB1 d0.lt
  have d1:=d1.below hB1 d1.lt
  have hB:=hB.trans (hB1.mono hB.size)
  clear hB1
  have a0:=d0.c0
  have a1:=d0.c1
  have b0:=d1.c0
  have b1:=d1.c1
  go_wp2_with fail
  clear a0 a1 b0 b1
  refine(right_any M' E' _ h0' h1').mono ?_
  rintro e w1 ⟨rfl,hB1⟩
  have d0:=d0.below hB1 d0.lt
  have d1:=d1.below hB1 d1.lt
  have hB:=hB.trans (hB1.mono hB.size)
  clear hB1
  have a0:=d0.c0
  have a1:=d0.c1
  have b0:=d1.c0
  have b1:=d1.c1
  by_cases hM:M=M'
  ·have hE:(E==E')=false:=by
    rw[hM]at hde
    have h2:=hde
    simp only[beq_self_eq_true,Bool.true_and]at h2
    exact h2
   clear hde
   have hMb:(M==M')=true:=by simpa using hM
   have hMM:=Lib.hid hM
   clear hM
   go_wp2_with fail
   go_meet
   case rel=>exact⟨rfl,d0,d1,hB⟩
  ·have hMb:(M==M')=false:=by simpa using hM
   clear hde hM
   go_wp2_with fail
   go_meet
   case rel=>exact⟨rfl,d0,d1,hB⟩
 case rest=>
 obtain⟨rfl,d0,d1,hB⟩:=hcut
 have a0:=d0.c0
 have a1:=d0.c1
 have b0:=d1.c0
 have b1:=d1.c1
 clear hde
 go_upto_if 23 with fail
 go_cut [5] (fun v5 wx=>v5= .int .i64 (signI M)∧wx=wc)
 case first=>
  by_cases hs:M<0
  ·go_wp2_with fail
   go_meet
   case rel=>exact⟨by rw[signI,if_pos hs],rfl⟩
  ·go_wp2_with fail
   go_meet
   case rel=>exact⟨by rw[signI,if_neg (by omega)],rfl⟩
 case rest=>
 obtain⟨rfl,rfl⟩:=hcut
 go_upto_region 6 with fail
 go_cut [30] (fun v wx=>v= .bool (!(decide (M<0)==decide (M'<0)))∧wx=wc)
 case first=>
  go_wp2_with fail
  go_meet
  case rel=>exact⟨rfl,rfl⟩
 case rest=>
 obtain⟨rfl,rfl⟩:=hcut
 rw[hss.out,beq_self_eq_true]
 obtain⟨r1,r2,r3,r4,_⟩:=rightB_iff.1 hr
 obtain⟨q1,q2,q3,q4,_⟩:=rightB_iff.1 hr'
 go_wp2_with fail
 go_cut [6,7] (fun v6 v7 wc=>CmpMid (decide (M<0)) (decide (M'<0)) (layD M E) (layD M' E') w v6 v7 wc)
 case first=>
  refine wp_region_held_drew (S:=(fun w'=>w'.cell? ⟨w.heap.size,0,none⟩=some (.int .i64 M)∧w'.cell? ⟨w.heap.size,1,none⟩=some (.int .i64 E)∧w'.cell? ⟨w.heap.size+1,0,none⟩=some (.int .i64 M')∧w'.cell? ⟨w.heap.size+1,1,none⟩=some (.int .i64 E'))) (by kernel_rfl) ⟨a0,a1,b0,b1⟩ (fun hHeld=> ?_)
  refine wpAnyH_take (i:=0) (v:= ?_) rfl (by kernel_rfl) (by kernel_rfl) (by kernel_rfl) (fun _ _ _ h=>h) (Or.inl ⟨by rfl,?_⟩) hHeld ?_
  rotate_left
  ·(intro w hSw;(try dsimp only at hSw);go_simp)
   all_goals with_reducible rfl
  try simp only[Act.put,List.setIfInBounds_toArray]
  refine wpAnyH_take (i:=2) (v:= ?_) rfl (by kernel_rfl) (by kernel_rfl) (by kernel_rfl) (fun _ _ _ h=>h) (Or.inl ⟨by rfl,?_⟩) hHeld ?_
  rotate_left
  ·(intro w hSw;(try dsimp only at hSw);go_simp)
   all_goals with_reducible rfl
  try simp only[Act.put]
  clear hHeld a0 a1 b0 b1
  have d0:=World.dec.drew d0
  have d1:=World.dec.drew d1
  have hB:=hB.drew
  refine wpAnyH_ready (rs:= [1,4,5]) (by kernel_rfl) (by simp) ?_
  refine(AllReadyH.cons (o:=⟨some 33,_,_,_,_,_⟩) rfl (fun K hK=> ?_) (AllReadyH.cons (o:=⟨some 6,_,_,_,_,_⟩) rfl (fun K hK=> ?_) (AllReadyH.cons (o:=⟨some 7,_,_,_,_,_⟩) rfl (fun K hK=> ?_) AllReadyH.nil)))
  ·go_simp
   refine(lay_any M E _ r1 r2 r3 r4).mono ?_
   rintro e w2 ⟨rfl,hB2⟩
   have d0:=World.dec.below d0 hB2 d0.lt
   have d1:=World.dec.below d1 hB2 d1.lt
   have hB:=hB.trans (hB2.mono hB.size)
   refine hK.out _ _ ⟨d0.c0,d0.c1,d1.c0,d1.c1⟩ (fun hHeld=> ?_)
   clear hK K hHeld
   try simp only[Act.put,List.setIfInBounds_toArray,List.set_cons_zero,List.set_cons_succ]
   refine wpAnyH_ready (rs:= [3,4,5]) (by kernel_rfl) (by simp) ?_
   refine(AllReadyH.cons (o:=⟨some 35,_,_,_,_,_⟩) rfl (fun K hK=> ?_) (AllReadyH.cons (o:=⟨some 6,_,_,_,_,_⟩) rfl (fun K hK=> ?_) (AllReadyH.cons (o:=⟨some 7,_,_,_,_,_⟩) rfl (fun K hK=> ?_) AllReadyH.nil)))
   ·go_simp
    refine(lay_any M' E' _ q1 q2 q3 q4).mono ?_
    rintro e w2 ⟨rfl,hB2⟩
    have d0:=World.dec.below d0 hB2 d0.lt
    have d1:=World.dec.below d1 hB2 d1.lt
    have hB:=hB.trans (hB2.mono hB.size)
    refine hK.out _ _ ⟨d0.c0,d0.c1,d1.c0,d1.c1⟩ (fun hHeld=> ?_)
    clear hK K hHeld
    try simp only[Act.put,List.setIfInBounds_toArray,List.set_cons_zero,List.set_cons_succ]
    refine wpAnyH_ready (rs:= [4,5]) (by kernel_rfl) (by simp) ?_
    refine(AllReadyH.cons (o:=⟨some 6,_,_,_,_,_⟩) rfl (fun K hK=> ?_) (AllReadyH.cons (o:=⟨some 7,_,_,_,_,_⟩) rfl (fun K hK=> ?_) AllReadyH.nil))
    ·rw[if_pos (by rfl)]
     refine op_alloc56 rfl ?_
     obtain⟨gA,nA,bA,hgA⟩:=World.new_of d1
     have d0:=World.dec.alloc d0 (.cells (numF false z96 false) 105)
     have d1:=World.dec.alloc d1 (.cells (numF false z96 false) 105)
     have hB:=Below.alloc hB hB.size (.cells (numF false z96 false) 105)
     rw[hgA]
     clear hgA
     refine hK.out _ _ ⟨d0.c0,d0.c1,d1.c0,d1.c1⟩ (fun hHeld=> ?_)
     clear hK K hHeld
     try simp only[Act.put,List.setIfInBounds_toArray,List.set_cons_zero,List.set_cons_succ]
     refine wpAnyH_ready (rs:= [5]) (by kernel_rfl) (by simp) ?_
     refine(AllReadyH.cons (o:=⟨some 7,_,_,_,_,_⟩) rfl (fun K hK=> ?_) AllReadyH.nil)
     rw[if_pos (by rfl)]
     refine op_alloc56 rfl ?_
     obtain⟨gB,nB,bB,hgB⟩:=World.new_of d1
     have d0:=World.dec.alloc d0 (.cells (numF false z96 false) 105)
     have d1:=World.dec.alloc d1 (.cells (numF false z96 false) 105)
     have hAB:gA<gB:=by rw[←hgB];exact nA.lt
     have nA:=World.num.alloc nA (.cells (numF false z96 false) 105)
     have hB:=Below.alloc hB hB.size (.cells (numF false z96 false) 105)
     rw[hgB]
     clear hgB
     refine hK.out _ _ ⟨d0.c0,d0.c1,d1.c0,d1.c1⟩ (fun hHeld=> ?_)
     clear hK K hHeld
     try simp only[Act.put,List.setIfInBounds_toArray,List.set_cons_zero,List.set_cons_succ]
     refine wpAnyH_ready (rs:= [6]) (by kernel_rfl) (by simp) ?_
     refine(AllReadyH.cons (o:=⟨none,_,_,_,_,_⟩) rfl (fun K hK=> ?_) AllReadyH.nil)
     rw[if_pos (by rfl)]
     refine op_store56 rfl rfl rfl nA ?_
     intro w3 n3 g3 z3
     have d0:=World.dec.grown d0 g3 (by simp;omega)
     have d1:=World.dec.grown d1 g3 (by simp;omega)
     have nB:=World.num.grown nB g3 (by simp;omega)
     have hB:=hB.grown g3 hB.size (fun k hk=>by cases hk;omega)
     clear nA
     have nA:=n3
     clear n3 g3 z3
     refine hK.out _ _ ⟨d0.c0,d0.c1,d1.c0,d1.c1⟩ (fun hHeld=> ?_)
     clear hK K hHeld
     try simp only[Act.put]
     refine wpAnyH_ready (rs:= [7]) (by kernel_rfl) (by simp) ?_
     refine(AllReadyH.cons (o:=⟨none,_,_,_,_,_⟩) rfl (fun K hK=> ?_) AllReadyH.nil)
     rw[if_pos (by rfl)]
     refine op_store56 rfl rfl rfl nB ?_
     intro w3 n3 g3 z3
     have d0:=World.dec.grown d0 g3 (by simp;omega)
     have d1:=World.dec.grown d1 g3 (by simp;omega)
     have nA:=World.num.grown nA g3 (by simp;omega)
     have hB:=hB.grown g3 hB.size (fun k hk=>by cases hk;omega)
     clear nB
     have nB:=n3
     clear n3 g3 z3
     refine hK.out _ _ ⟨d0.c0,d0.c1,d1.c0,d1.c1⟩ (fun hHeld=> ?_)
     clear hK K hHeld
     try simp only[Act.put]
     refine wpAnyH_done (by kernel_rfl) ?_ _
     try simp only[Act.put,List.setIfInBounds_toArray,List.set_cons_zero,List.set_cons_succ]
     go_wp2_with fail
     go_meet
     case rel=>exact⟨_,_,rfl,rfl,nA,nB,hB⟩
    ·rw[if_pos (by rfl)]
     refine op_alloc56 rfl ?_
     obtain⟨gB,nB,bB,hgB⟩:=World.new_of d1
     have d0:=World.dec.alloc d0 (.cells (numF false z96 false) 105)
     have d1:=World.dec.alloc d1 (.cells (numF false z96 false) 105)
     have hB:=Below.alloc hB hB.size (.cells (numF false z96 false) 105)
     rw[hgB]
     clear hgB
     refine hK.out _ _ ⟨d0.c0,d0.c1,d1.c0,d1.c1⟩ (fun hHeld=> ?_)
     clear hK K hHeld
     try simp only[Act.put,List.setIfInBounds_toArray,List.set_cons_zero,List.set_cons_succ]
     refine wpAnyH_ready (rs:= [4]) (by kernel_rfl) (by simp) ?_
     refine(AllReadyH.cons (o:=⟨some 6,_,_,_,_,_⟩) rfl (fun K hK=> ?_) AllReadyH.nil)
     rw[if_pos (by rfl)]
     refine op_alloc56 rfl ?_
     obtain⟨gA,nA,bA,hgA⟩:=World.new_of d1
     have d0:=World.dec.alloc d0 (.cells (numF false z96 false) 105)
     have d1:=World.dec.alloc d1 (.cells (numF false z96 false) 105)
     have hAB:gB<gA:=by rw[←hgA];exact nB.lt
     have nB:=World.num.alloc nB (.cells (numF false z96 false) 105)
     have hB:=Below.alloc hB hB.size (.cells (numF false z96 false) 105)
     rw[hgA]
     clear hgA
     refine hK.out _ _ ⟨d0.c0,d0.c1,d1.c0,d1.c1⟩ (fun hHeld=> ?_)
     clear hK K hHeld
     try simp only[Act.put,List.setIfInBounds_toArray,List.set_cons_zero,List.set_cons_succ]
     refine wpAnyH_ready (rs:= [6]) (by kernel_rfl) (by simp) ?_
     refine(AllReadyH.cons (o:=⟨none,_,_,_,_,_⟩) rfl (fun K hK=> ?_) AllReadyH.nil)
     rw[if_pos (by rfl)]
     refine op_store56 rfl rfl rfl nA ?_
     intro w3 n3 g3 z3
     have d0:=World.dec.grown d0 g3 (by simp;omega)
     have d1:=World.dec.grown d1 g3 (by simp;omega)
     have nB:=World.num.grown nB g3 (by simp;omega)
     have hB:=hB.grown g3 hB.size (fun k hk=>by cases hk;omega)
     clear nA
     have nA:=n3
     clear n3 g3 z3
     refine hK.out _ _ ⟨d0.c0,d0.c1,d1.c0,d1.c1⟩ (fun hHeld=> ?_)
     clear hK K hHeld
     try simp only[Act.put]
     refine wpAnyH_ready (rs:= [7]) (by kernel_rfl) (by simp) ?_
     refine(AllReadyH.cons (o:=⟨none,_,_,_,_,_⟩) rfl (fun K hK=> ?_) AllReadyH.nil)
     rw[if_pos (by rfl)]
     refine op_store56 rfl rfl rfl nB ?_
     intro w3 n3 g3 z3
     have d0:=World.dec.grown d0 g3 (by simp;omega)
     have d1:=World.dec.grown d1 g3 (by simp;omega)
     have nA:=World.num.grown nA g3 (by simp;omega)
     have hB:=hB.grown g3 hB.size (fun k hk=>by cases hk;omega)
     clear nB
     have nB:=n3
     clear n3 g3 z3
     refine hK.out _ _ ⟨d0.c0,d0.c1,d1.c0,d1.c1⟩ (fun hHeld=> ?_)
     clear hK K hHeld
     try simp only[Act.put]
     refine wpAnyH_done (by kernel_rfl) ?_ _
     try simp only[Act.put,List.setIfInBounds_toArray,List.set_cons_zero,List.set_cons_succ]
     go_wp2_with fail
     go_meet
     case rel=>exact⟨_,_,rfl,rfl,nA,nB,hB⟩
   ·rw[if_pos (by rfl)]
    refine op_alloc56 rfl ?_
    obtain⟨gA,nA,bA,hgA⟩:=World.new_of d1
    have d0:=World.dec.alloc d0 (.cells (numF false z96 false) 105)
    have d1:=World.dec.alloc d1 (.cells (numF false z96 false) 105)
    have hB:=Below.alloc hB hB.size (.cells (numF false z96 false) 105)
    rw[hgA]
    clear hgA
    refine hK.out _ _ ⟨d0.c0,d0.c1,d1.c0,d1.c1⟩ (fun hHeld=> ?_)
    clear hK K hHeld
    try simp only[Act.put,List.setIfInBounds_toArray,List.set_cons_zero,List.set_cons_succ]
    refine wpAnyH_ready (rs:= [3,5]) (by kernel_rfl) (by simp) ?_
    refine(AllReadyH.cons (o:=⟨some 35,_,_,_,_,_⟩) rfl (fun K hK=> ?_) (AllReadyH.cons (o:=⟨some 7,_,_,_,_,_⟩) rfl (fun K hK=> ?_) AllReadyH.nil))
    ·go_simp
     refine(lay_any M' E' _ q1 q2 q3 q4).mono ?_
     rintro e w2 ⟨rfl,hB2⟩
     have d0:=World.dec.below d0 hB2 d0.lt
     have d1:=World.dec.below d1 hB2 d1.lt
     have nA:=World.num.below nA hB2 nA.lt
     have hB:=hB.trans (hB2.mono hB.size)
     refine hK.out _ _ ⟨d0.c0,d0.c1,d1.c0,d1.c1⟩ (fun hHeld=> ?_)
     clear hK K hHeld
     try simp only[Act.put,List.setIfInBounds_toArray,List.set_cons_zero,List.set_cons_succ]
     refine wpAnyH_ready (rs:= [5]) (by kernel_rfl) (by simp) ?_
     refine(AllReadyH.cons (o:=⟨some 7,_,_,_,_,_⟩) rfl (fun K hK=> ?_) AllReadyH.nil)
     rw[if_pos (by rfl)]
     refine op_alloc56 rfl ?_
     obtain⟨gB,nB,bB,hgB⟩:=World.new_of d1
     have d0:=World.dec.alloc d0 (.cells (numF false z96 false) 105)
     have d1:=World.dec.alloc d1 (.cells (numF false z96 false) 105)
     have hAB:gA<gB:=by rw[←hgB];exact nA.lt
     have nA:=World.num.alloc nA (.cells (numF false z96 false) 105)
     have hB:=Below.alloc hB hB.size (.cells (numF false z96 false) 105)
     rw[hgB]
     clear hgB
     refine hK.out _ _ ⟨d0.c0,d0.c1,d1.c0,d1.c1⟩ (fun hHeld=> ?_)
     clear hK K hHeld
     try simp only[Act.put,List.setIfInBounds_toArray,List.set_cons_zero,List.set_cons_succ]
     refine wpAnyH_ready (rs:= [6]) (by kernel_rfl) (by simp) ?_
     refine(AllReadyH.cons (o:=⟨none,_,_,_,_,_⟩) rfl (fun K hK=> ?_) AllReadyH.nil)
     rw[if_pos (by rfl)]
     refine op_store56 rfl rfl rfl nA ?_
     intro w3 n3 g3 z3
     have d0:=World.dec.grown d0 g3 (by simp;omega)
     have d1:=World.dec.grown d1 g3 (by simp;omega)
     have nB:=World.num.grown nB g3 (by simp;omega)
     have hB:=hB.grown g3 hB.size (fun k hk=>by cases hk;omega)
     clear nA
     have nA:=n3
     clear n3 g3 z3
     refine hK.out _ _ ⟨d0.c0,d0.c1,d1.c0,d1.c1⟩ (fun hHeld=> ?_)
     clear hK K hHeld
     try simp only[Act.put]
     refine wpAnyH_ready (rs:= [7]) (by kernel_rfl) (by simp) ?_
     refine(AllReadyH.cons (o:=⟨none,_,_,_,_,_⟩) rfl (fun K hK=> ?_) AllReadyH.nil)
     rw[if_pos (by rfl)]
     refine op_store56 rfl rfl rfl nB ?_
     intro w3 n3 g3 z3
     have d0:=World.dec.grown d0 g3 (by simp;omega)
     have d1:=World.dec.grown d1 g3 (by simp;omega)
     have nA:=World.num.grown nA g3 (by simp;omega)
     have hB:=hB.grown g3 hB.size (fun k hk=>by cases hk;omega)
     clear nB
     have nB:=n3
     clear n3 g3 z3
     refine hK.out _ _ ⟨d0.c0,d0.c1,d1.c0,d1.c1⟩ (fun hHeld=> ?_)
     clear hK K hHeld
     try simp only[Act.put]
     refine wpAnyH_done (by kernel_rfl) ?_ _
     try simp only[Act.put,List.setIfInBounds_toArray,List.set_cons_zero,List.set_cons_succ]
     go_wp2_with fail
     go_meet
     case rel=>exact⟨_,_,rfl,rfl,nA,nB,hB⟩
    ·rw[if_pos (by rfl)]
     refine op_alloc56 rfl ?_
     obtain⟨gB,nB,bB,hgB⟩:=World.new_of d1
     have d0:=World.dec.alloc d0 (.cells (numF false z96 false) 105)
     have d1:=World.dec.alloc d1 (.cells (numF false z96 false) 105)
     have hAB:gA<gB:=by rw[←hgB];exact nA.lt
     have nA:=World.num.alloc nA (.cells (numF false z96 false) 105)
     have hB:=Below.alloc hB hB.size (.cells (numF false z96 false) 105)
     rw[hgB]
     clear hgB
     refine hK.out _ _ ⟨d0.c0,d0.c1,d1.c0,d1.c1⟩ (fun hHeld=> ?_)
     clear hK K hHeld
     try simp only[Act.put,List.setIfInBounds_toArray,List.set_cons_zero,List.set_cons_succ]
     refine wpAnyH_ready (rs:= [3]) (by kernel_rfl) (by simp) ?_
     refine(AllReadyH.cons (o:=⟨some 35,_,_,_,_,_⟩) rfl (fun K hK=> ?_) AllReadyH.nil)
     go_simp
     refine(lay_any M' E' _ q1 q2 q3 q4).mono ?_
     rintro e w2 ⟨rfl,hB2⟩
     have d0:=World.dec.below d0 hB2 d0.lt
     have d1:=World.dec.below d1 hB2 d1.lt
     have nA:=World.num.below nA hB2 nA.lt
     have nB:=World.num.below nB hB2 nB.lt
     have hB:=hB.trans (hB2.mono hB.size)
     refine hK.out _ _ ⟨d0.c0,d0.c1,d1.c0,d1.c1⟩ (fun hHeld=> ?_)
     clear hK K hHeld
     try simp only[Act.put,List.setIfInBounds_toArray,List.set_cons_zero,List.set_cons_succ]
     refine wpAnyH_ready (rs:= [6]) (by kernel_rfl) (by simp) ?_
     refine(AllReadyH.cons (o:=⟨none,_,_,_,_,_⟩) rfl (fun K hK=> ?_) AllReadyH.nil)
     rw[if_pos (by rfl)]
     refine op_store56 rfl rfl rfl nA ?_
     intro w3 n3 g3 z3
     have d0:=World.dec.grown d0 g3 (by simp;omega)
     have d1:=World.dec.grown d1 g3 (by simp;omega)
     have nB:=World.num.grown nB g3 (by simp;omega)
     have hB:=hB.grown g3 hB.size (fun k hk=>by cases hk;omega)
     clear nA
     have nA:=n3
     clear n3 g3 z3
     refine hK.out _ _ ⟨d0.c0,d0.c1,d1.c0,d1.c1⟩ (fun hHeld=> ?_)
     clear hK K hHeld
     try simp only[Act.put]
     refine wpAnyH_ready (rs:= [7]) (by kernel_rfl) (by simp) ?_
     refine(AllReadyH.cons (o:=⟨none,_,_,_,_,_⟩) rfl (fun K hK=> ?_) AllReadyH.nil)
     rw[if_pos (by rfl)]
     refine op_store56 rfl rfl rfl nB ?_
     intro w3 n3 g3 z3
     have d0:=World.dec.grown d0 g3 (by simp;omega)
     have d1:=World.dec.grown d1 g3 (by simp;omega)
     have nA:=World.num.grown nA g3 (by simp;omega)
     have hB:=hB.grown g3 hB.size (fun k hk=>by cases hk;omega)
     clear nB
     have nB:=n3
     clear n3 g3 z3
     refine hK.out _ _ ⟨d0.c0,d0.c1,d1.c0,d1.c1⟩ (fun hHeld=> ?_)
     clear hK K hHeld
     try simp only[Act.put]
     refine wpAnyH_done (by kernel_rfl) ?_ _
     try simp only[Act.put,List.setIfInBounds_toArray,List.set_cons_zero,List.set_cons_succ]
     go_wp2_with fail
     go_meet
     case rel=>exact⟨_,_,rfl,rfl,nA,nB,hB⟩
   ·rw[if_pos (by rfl)]
    refine op_alloc56 rfl ?_
    obtain⟨gB,nB,bB,hgB⟩:=World.new_of d1
    have d0:=World.dec.alloc d0 (.cells (numF false z96 false) 105)
    have d1:=World.dec.alloc d1 (.cells (numF false z96 false) 105)
    have hB:=Below.alloc hB hB.size (.cells (numF false z96 false) 105)
    rw[hgB]
    clear hgB
    refine hK.out _ _ ⟨d0.c0,d0.c1,d1.c0,d1.c1⟩ (fun hHeld=> ?_)
    clear hK K hHeld
    try simp only[Act.put,List.setIfInBounds_toArray,List.set_cons_zero,List.set_cons_succ]
    refine wpAnyH_ready (rs:= [3,4]) (by kernel_rfl) (by simp) ?_
    refine(AllReadyH.cons (o:=⟨some 35,_,_,_,_,_⟩) rfl (fun K hK=> ?_) (AllReadyH.cons (o:=⟨some 6,_,_,_,_,_⟩) rfl (fun K hK=> ?_) AllReadyH.nil))
    ·go_simp
     refine(lay_any M' E' _ q1 q2 q3 q4).mono ?_
     rintro e w2 ⟨rfl,hB2⟩
     have d0:=World.dec.below d0 hB2 d0.lt
     have d1:=World.dec.below d1 hB2 d1.lt
     have nB:=World.num.below nB hB2 nB.lt
     have hB:=hB.trans (hB2.mono hB.size)
     refine hK.out _ _ ⟨d0.c0,d0.c1,d1.c0,d1.c1⟩ (fun hHeld=> ?_)
     clear hK K hHeld
     try simp only[Act.put,List.setIfInBounds_toArray,List.set_cons_zero,List.set_cons_succ]
     refine wpAnyH_ready (rs:= [4]) (by kernel_rfl) (by simp) ?_
     refine(AllReadyH.cons (o:=⟨some 6,_,_,_,_,_⟩) rfl (fun K hK=> ?_) AllReadyH.nil)
     rw[if_pos (by rfl)]
     refine op_alloc56 rfl ?_
     obtain⟨gA,nA,bA,hgA⟩:=World.new_of d1
     have d0:=World.dec.alloc d0 (.cells (numF false z96 false) 105)
     have d1:=World.dec.alloc d1 (.cells (numF false z96 false) 105)
     have hAB:gB<gA:=by rw[←hgA];exact nB.lt
     have nB:=World.num.alloc nB (.cells (numF false z96 false) 105)
     have hB:=Below.alloc hB hB.size (.cells (numF false z96 false) 105)
     rw[hgA]
     clear hgA
     refine hK.out _ _ ⟨d0.c0,d0.c1,d1.c0,d1.c1⟩ (fun hHeld=> ?_)
     clear hK K hHeld
     try simp only[Act.put,List.setIfInBounds_toArray,List.set_cons_zero,List.set_cons_succ]
     refine wpAnyH_ready (rs:= [6]) (by kernel_rfl) (by simp) ?_
     refine(AllReadyH.cons (o:=⟨none,_,_,_,_,_⟩) rfl (fun K hK=> ?_) AllReadyH.nil)
     rw[if_pos (by rfl)]
     refine op_store56 rfl rfl rfl nA ?_
     intro w3 n3 g3 z3
     have d0:=World.dec.grown d0 g3 (by simp;omega)
     have d1:=World.dec.grown d1 g3 (by simp;omega)
     have nB:=World.num.grown nB g3 (by simp;omega)
     have hB:=hB.grown g3 hB.size (fun k hk=>by cases hk;omega)
     clear nA
     have nA:=n3
     clear n3 g3 z3
     refine hK.out _ _ ⟨d0.c0,d0.c1,d1.c0,d1.c1⟩ (fun hHeld=> ?_)
     clear hK K hHeld
     try simp only[Act.put]
     refine wpAnyH_ready (rs:= [7]) (by kernel_rfl) (by simp) ?_
     refine(AllReadyH.cons (o:=⟨none,_,_,_,_,_⟩) rfl (fun K hK=> ?_) AllReadyH.nil)
     rw[if_pos (by rfl)]
     refine op_store56 rfl rfl rfl nB ?_
     intro w3 n3 g3 z3
     have d0:=World.dec.grown d0 g3 (by simp;omega)
     have d1:=World.dec.grown d1 g3 (by simp;omega)
     have nA:=World.num.grown nA g3 (by simp;omega)
     have hB:=hB.grown g3 hB.size (fun k hk=>by cases hk;omega)
     clear nB
     have nB:=n3
     clear n3 g3 z3
     refine hK.out _ _ ⟨d0.c0,d0.c1,d1.c0,d1.c1⟩ (fun hHeld=> ?_)
     clear hK K hHeld
     try simp only[Act.put]
     refine wpAnyH_done (by kernel_rfl) ?_ _
     try simp only[Act.put,List.setIfInBounds_toArray,List.set_cons_zero,List.set_cons_succ]
     go_wp2_with fail
     go_meet
     case rel=>exact⟨_,_,rfl,rfl,nA,nB,hB⟩
    ·rw[if_pos (by rfl)]
     refine op_alloc56 rfl ?_
     obtain⟨gA,nA,bA,hgA⟩:=World.new_of d1
     have d0:=World.dec.alloc d0 (.cells (numF false z96 false) 105)
     have d1:=World.dec.alloc d1 (.cells (numF false z96 false) 105)
     have hAB:gB<gA:=by rw[←hgA];exact nB.lt
     have nB:=World.num.alloc nB (.cells (numF false z96 false) 105)
     have hB:=Below.alloc hB hB.size (.cells (numF false z96 false) 105)
     rw[hgA]
     clear hgA
     refine hK.out _ _ ⟨d0.c0,d0.c1,d1.c0,d1.c1⟩ (fun hHeld=> ?_)
     clear hK K hHeld
     try simp only[Act.put,List.setIfInBounds_toArray,List.set_cons_zero,List.set_cons_succ]
     refine wpAnyH_ready (rs:= [3]) (by kernel_rfl) (by simp) ?_
     refine(AllReadyH.cons (o:=⟨some 35,_,_,_,_,_⟩) rfl (fun K hK=> ?_) AllReadyH.nil)
     go_simp
     refine(lay_any M' E' _ q1 q2 q3 q4).mono ?_
     rintro e w2 ⟨rfl,hB2⟩
     have d0:=World.dec.below d0 hB2 d0.lt
     have d1:=World.dec.below d1 hB2 d1.lt
     have nA:=World.num.below nA hB2 nA.lt
     have nB:=World.num.below nB hB2 nB.lt
     have hB:=hB.trans (hB2.mono hB.size)
     refine hK.out _ _ ⟨d0.c0,d0.c1,d1.c0,d1.c1⟩ (fun hHeld=> ?_)
     clear hK K hHeld
     try simp only[Act.put,List.setIfInBounds_toArray,List.set_cons_zero,List.set_cons_succ]
     refine wpAnyH_ready (rs:= [6]) (by kernel_rfl) (by simp) ?_
     refine(AllReadyH.cons (o:=⟨none,_,_,_,_,_⟩) rfl (fun K hK=> ?_) AllReadyH.nil)
     rw[if_pos (by rfl)]
     refine op_store56 rfl rfl rfl nA ?_
     intro w3 n3 g3 z3
     have d0:=World.dec.grown d0 g3 (by simp;omega)
     have d1:=World.dec.grown d1 g3 (by simp;omega)
     have nB:=World.num.grown nB g3 (by simp;omega)
     have hB:=hB.grown g3 hB.size (fun k hk=>by cases hk;omega)
     clear nA
     have nA:=n3
     clear n3 g3 z3
     refine hK.out _ _ ⟨d0.c0,d0.c1,d1.c0,d1.c1⟩ (fun hHeld=> ?_)
     clear hK K hHeld
     try simp only[Act.put]
     refine wpAnyH_ready (rs:= [7]) (by kernel_rfl) (by simp) ?_
     refine(AllReadyH.cons (o:=⟨none,_,_,_,_,_⟩) rfl (fun K hK=> ?_) AllReadyH.nil)
     rw[if_pos (by rfl)]
     refine op_store56 rfl rfl rfl nB ?_
     intro w3 n3 g3 z3
     have d0:=World.dec.grown d0 g3 (by simp;omega)
     have d1:=World.dec.grown d1 g3 (by simp;omega)
     have nA:=World.num.grown nA g3 (by simp;omega)
     have hB:=hB.grown g3 hB.size (fun k hk=>by cases hk;omega)
     clear nB
     have nB:=n3
     clear n3 g3 z3
     refine hK.out _ _ ⟨d0.c0,d0.c1,d1.c0,d1.c1⟩ (fun hHeld=> ?_)
     clear hK K hHeld
     try simp only[Act.put]
     refine wpAnyH_done (by kernel_rfl) ?_ _
     try simp only[Act.put,List.setIfInBounds_toArray,List.set_cons_zero,List.set_cons_succ]
     go_wp2_with fail
     go_meet
     case rel=>exact⟨_,_,rfl,rfl,nA,nB,hB⟩
  ·rw[if_pos (by rfl)]
   refine op_alloc56 rfl ?_
   obtain⟨gA,nA,bA,hgA⟩:=World.new_of d1
   have d0:=World.dec.alloc d0 (.cells (numF false z96 false) 105)
   have d1:=World.dec.alloc d1 (.cells (numF false z96 false) 105)
   have hB:=Below.alloc hB hB.size (.cells (numF false z96 false) 105)
   rw[hgA]
   clear hgA
   refine hK.out _ _ ⟨d0.c0,d0.c1,d1.c0,d1.c1⟩ (fun hHeld=> ?_)
   clear hK K hHeld
   try simp only[Act.put]
   refine wpAnyH_ready (rs:= [1,5]) (by kernel_rfl) (by simp) ?_
   refine(AllReadyH.cons (o:=⟨some 33,_,_,_,_,_⟩) rfl (fun K hK=> ?_) (AllReadyH.cons (o:=⟨some 7,_,_,_,_,_⟩) rfl (fun K hK=> ?_) AllReadyH.nil))
   ·go_simp
    refine(lay_any M E _ r1 r2 r3 r4).mono ?_
    rintro e w2 ⟨rfl,hB2⟩
    have d0:=World.dec.below d0 hB2 d0.lt
    have d1:=World.dec.below d1 hB2 d1.lt
    have nA:=World.num.below nA hB2 nA.lt
    have hB:=hB.trans (hB2.mono hB.size)
    refine hK.out _ _ ⟨d0.c0,d0.c1,d1.c0,d1.c1⟩ (fun hHeld=> ?_)
    clear hK K hHeld
    try simp only[Act.put,List.setIfInBounds_toArray,List.set_cons_zero,List.set_cons_succ]
    refine wpAnyH_ready (rs:= [3,5]) (by kernel_rfl) (by simp) ?_
    refine(AllReadyH.cons (o:=⟨some 35,_,_,_,_,_⟩) rfl (fun K hK=> ?_) (AllReadyH.cons (o:=⟨some 7,_,_,_,_,_⟩) rfl (fun K hK=> ?_) AllReadyH.nil))
    ·go_simp
     refine(lay_any M' E' _ q1 q2 q3 q4).mono ?_
     rintro e w2 ⟨rfl,hB2⟩
     have d0:=World.dec.below d0 hB2 d0.lt
     have d1:=World.dec.below d1 hB2 d1.lt
     have nA:=World.num.below nA hB2 nA.lt
     have hB:=hB.trans (hB2.mono hB.size)
     refine hK.out _ _ ⟨d0.c0,d0.c1,d1.c0,d1.c1⟩ (fun hHeld=> ?_)
     clear hK K hHeld
     try simp only[Act.put,List.setIfInBounds_toArray,List.set_cons_zero,List.set_cons_succ]
     refine wpAnyH_ready (rs:= [5]) (by kernel_rfl) (by simp) ?_
     refine(AllReadyH.cons (o:=⟨some 7,_,_,_,_,_⟩) rfl (fun K hK=> ?_) AllReadyH.nil)
     rw[if_pos (by rfl)]
     refine op_alloc56 rfl ?_
     obtain⟨gB,nB,bB,hgB⟩:=World.new_of d1
     have d0:=World.dec.alloc d0 (.cells (numF false z96 false) 105)
     have d1:=World.dec.alloc d1 (.cells (numF false z96 false) 105)
     have hAB:gA<gB:=by rw[←hgB];exact nA.lt
     have nA:=World.num.alloc nA (.cells (numF false z96 false) 105)
     have hB:=Below.alloc hB hB.size (.cells (numF false z96 false) 105)
     rw[hgB]
     clear hgB
     refine hK.out _ _ ⟨d0.c0,d0.c1,d1.c0,d1.c1⟩ (fun hHeld=> ?_)
     clear hK K hHeld
     try simp only[Act.put,List.setIfInBounds_toArray,List.set_cons_zero,List.set_cons_succ]
     refine wpAnyH_ready (rs:= [6]) (by kernel_rfl) (by simp) ?_
     refine(AllReadyH.cons (o:=⟨none,_,_,_,_,_⟩) rfl (fun K hK=> ?_) AllReadyH.nil)
     rw[if_pos (by rfl)]
     refine op_store56 rfl rfl rfl nA ?_
     intro w3 n3 g3 z3
     have d0:=World.dec.grown d0 g3 (by simp;omega)
     have d1:=World.dec.grown d1 g3 (by simp;omega)
     have nB:=World.num.grown nB g3 (by simp;omega)
     have hB:=hB.grown g3 hB.size (fun k hk=>by cases hk;omega)
     clear nA
     have nA:=n3
     clear n3 g3 z3
     refine hK.out _ _ ⟨d0.c0,d0.c1,d1.c0,d1.c1⟩ (fun hHeld=> ?_)
     clear hK K hHeld
     try simp only[Act.put]
     refine wpAnyH_ready (rs:= [7]) (by kernel_rfl) (by simp) ?_
     refine(AllReadyH.cons (o:=⟨none,_,_,_,_,_⟩) rfl (fun K hK=> ?_) AllReadyH.nil)
     rw[if_pos (by rfl)]
     refine op_store56 rfl rfl rfl nB ?_
     intro w3 n3 g3 z3
     have d0:=World.dec.grown d0 g3 (by simp;omega)
     have d1:=World.dec.grown d1 g3 (by simp;omega)
     have nA:=World.num.grown nA g3 (by simp;omega)
     have hB:=hB.grown g3 hB.size (fun k hk=>by cases hk;omega)
     clear nB
     have nB:=n3
     clear n3 g3 z3
     refine hK.out _ _ ⟨d0.c0,d0.c1,d1.c0,d1.c1⟩ (fun hHeld=> ?_)
     clear hK K hHeld
     try simp only[Act.put]
     refine wpAnyH_done (by kernel_rfl) ?_ _
     try simp only[Act.put,List.setIfInBounds_toArray,List.set_cons_zero,List.set_cons_succ]
     go_wp2_with fail
     go_meet
     case rel=>exact⟨_,_,rfl,rfl,nA,nB,hB⟩
    ·rw[if_pos (by rfl)]
     refine op_alloc56 rfl ?_
     obtain⟨gB,nB,bB,hgB⟩:=World.new_of d1
     have d0:=World.dec.alloc d0 (.cells (numF false z96 false) 105)
     have d1:=World.dec.alloc d1 (.cells (numF false z96 false) 105)
     have hAB:gA<gB:=by rw[←hgB];exact nA.lt
     have nA:=World.num.alloc nA (.cells (numF false z96 false) 105)
     have hB:=Below.alloc hB hB.size (.cells (numF false z96 false) 105)
     rw[hgB]
     clear hgB
     refine hK.out _ _ ⟨d0.c0,d0.c1,d1.c0,d1.c1⟩ (fun hHeld=> ?_)
     clear hK K hHeld
     try simp only[Act.put,List.setIfInBounds_toArray,List.set_cons_zero,List.set_cons_succ]
     refine wpAnyH_ready (rs:= [3]) (by kernel_rfl) (by simp) ?_
     refine(AllReadyH.cons (o:=⟨some 35,_,_,_,_,_⟩) rfl (fun K hK=> ?_) AllReadyH.nil)
     go_simp
     refine(lay_any M' E' _ q1 q2 q3 q4).mono ?_
     rintro e w2 ⟨rfl,hB2⟩
     have d0:=World.dec.below d0 hB2 d0.lt
     have d1:=World.dec.below d1 hB2 d1.lt
     have nA:=World.num.below nA hB2 nA.lt
     have nB:=World.num.below nB hB2 nB.lt
     have hB:=hB.trans (hB2.mono hB.size)
     refine hK.out _ _ ⟨d0.c0,d0.c1,d1.c0,d1.c1⟩ (fun hHeld=> ?_)
     clear hK K hHeld
     try simp only[Act.put,List.setIfInBounds_toArray,List.set_cons_zero,List.set_cons_succ]
     refine wpAnyH_ready (rs:= [6]) (by kernel_rfl) (by simp) ?_
     refine(AllReadyH.cons (o:=⟨none,_,_,_,_,_⟩) rfl (fun K hK=> ?_) AllReadyH.nil)
     rw[if_pos (by rfl)]
     refine op_store56 rfl rfl rfl nA ?_
     intro w3 n3 g3 z3
     have d0:=World.dec.grown d0 g3 (by simp;omega)
     have d1:=World.dec.grown d1 g3 (by simp;omega)
     have nB:=World.num.grown nB g3 (by simp;omega)
     have hB:=hB.grown g3 hB.size (fun k hk=>by cases hk;omega)
     clear nA
     have nA:=n3
     clear n3 g3 z3
     refine hK.out _ _ ⟨d0.c0,d0.c1,d1.c0,d1.c1⟩ (fun hHeld=> ?_)
     clear hK K hHeld
     try simp only[Act.put]
     refine wpAnyH_ready (rs:= [7]) (by kernel_rfl) (by simp) ?_
     refine(AllReadyH.cons (o:=⟨none,_,_,_,_,_⟩) rfl (fun K hK=> ?_) AllReadyH.nil)
     rw[if_pos (by rfl)]
     refine op_store56 rfl rfl rfl nB ?_
     intro w3 n3 g3 z3
     have d0:=World.dec.grown d0 g3 (by simp;omega)
     have d1:=World.dec.grown d1 g3 (by simp;omega)
     have nA:=World.num.grown nA g3 (by simp;omega)
     have hB:=hB.grown g3 hB.size (fun k hk=>by cases hk;omega)
     clear nB
     have nB:=n3
     clear n3 g3 z3
     refine hK.out _ _ ⟨d0.c0,d0.c1,d1.c0,d1.c1⟩ (fun hHeld=> ?_)
     clear hK K hHeld
     try simp only[Act.put]
     refine wpAnyH_done (by kernel_rfl) ?_ _
     try simp only[Act.put,List.setIfInBounds_toArray,List.set_cons_zero,List.set_cons_succ]
     go_wp2_with fail
     go_meet
     case rel=>exact⟨_,_,rfl,rfl,nA,nB,hB⟩
   ·rw[if_pos (by rfl)]
    refine op_alloc56 rfl ?_
    obtain⟨gB,nB,bB,hgB⟩:=World.new_of d1
    have d0:=World.dec.alloc d0 (.cells (numF false z96 false) 105)
    have d1:=World.dec.alloc d1 (.cells (numF false z96 false) 105)
    have hAB:gA<gB:=by rw[←hgB];exact nA.lt
    have nA:=World.num.alloc nA (.cells (numF false z96 false) 105)
    have hB:=Below.alloc hB hB.size (.cells (numF false z96 false) 105)
    rw[hgB]
    clear hgB
    refine hK.out _ _ ⟨d0.c0,d0.c1,d1.c0,d1.c1⟩ (fun hHeld=> ?_)
    clear hK K hHeld
    try simp only[Act.put]
    refine wpAnyH_ready (rs:= [1]) (by kernel_rfl) (by simp) ?_
    refine(AllReadyH.cons (o:=⟨some 33,_,_,_,_,_⟩) rfl (fun K hK=> ?_) AllReadyH.nil)
    go_simp
    refine(lay_any M E _ r1 r2 r3 r4).mono ?_
    rintro e w2 ⟨rfl,hB2⟩
    have d0:=World.dec.below d0 hB2 d0.lt
    have d1:=World.dec.below d1 hB2 d1.lt
    have nA:=World.num.below nA hB2 nA.lt
    have nB:=World.num.below nB hB2 nB.lt
    have hB:=hB.trans (hB2.mono hB.size)
    refine hK.out _ _ ⟨d0.c0,d0.c1,d1.c0,d1.c1⟩ (fun hHeld=> ?_)
    clear hK K hHeld
    try simp only[Act.put,List.setIfInBounds_toArray,List.set_cons_zero,List.set_cons_succ]
    refine wpAnyH_ready (rs:= [3]) (by kernel_rfl) (by simp) ?_
    refine(AllReadyH.cons (o:=⟨some 35,_,_,_,_,_⟩) rfl (fun K hK=> ?_) AllReadyH.nil)
    go_simp
    refine(lay_any M' E' _ q1 q2 q3 q4).mono ?_
    rintro e w2 ⟨rfl,hB2⟩
    have d0:=World.dec.below d0 hB2 d0.lt
    have d1:=World.dec.below d1 hB2 d1.lt
    have nA:=World.num.below nA hB2 nA.lt
    have nB:=World.num.below nB hB2 nB.lt
    have hB:=hB.trans (hB2.mono hB.size)
    refine hK.out _ _ ⟨d0.c0,d0.c1,d1.c0,d1.c1⟩ (fun hHeld=> ?_)
    clear hK K hHeld
    try simp only[Act.put,List.setIfInBounds_toArray,List.set_cons_zero,List.set_cons_succ]
    refine wpAnyH_ready (rs:= [6]) (by kernel_rfl) (by simp) ?_
    refine(AllReadyH.cons (o:=⟨none,_,_,_,_,_⟩) rfl (fun K hK=> ?_) AllReadyH.nil)
    rw[if_pos (by rfl)]
    refine op_store56 rfl rfl rfl nA ?_
    intro w3 n3 g3 z3
    have d0:=World.dec.grown d0 g3 (by simp;omega)
    have d1:=World.dec.grown d1 g3 (by simp;omega)
    have nB:=World.num.grown nB g3 (by simp;omega)
    have hB:=hB.grown g3 hB.size (fun k hk=>by cases hk;omega)
    clear nA
    have nA:=n3
    clear n3 g3 z3
    refine hK.out _ _ ⟨d0.c0,d0.c1,d1.c0,d1.c1⟩ (fun hHeld=> ?_)
    clear hK K hHeld
    try simp only[Act.put]
    refine wpAnyH_ready (rs:= [7]) (by kernel_rfl) (by simp) ?_
    refine(AllReadyH.cons (o:=⟨none,_,_,_,_,_⟩) rfl (fun K hK=> ?_) AllReadyH.nil)
    rw[if_pos (by rfl)]
    refine op_store56 rfl rfl rfl nB ?_
    intro w3 n3 g3 z3
    have d0:=World.dec.grown d0 g3 (by simp;omega)
    have d1:=World.dec.grown d1 g3 (by simp;omega)
    have nA:=World.num.grown nA g3 (by simp;omega)
    have hB:=hB.grown g3 hB.size (fun k hk=>by cases hk;omega)
    clear nB
    have nB:=n3
    clear n3 g3 z3
    refine hK.out _ _ ⟨d0.c0,d0.c1,d1.c0,d1.c1⟩ (fun hHeld=> ?_)
    clear hK K hHeld
    try simp only[Act.put]
    refine wpAnyH_done (by kernel_rfl) ?_ _
    try simp only[Act.put,List.setIfInBounds_toArray,List.set_cons_zero,List.set_cons_succ]
    go_wp2_with fail
    go_meet
    case rel=>exact⟨_,_,rfl,rfl,nA,nB,hB⟩
  ·rw[if_pos (by rfl)]
   refine op_alloc56 rfl ?_
   obtain⟨gB,nB,bB,hgB⟩:=World.new_of d1
   have d0:=World.dec.alloc d0 (.cells (numF false z96 false) 105)
   have d1:=World.dec.alloc d1 (.cells (numF false z96 false) 105)
   have hB:=Below.alloc hB hB.size (.cells (numF false z96 false) 105)
   rw[hgB]
   clear hgB
   refine hK.out _ _ ⟨d0.c0,d0.c1,d1.c0,d1.c1⟩ (fun hHeld=> ?_)
   clear hK K hHeld
   try simp only[Act.put]
   refine wpAnyH_ready (rs:= [1,4]) (by kernel_rfl) (by simp) ?_
   refine(AllReadyH.cons (o:=⟨some 33,_,_,_,_,_⟩) rfl (fun K hK=> ?_) (AllReadyH.cons (o:=⟨some 6,_,_,_,_,_⟩) rfl (fun K hK=> ?_) AllReadyH.nil))
   ·go_simp
    refine(lay_any M E _ r1 r2 r3 r4).mono ?_
    rintro e w2 ⟨rfl,hB2⟩
    have d0:=World.dec.below d0 hB2 d0.lt
    have d1:=World.dec.below d1 hB2 d1.lt
    have nB:=World.num.below nB hB2 nB.lt
    have hB:=hB.trans (hB2.mono hB.size)
    refine hK.out _ _ ⟨d0.c0,d0.c1,d1.c0,d1.c1⟩ (fun hHeld=> ?_)
    clear hK K hHeld
    try simp only[Act.put,List.setIfInBounds_toArray,List.set_cons_zero,List.set_cons_succ]
    refine wpAnyH_ready (rs:= [3,4]) (by kernel_rfl) (by simp) ?_
    refine(AllReadyH.cons (o:=⟨some 35,_,_,_,_,_⟩) rfl (fun K hK=> ?_) (AllReadyH.cons (o:=⟨some 6,_,_,_,_,_⟩) rfl (fun K hK=> ?_) AllReadyH.nil))
    ·go_simp
     refine(lay_any M' E' _ q1 q2 q3 q4).mono ?_
     rintro e w2 ⟨rfl,hB2⟩
     have d0:=World.dec.below d0 hB2 d0.lt
     have d1:=World.dec.below d1 hB2 d1.lt
     have nB:=World.num.below nB hB2 nB.lt
     have hB:=hB.trans (hB2.mono hB.size)
     refine hK.out _ _ ⟨d0.c0,d0.c1,d1.c0,d1.c1⟩ (fun hHeld=> ?_)
     clear hK K hHeld
     try simp only[Act.put,List.setIfInBounds_toArray,List.set_cons_zero,List.set_cons_succ]
     refine wpAnyH_ready (rs:= [4]) (by kernel_rfl) (by simp) ?_
     refine(AllReadyH.cons (o:=⟨some 6,_,_,_,_,_⟩) rfl (fun K hK=> ?_) AllReadyH.nil)
     rw[if_pos (by rfl)]
     refine op_alloc56 rfl ?_
     obtain⟨gA,nA,bA,hgA⟩:=World.new_of d1
     have d0:=World.dec.alloc d0 (.cells (numF false z96 false) 105)
     have d1:=World.dec.alloc d1 (.cells (numF false z96 false) 105)
     have hAB:gB<gA:=by rw[←hgA];exact nB.lt
     have nB:=World.num.alloc nB (.cells (numF false z96 false) 105)
     have hB:=Below.alloc hB hB.size (.cells (numF false z96 false) 105)
     rw[hgA]
     clear hgA
     refine hK.out _ _ ⟨d0.c0,d0.c1,d1.c0,d1.c1⟩ (fun hHeld=> ?_)
     clear hK K hHeld
     try simp only[Act.put,List.setIfInBounds_toArray,List.set_cons_zero,List.set_cons_succ]
     refine wpAnyH_ready (rs:= [6]) (by kernel_rfl) (by simp) ?_
     refine(AllReadyH.cons (o:=⟨none,_,_,_,_,_⟩) rfl (fun K hK=> ?_) AllReadyH.nil)
     rw[if_pos (by rfl)]
     refine op_store56 rfl rfl rfl nA ?_
     intro w3 n3 g3 z3
     have d0:=World.dec.grown d0 g3 (by simp;omega)
     have d1:=World.dec.grown d1 g3 (by simp;omega)
     have nB:=World.num.grown nB g3 (by simp;omega)
     have hB:=hB.grown g3 hB.size (fun k hk=>by cases hk;omega)
     clear nA
     have nA:=n3
     clear n3 g3 z3
     refine hK.out _ _ ⟨d0.c0,d0.c1,d1.c0,d1.c1⟩ (fun hHeld=> ?_)
     clear hK K hHeld
     try simp only[Act.put]
     refine wpAnyH_ready (rs:= [7]) (by kernel_rfl) (by simp) ?_
     refine(AllReadyH.cons (o:=⟨none,_,_,_,_,_⟩) rfl (fun K hK=> ?_) AllReadyH.nil)
     rw[if_pos (by rfl)]
     refine op_store56 rfl rfl rfl nB ?_
     intro w3 n3 g3 z3
     have d0:=World.dec.grown d0 g3 (by simp;omega)
     have d1:=World.dec.grown d1 g3 (by simp;omega)
     have nA:=World.num.grown nA g3 (by simp;omega)
     have hB:=hB.grown g3 hB.size (fun k hk=>by cases hk;omega)
     clear nB
     have nB:=n3
     clear n3 g3 z3
     refine hK.out _ _ ⟨d0.c0,d0.c1,d1.c0,d1.c1⟩ (fun hHeld=> ?_)
     clear hK K hHeld
     try simp only[Act.put]
     refine wpAnyH_done (by kernel_rfl) ?_ _
     try simp only[Act.put,List.setIfInBounds_toArray,List.set_cons_zero,List.set_cons_succ]
     go_wp2_with fail
     go_meet
     case rel=>exact⟨_,_,rfl,rfl,nA,nB,hB⟩
    ·rw[if_pos (by rfl)]
     refine op_alloc56 rfl ?_
     obtain⟨gA,nA,bA,hgA⟩:=World.new_of d1
     have d0:=World.dec.alloc d0 (.cells (numF false z96 false) 105)
     have d1:=World.dec.alloc d1 (.cells (numF false z96 false) 105)
     have hAB:gB<gA:=by rw[←hgA];exact nB.lt
     have nB:=World.num.alloc nB (.cells (numF false z96 false) 105)
     have hB:=Below.alloc hB hB.size (.cells (numF false z96 false) 105)
     rw[hgA]
     clear hgA
     refine hK.out _ _ ⟨d0.c0,d0.c1,d1.c0,d1.c1⟩ (fun hHeld=> ?_)
     clear hK K hHeld
     try simp only[Act.put,List.setIfInBounds_toArray,List.set_cons_zero,List.set_cons_succ]
     refine wpAnyH_ready (rs:= [3]) (by kernel_rfl) (by simp) ?_
     refine(AllReadyH.cons (o:=⟨some 35,_,_,_,_,_⟩) rfl (fun K hK=> ?_) AllReadyH.nil)
     go_simp
     refine(lay_any M' E' _ q1 q2 q3 q4).mono ?_
     rintro e w2 ⟨rfl,hB2⟩
     have d0:=World.dec.below d0 hB2 d0.lt
     have d1:=World.dec.below d1 hB2 d1.lt
     have nA:=World.num.below nA hB2 nA.lt
     have nB:=World.num.below nB hB2 nB.lt
     have hB:=hB.trans (hB2.mono hB.size)
     refine hK.out _ _ ⟨d0.c0,d0.c1,d1.c0,d1.c1⟩ (fun hHeld=> ?_)
     clear hK K hHeld
     try simp only[Act.put,List.setIfInBounds_toArray,List.set_cons_zero,List.set_cons_succ]
     refine wpAnyH_ready (rs:= [6]) (by kernel_rfl) (by simp) ?_
     refine(AllReadyH.cons (o:=⟨none,_,_,_,_,_⟩) rfl (fun K hK=> ?_) AllReadyH.nil)
     rw[if_pos (by rfl)]
     refine op_store56 rfl rfl rfl nA ?_
     intro w3 n3 g3 z3
     have d0:=World.dec.grown d0 g3 (by simp;omega)
     have d1:=World.dec.grown d1 g3 (by simp;omega)
     have nB:=World.num.grown nB g3 (by simp;omega)
     have hB:=hB.grown g3 hB.size (fun k hk=>by cases hk;omega)
     clear nA
     have nA:=n3
     clear n3 g3 z3
     refine hK.out _ _ ⟨d0.c0,d0.c1,d1.c0,d1.c1⟩ (fun hHeld=> ?_)
     clear hK K hHeld
     try simp only[Act.put]
     refine wpAnyH_ready (rs:= [7]) (by kernel_rfl) (by simp) ?_
     refine(AllReadyH.cons (o:=⟨none,_,_,_,_,_⟩) rfl (fun K hK=> ?_) AllReadyH.nil)
     rw[if_pos (by rfl)]
     refine op_store56 rfl rfl rfl nB ?_
     intro w3 n3 g3 z3
     have d0:=World.dec.grown d0 g3 (by simp;omega)
     have d1:=World.dec.grown d1 g3 (by simp;omega)
     have nA:=World.num.grown nA g3 (by simp;omega)
     have hB:=hB.grown g3 hB.size (fun k hk=>by cases hk;omega)
     clear nB
     have nB:=n3
     clear n3 g3 z3
     refine hK.out _ _ ⟨d0.c0,d0.c1,d1.c0,d1.c1⟩ (fun hHeld=> ?_)
     clear hK K hHeld
     try simp only[Act.put]
     refine wpAnyH_done (by kernel_rfl) ?_ _
     try simp only[Act.put,List.setIfInBounds_toArray,List.set_cons_zero,List.set_cons_succ]
     go_wp2_with fail
     go_meet
     case rel=>exact⟨_,_,rfl,rfl,nA,nB,hB⟩
   ·rw[if_pos (by rfl)]
    refine op_alloc56 rfl ?_
    obtain⟨gA,nA,bA,hgA⟩:=World.new_of d1
    have d0:=World.dec.alloc d0 (.cells (numF false z96 false) 105)
    have d1:=World.dec.alloc d1 (.cells (numF false z96 false) 105)
    have hAB:gB<gA:=by rw[←hgA];exact nB.lt
    have nB:=World.num.alloc nB (.cells (numF false z96 false) 105)
    have hB:=Below.alloc hB hB.size (.cells (numF false z96 false) 105)
    rw[hgA]
    clear hgA
    refine hK.out _ _ ⟨d0.c0,d0.c1,d1.c0,d1.c1⟩ (fun hHeld=> ?_)
    clear hK K hHeld
    try simp only[Act.put]
    refine wpAnyH_ready (rs:= [1]) (by kernel_rfl) (by simp) ?_
    refine(AllReadyH.cons (o:=⟨some 33,_,_,_,_,_⟩) rfl (fun K hK=> ?_) AllReadyH.nil)
    go_simp
    refine(lay_any M E _ r1 r2 r3 r4).mono ?_
    rintro e w2 ⟨rfl,hB2⟩
    have d0:=World.dec.below d0 hB2 d0.lt
    have d1:=World.dec.below d1 hB2 d1.lt
    have nA:=World.num.below nA hB2 nA.lt
    have nB:=World.num.below nB hB2 nB.lt
    have hB:=hB.trans (hB2.mono hB.size)
    refine hK.out _ _ ⟨d0.c0,d0.c1,d1.c0,d1.c1⟩ (fun hHeld=> ?_)
    clear hK K hHeld
    try simp only[Act.put,List.setIfInBounds_toArray,List.set_cons_zero,List.set_cons_succ]
    refine wpAnyH_ready (rs:= [3]) (by kernel_rfl) (by simp) ?_
    refine(AllReadyH.cons (o:=⟨some 35,_,_,_,_,_⟩) rfl (fun K hK=> ?_) AllReadyH.nil)
    go_simp
    refine(lay_any M' E' _ q1 q2 q3 q4).mono ?_
    rintro e w2 ⟨rfl,hB2⟩
    have d0:=World.dec.below d0 hB2 d0.lt
    have d1:=World.dec.below d1 hB2 d1.lt
    have nA:=World.num.below nA hB2 nA.lt
    have nB:=World.num.below nB hB2 nB.lt
    have hB:=hB.trans (hB2.mono hB.size)
    refine hK.out _ _ ⟨d0.c0,d0.c1,d1.c0,d1.c1⟩ (fun hHeld=> ?_)
    clear hK K hHeld
    try simp only[Act.put,List.setIfInBounds_toArray,List.set_cons_zero,List.set_cons_succ]
    refine wpAnyH_ready (rs:= [6]) (by kernel_rfl) (by simp) ?_
    refine(AllReadyH.cons (o:=⟨none,_,_,_,_,_⟩) rfl (fun K hK=> ?_) AllReadyH.nil)
    rw[if_pos (by rfl)]
    refine op_store56 rfl rfl rfl nA ?_
    intro w3 n3 g3 z3
    have d0:=World.dec.grown d0 g3 (by simp;omega)
    have d1:=World.dec.grown d1 g3 (by simp;omega)
    have nB:=World.num.grown nB g3 (by simp;omega)
    have hB:=hB.grown g3 hB.size (fun k hk=>by cases hk;omega)
    clear nA
    have nA:=n3
    clear n3 g3 z3
    refine hK.out _ _ ⟨d0.c0,d0.c1,d1.c0,d1.c1⟩ (fun hHeld=> ?_)
    clear hK K hHeld
    try simp only[Act.put]
    refine wpAnyH_ready (rs:= [7]) (by kernel_rfl) (by simp) ?_
    refine(AllReadyH.cons (o:=⟨none,_,_,_,_,_⟩) rfl (fun K hK=> ?_) AllReadyH.nil)
    rw[if_pos (by rfl)]
    refine op_store56 rfl rfl rfl nB ?_
    intro w3 n3 g3 z3
    have d0:=World.dec.grown d0 g3 (by simp;omega)
    have d1:=World.dec.grown d1 g3 (by simp;omega)
    have nA:=World.num.grown nA g3 (by simp;omega)
    have hB:=hB.grown g3 hB.size (fun k hk=>by cases hk;omega)
    clear nB
    have nB:=n3
    clear n3 g3 z3
    refine hK.out _ _ ⟨d0.c0,d0.c1,d1.c0,d1.c1⟩ (fun hHeld=> ?_)
    clear hK K hHeld
    try simp only[Act.put]
    refine wpAnyH_done (by kernel_rfl) ?_ _
    try simp only[Act.put,List.setIfInBounds_toArray,List.set_cons_zero,List.set_cons_succ]
    go_wp2_with fail
    go_meet
    case rel=>exact⟨_,_,rfl,rfl,nA,nB,hB⟩
 case rest=>
 obtain⟨gA,gB,rfl,rfl,nA,nB,hB⟩:=hcut
 clear a0 a1 b0 b1
 go_wp2_with fail
 refine(greater_any _ _ _ _ _ _ _ _ _ nA nB).mono ?_
 rintro e w4 ⟨rfl,n4,rfl⟩
 have hB:=below_drewN hB n4
 obtain⟨s0,s1⟩:=signI_bd M
 cases hg:gtF (dg (layD M E)) (dg (layD M' E')) 96
 ·have Hg:=Lib.hid hg
  clear hg
  go_wp2_with fail
  go_ret
  exact⟨by rw[cmpS,Hg.out];rfl,hB⟩
 ·have Hg:=Lib.hid hg
  clear hg
  go_wp2_with fail
  go_ret
  exact⟨by rw[cmpS,Hg.out];rfl,hB⟩
/-- How two decimals stand. -/
def cmpR (M E M' E':Int):Int:=
 if M=M'∧E=E' then 0 else if M<0∧¬M'<0 then -1 else if ¬M<0∧M'<0 then 1
 else if M<0 then(if layD M' E'<layD M E then -1 else 1)else(if layD M' E'<layD M E then 1 else -1)
def cmpD (M E M' E':Int):Int:=if rightB M E=true∧rightB M' E'=true then cmpR M E M' E' else 0
theorem cmp_any (M E M' E':Int) (w:World) (h0: -9223372036854775808≤M) (h1:M≤9223372036854775807) (h0': -9223372036854775808≤M') (h1':M'≤9223372036854775807):
 Calls Tryz.prog 37 #[.agg #[.int .i64 M,.int .i64 E],.agg #[.int .i64 M',.int .i64 E']] w (CmpPost (cmpD M E M' E') w):=by
 unfold cmpD
 by_cases hr:rightB M E=true
 ·by_cases hr':rightB M' E'=true
  ·rw[if_pos ⟨hr,hr'⟩]
   unfold cmpR
   by_cases he:M=M'∧E=E'
   ·rw[if_pos he];obtain⟨rfl,rfl⟩:=he;exact cmp_eq M E w h0 h1 hr
   ·rw[if_neg he]
    have hde:(M==M'&&E==E')=false:=by rw[Bool.eq_false_iff];simpa using he
    have l1:layD M E<10 ^ 96:=Nat.lt_trans (layD_lt hr) (by decide)
    have l2:layD M' E'<10 ^ 96:=Nat.lt_trans (layD_lt hr') (by decide)
    have hgt:=gtF_lt l1 l2
    by_cases a:M<0
    ·by_cases b:M'<0
     ·have:=cmp_same M E M' E' w h0 h1 h0' h1' hr hr' hde (by show _=_;simp[a,b])
      rw[cmpS,hgt,if_pos a]at this
      rw[if_neg (by omega),if_neg (by omega),if_pos a]
      by_cases g:layD M' E'<layD M E
      ·rw[if_pos g];rw[if_pos (by simpa using g)]at this;exact this
      ·rw[if_neg g];rw[if_neg (by simpa using g)]at this;exact this
     ·rw[if_pos ⟨a,b⟩];exact cmp_s1 M E M' E' w h0 h1 h0' h1' hr hr' hde (by simpa using a) (by simpa using b)
    ·by_cases b:M'<0
     ·rw[if_neg (by omega),if_pos ⟨a,b⟩];exact cmp_s0 M E M' E' w h0 h1 h0' h1' hr hr' hde (by simpa using a) (by simpa using b)
     ·have:=cmp_same M E M' E' w h0 h1 h0' h1' hr hr' hde (by show _=_;simp[a,b])
      rw[cmpS,hgt,if_neg a]at this
      rw[if_neg (by omega),if_neg (by omega),if_neg a]
      by_cases g:layD M' E'<layD M E
      ·rw[if_pos g];rw[if_pos (by simpa using g)]at this;exact this
      ·rw[if_neg g];rw[if_neg (by simpa using g)]at this;exact this
  ·rw[if_neg (fun h=>hr' h.2)];exact cmp_no2 M E M' E' w h0 h1 h0' h1' hr (by simpa using hr')
 ·rw[if_neg (fun h=>hr h.1)];exact cmp_no1 M E M' E' w h0 h1 h0' h1' (by simpa using hr)
end Go.Proofs.YtmhfioimgllgeaaGreatDoor
namespace Go.Proofs.YtmhfioimgllgeaaGreatDoor
open Go.RowKit Go.Shelf
theorem rightB_P {M E:Int}:rightB M E=true↔RightP (M,E):=rightB_iff
end Go.Proofs.YtmhfioimgllgeaaGreatDoor
namespace Go.Proofs.YtmhfioimgllgeaaGreatDoor
open Go.RowKit Go.Shelf
def digs (f:Nat→Int):Array Value:=((List.range 96).map (fun k=>Value.int .i8 (f k))).toArray
theorem digs_at (f:Nat→Int) {k:Nat} (h:k<96):(digs f)[k]? =some (.int .i8 (f k)):=by simp[digs,h]
theorem cells53 :Tryz.prog.cellsOf 47=1:=by kernel_rfl
theorem plain53 :Tryz.prog.plainKey 47=true:=by kernel_rfl
theorem info53 :∃i,Tryz.prog.info? 47=some i:=info_of_underlying Tryz.underlying47
theorem items54 (d:Nat) (w:World) (f f':Nat→Int):∀is:List Nat,(∀k∈is,k<96)→(Op.eqItems (d+1) 47 (Tryz.prog.cellsOf 47) (digs f) (digs f') is).run Tryz.prog w= .ok (is.all fun k=>f k==f' k) w
 | [],_=>by simp[Op.eqItems]
 |i :: is,h=>by
  have hi:=h i (by simp)
  have ih:=items54 d w f f' is (fun k hk=>h k (by simp[hk]))
  have p1:=run_part_plain (P:=Tryz.prog) w plain53 (digs_at f hi)
  have p2:=run_part_plain (P:=Tryz.prog) w plain53 (digs_at f' hi)
  have p3:=run_equalIn_int (P:=Tryz.prog) w d 47 .i8 .i8 (f i) (f' i) Tryz.underlying47
  have e:i*Tryz.prog.cellsOf 47=i:=by rw[cells53,Nat.mul_one]
  simp only[Op.eqItems,Sem.run_bind,e,p1,p2,p3,Result.andThen_ok]
  cases hb:(f i==f' i)
  ·simp[hb]
  ·simp only[Bool.not_true,Bool.false_eq_true,if_false,ih]
   simp[hb]
theorem equal54 (d:Nat) (w:World) (f f':Nat→Int):(Op.equalIn (d+2) 103 (.agg (digs f)) (.agg (digs f'))).run Tryz.prog w= .ok ((List.range 96).all fun k=>f k==f' k) w:=by
 obtain⟨i,hi⟩:=info53
 rw[run_equalIn_array w (d+1) (digs f) (digs f') Tryz.underlying103 hi]
 exact items54 d w f f' _ (fun k hk=>by simpa using hk)
theorem eq54 (w:World) (f f':Nat→Int):(Op.equal 103 (.agg (digs f)) (.agg (digs f'))).run Tryz.prog w= .ok ((List.range 96).all fun k=>f k==f' k) w:=by
 have h:=equal54 9998 w f f'
 simp only[Nat.reduceAdd]at h
 unfold Op.equal Op.maxDepth
 exact h
/-- Are two numbers the same? -/
def sameF (s s':Bool) (f f':Nat→Int) (m m':Bool):Bool:=s==s'&&((List.range 96).all (fun k=>f k==f' k)&&m==m')
end Go.Proofs.YtmhfioimgllgeaaGreatDoor
namespace Go.Proofs.YtmhfioimgllgeaaGreatDoor
open Go.RowKit Go.Shelf
def ofN (n:Int):Nat:=n.natAbs*10 ^ 48
def ofS (n:Int) (p:Int×Int):Bool:=sameF (decide (p.1<0)) (decide (n<0)) (dg (layD p.1 p.2)) (dg (ofN n)) false false
/-- A whole number as a decimal. -/
def ofD (n:Int):(Int×Int)×Int:=if(near (decide (n<0)) (ofN n) false).2=0 then(if ofS n (near (decide (n<0)) (ofN n) false).1=true then(near (decide (n<0)) (ofN n) false)else((0,0),10))else((0,0),10)
theorem ofN_lt {n:Int} (h0: -9223372036854775808≤n) (h1:n≤9223372036854775807):ofN n+10 ^ 57<10 ^ 96:=by
 have hV:n.natAbs<10 ^ 19:=by rw[show (10:Nat) ^ 19=10000000000000000000 from by decide];omega
 have e:ofN n<10 ^ 19*10 ^ 48:=Nat.mul_lt_mul_of_pos_right hV (pow10_pos 48)
 have e3:10 ^ 19*10 ^ 48+10 ^ 57<10 ^ 96:=by decide
 omega
theorem ofD_bad {n:Int} (h:near (decide (n<0)) (ofN n) false=((0,0),10)):ofD n=((0,0),10):=by unfold ofD;rw[h];rfl
theorem ofD_yes {n:Int} {p:Int×Int} (h:near (decide (n<0)) (ofN n) false=(p,0)) (h2:ofS n p=true):ofD n=(p,0):=by unfold ofD;rw[h];simp only[if_true,h2]
theorem ofD_no {n:Int} {p:Int×Int} (h:near (decide (n<0)) (ofN n) false=(p,0)) (h2:ofS n p=false):ofD n=((0,0),10):=by unfold ofD;rw[h];simp only[if_true,h2];rfl
end Go.Proofs.YtmhfioimgllgeaaGreatDoor
namespace Go.Proofs.YtmhfioimgllgeaaGreatDoor
open Go.RowKit Go.Shelf
set_option maxHeartbeats 1000000 in
set_option maxRecDepth 100000 in
theorem check_used (b:Nat) (w:World) (h0:w.cell? ⟨b,0,none⟩=some (.pointer (some ⟨b,0,none⟩))):
 Calls Tryz.prog 115 #[.pointer (some ⟨b,0,none⟩)] w fun e w'=>e= .returned (.tuple #[])∧w'=w:=by
 obtain⟨j,hj,_⟩:=Option.map_eq_some_iff.1 Tryz.Builder_Extra_169.sizeBuilder
 go_enter Tryz.func115,Tryz.ntmps115
 go_wp2
 rw[Lib.run_neq_ptr_same w _ Tryz.underlying120 hj]
 go_wp2
 go_end0
 exact⟨rfl,rfl⟩
set_option maxHeartbeats 1000000 in
set_option maxRecDepth 100000 in
theorem check_fresh (b:Nat) (w:World) (h0:w.cell? ⟨b,0,none⟩=some (.pointer none)) (hsh:w.shape? b=some (122,2)) (hfz:w.frozen? ⟨b,0,none⟩=false):
 Calls Tryz.prog 115 #[.pointer (some ⟨b,0,none⟩)] w fun e w'=>e= .returned (.tuple #[])∧w'=w.setCell ⟨b,0,none⟩ (.pointer (some ⟨b,0,none⟩)):=by
 obtain⟨j,hj,hjs⟩:=Option.map_eq_some_iff.1 Tryz.Builder_Extra_169.sizeBuilder
 go_enter Tryz.func115,Tryz.ntmps115
 go_wp2
 rw[Lib.run_to_unsafe w ⟨b,0,none⟩ Tryz.underlying120 Tryz.underlying199 hj (by rw[hjs];decide) hsh (Nat.zero_lt_succ 1)]
 simp only[Result.andThen]
 rw[Oper.upon_value]
 go_wp2
 rw[run_callFunc_extern Tryz.func234 (by kernel_rfl) (by kernel_rfl) (by kernel_rfl) (e:=Extern.AbiNoEscape.same) (by kernel_rfl)]
 rw[Lib.run_noEscape]
 simp only[Result.andThen]
 rw[Oper.upon_value]
 go_wp2
 rw[Lib.run_from_unsafe w ⟨b,0,none⟩ Tryz.underlying199 Tryz.underlying120 hj hsh Tryz.Builder_Extra_169.liesBuilder]
 simp only[Result.andThen]
 rw[Oper.upon_value]
 go_wp2
 go_end0
 exact⟨rfl,rfl⟩
theorem check_any (B b:Nat) (bs:List Value) (w:World) (h:Lib.IsBuilder 122 5 B b bs w):
 Calls Tryz.prog 115 #[.pointer (some ⟨b,0,none⟩)] w fun e w'=>e= .returned (.tuple #[])∧(Lib.BuilderAt 122 5 B b (.pointer (some ⟨b,0,none⟩)) bs w'∧Below B w w'):=by
 rcases h with h|h
 ·refine(check_fresh b w h.cell0 h.shape h.frozen0).mono ?_
  rintro e w' ⟨rfl,rfl⟩
  exact⟨rfl,h.used _,(Below.refl B w).setCell (p:=⟨b,0,none⟩) h.1 _⟩
 ·refine(check_used b w h.cell0).mono ?_
  rintro e w' ⟨rfl,rfl⟩
  exact⟨rfl,h,Below.refl B _⟩
set_option maxHeartbeats 2000000 in
set_option maxRecDepth 100000 in
theorem byte_any (B b:Nat) (bs:List Value) (c:Int) (w:World) (h:Lib.IsBuilder 122 5 B b bs w) (hlen:bs.length+1≤140737488355328) (hBw:B≤w.heap.size):
 Calls Tryz.prog 80 #[.pointer (some ⟨b,0,none⟩),.int .u8 c] w fun e w'=>e= .returned .nilIface∧(Lib.IsBuilder 122 5 B b (bs++ [.int .u8 c]) w'∧Below B w w'):=by
 obtain⟨i0,hi,hz0,hz1,hz2⟩:=info_parts Tryz.Builder_Extra_169.infoByte
 go_enter Tryz.func80,Tryz.ntmps80
 go_wp2_with (go_at_call 115;refine(check_any B b bs _ h).mono ?_)
 rintro e w1 ⟨rfl,h1,hb1⟩
 obtain⟨hB,v,hbk,hown,hne⟩:=h1
 have c0:w1.cell? ⟨b,0,none⟩=some (.pointer (some ⟨b,0,none⟩)):=by rw[Lib.cell_of_heap hbk];rfl
 have c1:w1.cell? ⟨b,1,none⟩=some v:=by rw[Lib.cell_of_heap hbk];rfl
 go_wp2_with (at_builtin;refine wpList_append_own _ rfl _ _ 85 rfl B 5 i0 (.int .u8 0) 1 1 Tryz.underlying85 hi hz0 hz1 hz2 rfl (by decide) _ _ _ rfl (hown.alloc _) ⟨w1.heap.size,0,none⟩ 1 1 [.int .u8 c] rfl rfl ?c1 ?c2 ?c3 ?c4 ?c5 ?_)
 case c1=>
  intro j u hj
  match j,hj with
  |0,hj=>simp at hj;subst hj;simp[Addr.add]
 case c2=>intro u hu;simp at hu;subst hu;rfl
 case c3=>unfold maxLen;omega
 case c4=>omega
 case c5=>have:=hb1.size;simp;omega
 intro v' w2 hown' hgrow _
 have hlt:b<w1.heap.size:=by
  rcases Nat.lt_or_ge b w1.heap.size with h'|h'
  ·exact h'
  ·simp[Array.getElem?_eq_none h']at hbk
 have hb2:w2.heap[b]? =some (.cells #[.pointer (some ⟨b,0,none⟩),v] 122 (0,0)):=by
  rw[hgrow.block b (by simp;omega) (fun e=>hne e.symm),Lib.alloc_old w1 _ b hlt]
  exact hbk
 have d0:w2.cell? ⟨b,0,none⟩=some (.pointer (some ⟨b,0,none⟩)):=by rw[Lib.cell_of_heap hb2];rfl
 have d1:w2.cell? ⟨b,1,none⟩=some v:=by rw[Lib.cell_of_heap hb2];rfl
 have f1:w2.frozen? ⟨b,1,none⟩=false:=Lib.frozen_of_heap hb2 1
 obtain⟨g,cap,rfl⟩:∃g cap,v'= .slice (some ⟨g,0,none⟩) (bs.length+1) cap:=by
  rcases hown'.2 with ⟨_,h0⟩|⟨g,cap,cur,hv,_⟩
  ·omega
  ·exact⟨g,cap,hv⟩
 go_wp2
 go_ret
 refine⟨rfl,Or.inr ?_,?_⟩
 ·exact Lib.BuilderAt.put (T:=122) (e:=5) hB hb2 (bs':=bs++ [.int .u8 c]) (by simpa using hown') (by decide)
 ·exact((hb1.alloc (by have:=hb1.size;omega) _).grown hgrow (by have:=hb1.size;simp;omega) (fun k hk=>(hown.lt k hk).1)).setCell (p:=⟨b,1,none⟩) hB _
end Go.Proofs.YtmhfioimgllgeaaGreatDoor
namespace Go.Proofs.YtmhfioimgllgeaaGreatDoor
open Go.RowKit Go.Shelf
/-- The lowest place below the point that is not nought, of those below K; else the point. -/
def lowK (D:Nat):Nat→Nat
 |0=>48
 |K+1=>if dg D K=0 then lowK D K else min (lowK D K) K
theorem lowK_le (D:Nat):∀K,lowK D K≤48
 |0=>Nat.le_refl _
 |K+1=>by rw[lowK];have:=lowK_le D K;split<;>omega
/-- What is written of one place. -/
def chunk (D k:Nat):List UInt8:=(if k=47 then [46]else [])++ [UInt8.ofNat (48+D / 10 ^ k%10)]
/-- So many places from one down. -/
def wrt (D hi:Nat):Nat→List UInt8
 |0=> []
 |n+1=>wrt D hi n++chunk D (hi-n)
theorem chunk_len (D k:Nat):(chunk D k).length≤2:=by unfold chunk;split<;>simp
theorem wrt_len (D hi:Nat):∀n,(wrt D hi n).length≤2*n
 |0=>Nat.zero_le _
 |n+1=>by rw[wrt,List.length_append];have h1:=wrt_len D hi n;have h2:=chunk_len D (hi-n);omega
def topF (D:Nat):Nat→Int
 |0=> -1
 |n+1=>if dg D n=0 then topF D n else n
theorem topF_spec (D:Nat):∀n,-1≤topF D n∧topF D n<n∧(∀k:Nat,k<n→topF D n<(k:Int)→dg D k=0)∧(∀k:Nat,(k:Int)=topF D n→dg D k≠0)
 |0=>⟨by simp[topF],by simp[topF],fun k hk=>absurd hk (by omega),fun k hk=>by simp[topF]at hk⟩
 |n+1=>by
  obtain⟨h1,h2,h3,h4⟩:=topF_spec D n
  rw[topF]
  by_cases c:dg D n=0
  ·rw[if_pos c]
   refine⟨h1,by omega,fun k hk hl=> ?_,h4⟩
   by_cases e:k=n
   ·rw[e];exact c
   ·exact h3 k (by omega) hl
  ·rw[if_neg c]
   exact⟨by omega,by omega,fun k hk hl=>absurd hl (by omega),fun k hk=>by rw[show k=n by omega];exact c⟩
def hiOf (D:Nat):Nat:=(max (topF D 96) 48).toNat
def lowOf (D:Nat):Nat:=lowK D 48
def signL (M:Int):List UInt8:=if M<0 then [45]else []
/-- A right decimal's text. -/
def textR (M E:Int):List UInt8:=signL M++wrt (layD M E) (hiOf (layD M E)) (hiOf (layD M E)+1-lowOf (layD M E))
def textD (M E:Int):List UInt8×Int:=if rightB M E=true then(textR M E,0)else([],10)
def TextPost (r:List UInt8×Int) (w:World) (e:Ending) (w':World):Prop:=e= .returned (.tuple #[.string ⟨r.1.toArray⟩,.int .i64 r.2])∧Below w.heap.size w w'
theorem hiOf_eq (D:Nat):((hiOf D:Nat):Int)=max (topF D 96) 48∧hiOf D≤95∧48≤hiOf D:=by
 obtain⟨h1,h2,_⟩:=topF_spec D 96
 unfold hiOf
 omega
theorem bytes_one (l:List UInt8) (c:UInt8) (v:Int) (h:v=(c.toNat:Int)):Lib.byteCells l++ [.int .u8 v]=Lib.byteCells (l++ [c]):=by subst h;simp[Lib.byteCells]
theorem digit_byte (D k:Nat):(48+dg D k:Int)=((UInt8.ofNat (48+D / 10 ^ k%10)).toNat:Int):=by
 have:=Nat.mod_lt (D / 10 ^ k) (show 0<10 by decide)
 unfold dg
 rw[UInt8.toNat_ofNat_of_lt' (by rw[show UInt8.size=256 from rfl];omega)]
 omega
set_option maxRecDepth 100000 in
set_option maxHeartbeats 4000000 in
theorem text_ok (M E:Int) (w:World) (h0: -9223372036854775808≤M) (h1:M≤9223372036854775807) (hr:rightB M E=true):
 Calls Tryz.prog 35 #[.agg #[.int .i64 M,.int .i64 E]] w (TextPost (textR M E,0) w):=by
 obtain⟨r1,r2,r3,r4,_⟩:=rightB_iff.1 hr
 go_enter Tryz.func35,Tryz.ntmps35
 go_wp2_with fail
 obtain⟨W,hW⟩:∃W,W=w.alloc (.cells #[.int .i64 M,.int .i64 E] 34):=⟨_,rfl⟩
 rw[←hW]
 have d0:World.dec W w.heap.size M E:=by rw[hW];exact World.dec_new w M E _ rfl
 have hB:Below w.heap.size w W:=by rw[hW];exact(Below.refl _ w).alloc (Nat.le_refl _) _
 clear hW
 refine(right_any M E _ h0 h1).mono ?_
 rintro e w1 ⟨rfl,hB1⟩
 have d0:=d0.below hB1 d0.lt
 have hB:=hB.trans (hB1.mono hB.size)
 clear hB1
 have a0:=d0.c0
 have a1:=d0.c1
 go_wp2_with fail
 refine(lay_any M E _ r1 r2 r3 r4).mono ?_
 rintro e w2 ⟨rfl,hB1⟩
 have hB:=hB.trans (hB1.mono hB.size)
 clear hB1 a0 a1 d0
 go_wp2_with (first
  |refine wpList_alloc56 rfl rfl ?_
  |(refine wpList_store56 rfl rfl rfl rfl (World.num_new _ _ _ _) ?_;intro w3 hn3 hg3 hz3))
 have hB:Below w.heap.size w w3:=(hB.alloc hB.size _).grown hg3 (by have:=hB.size;simp;omega) (fun k hk=>by cases hk;exact hB.size)
 obtain⟨g,hg⟩:∃g,g=w2.heap.size:=⟨_,rfl⟩
 rw[←hg]at hn3⊢
 obtain⟨D,hD⟩:∃D,D=layD M E:=⟨_,rfl⟩
 rw[←hD]at hn3
 have HD:=Lib.hid hD
 clear hg3 hz3 hg hD
 go_loop [5,14] (fun l k=>∃K:Nat,k= .int .i64 K∧K≤48∧l= .int .i64 (lowK D K)) (fun _ k=>48-(intOf k).toNat)
 case atStart=>exact⟨0,rfl,by omega,rfl⟩
 case round=>
  obtain⟨K,rfl,k0,rfl⟩:=hrel
  have hl:=lowK_le D K
  by_cases c:K<48
  ·obtain⟨hc,hf⟩:=World.num.at hn3 K (by omega)
   have hK96:(K:Int)<96:=by omega
   by_cases z:dg D K=0
   ·have hz:(dg D K != 0)=false:=by simp[z]
    have HL:Hid (lowK D (K+1)=lowK D K):=by show _=_;rw[lowK,if_pos z]
    clear z
    go_wp2
    go_round
    case rel=>exact⟨K+1,by go_num,by omega,by rw[HL.out]⟩
    case measure=>first|(simp[intOf];done)|(simp[intOf];omega)
   ·have hz:(dg D K != 0)=true:=by simpa using z
    have HL:Hid (lowK D (K+1)=min (lowK D K) K):=by show _=_;rw[lowK,if_neg z]
    clear z
    go_wp2
    go_round
    case rel=>exact⟨K+1,by go_num,by omega,by rw[HL.out];congr 1;omega⟩
    case measure=>first|(simp[intOf];done)|(simp[intOf];omega)
  ·obtain rfl:K=48:=by omega
   have cs:=hn3.sign
   have lt3:=hn3.lt
   have hL:lowK D 48≤48:=lowK_le D 48
   go_upto_if 27 with fail
   obtain⟨W4,hW⟩:∃W,W=w3.alloc (.cells #[.pointer none,.slice none 0 0] 122):=⟨_,rfl⟩
   rw[←hW]
   obtain⟨b0,hb0⟩:∃b,b=w3.heap.size:=⟨_,rfl⟩
   rw[←hb0]at lt3⊢
   have hbd:Lib.IsBuilder 122 5 b0 b0 (Lib.byteCells []) W4:=by rw[hW,hb0];exact Lib.fresh_isBuilder 122 5 w3
   have hn4:World.num W4 g (decide (M<0)) (dg D) false:=by rw[hW];exact hn3.alloc _
   have hB4:Below w.heap.size w W4:=by rw[hW];exact hB.alloc hB.size _
   have hz4:b0<W4.heap.size:=by rw[hW,hb0];simp
   have hwb:w.heap.size≤b0:=by rw[hb0];exact hB.size
   clear hW hb0 cs
   have cs:=hn4.sign
   go_cut [] (fun wx=>Lib.IsBuilder 122 5 b0 b0 (Lib.byteCells (signL M)) wx∧Below b0 W4 wx)
   case first=>
    by_cases hs:M<0
    ·have hsb:decide (M<0)=true:=by simpa using hs
     go_wp2_with (go_at_call 80;refine(byte_any b0 b0 _ 45 _ hbd (by simp[Lib.byteCells]) (by omega)).mono ?_;rintro e w5 ⟨rfl,hbd5,hB5⟩)
     go_meet
     case rel=>exact⟨by rw[signL,if_pos hs];exact hbd5,hB5⟩
    ·have hsb:decide (M<0)=false:=by simpa using hs
     go_wp2_with fail
     go_meet
     case rel=>exact⟨by rw[signL,if_neg (by omega)];exact hbd,Below.refl _ _⟩
   case rest=>
   obtain⟨hbd5,hB5⟩:=hcut
   clear cs
   have hn5:=hn4.below hB5 lt3
   obtain⟨t0,t1,t2,t3⟩:=topF_spec D 96
   have T2:=Lib.hid t2
   have T3:=Lib.hid t3
   clear t2 t3
   go_wp2_with fail
   refine(top_any g _ _ false (topF D 96) _ hn5 t0 (by omega) T2.out T3.out).mono ?_
   rintro e w6 ⟨rfl,rfl⟩
   go_wp2_with fail
   obtain⟨hh,hh1,hh2⟩:=hiOf_eq D
   rw[←hh]
   obtain⟨hi,hhi⟩:∃hi,hi=hiOf D:=⟨_,rfl⟩
   rw[←hhi]at hh1 hh2⊢
   obtain⟨L,hLe⟩:∃L,L=lowK D 48:=⟨_,rfl⟩
   rw[←hLe]at hL⊢
   have HHI:=Lib.hid hhi
   have HLE:=Lib.hid hLe
   clear hh hhi hLe t0 t1 T2 T3
   have hsl:(signL M).length≤1:=by unfold signL;split<;>simp
   go_loopw [8] (fun k wr=>∃n:Nat,k= .int .i64 ((hi:Int)-n)∧n≤hi+1-L∧Lib.IsBuilder 122 5 b0 b0 (Lib.byteCells (signL M++wrt D hi n)) wr∧Below b0 W4 wr) (fun k _=>(intOf k+1).toNat)
   case atStart=>exact⟨0,by simp,by omega,by rw[wrt,List.append_nil];exact hbd5,hB5⟩
   case round=>
    obtain⟨n,rfl,n0,hbdr,hBr⟩:=hrel
    clear hbd5 hB5 hn5
    have hwl:=wrt_len D hi n
    have hz5:=hBr.size
    have hlen0:(Lib.byteCells (signL M++wrt D hi n)).length≤1+2*n:=by rw[Lib.byteCells_length,List.length_append];omega
    have hn6:=hn4.below hBr lt3
    by_cases c:n<hi+1-L
    ·obtain⟨k,hk⟩:∃k,k=hi-n:=⟨_,rfl⟩
     rw[show ((hi:Int)-(n:Int))=(k:Int) by omega]
     have hkL:(L:Int)≤(k:Int):=by omega
     have hk96:(k:Int)<96:=by omega
     have hn1:n+1≤hi+1-L:=by omega
     have HK:=Lib.hid hk
     clear hk
     obtain⟨hc,hf⟩:=World.num.at hn6 k (by omega)
     have q0:=dg_nonneg D k
     have q9:=dg_le D k
     by_cases p:k=47
     ·have hpb:((k:Int)==47)=true:=by simp;omega
      have HC:Hid (chunk D k= [46,UInt8.ofNat (48+D / 10 ^ k%10)]):=by show _=_;rw[chunk,if_pos p];rfl
      clear p
      go_wp2_with fail
      refine(byte_any b0 b0 _ 46 _ hbdr (by omega) (by omega)).mono ?_
      rintro e w7 ⟨rfl,hbd7,hB7⟩
      rw[bytes_one _ 46 46 rfl]at hbd7
      have hB8:=hBr.trans hB7
      have hz7:=hB8.size
      obtain⟨hc,hf⟩:=World.num.at (hn4.below hB8 lt3) k (by omega)
      go_wp2_with fail
      refine(byte_any b0 b0 _ (48+dg D k) _ hbd7 (by rw[Lib.byteCells_length]at hlen0 ⊢;rw[List.length_append,List.length_singleton];omega) (by omega)).mono ?_
      rintro e w8 ⟨rfl,hbd8,hB9⟩
      rw[bytes_one _ _ _ (digit_byte D k)]at hbd8
      go_wp2_with fail
      go_roundw
      case rel=>exact⟨n+1,by have:=HK.out;congr 1;omega,hn1,by rw[wrt,←HK.out,HC.out,←List.append_assoc];simpa using hbd8,hB8.trans hB9⟩
      case measure=>first|(simp[intOf];done)|(simp[intOf];omega)
     ·have hpb:((k:Int)==47)=false:=by simp;omega
      have HC:Hid (chunk D k= [UInt8.ofNat (48+D / 10 ^ k%10)]):=by show _=_;rw[chunk,if_neg p];rfl
      clear p
      go_wp2_with fail
      refine(byte_any b0 b0 _ (48+dg D k) _ hbdr (by omega) (by omega)).mono ?_
      rintro e w8 ⟨rfl,hbd8,hB9⟩
      rw[bytes_one _ _ _ (digit_byte D k)]at hbd8
      go_wp2_with fail
      go_roundw
      case rel=>exact⟨n+1,by have:=HK.out;congr 1;omega,hn1,by rw[wrt,←HK.out,HC.out,←List.append_assoc];exact hbd8,hBr.trans hB9⟩
      case measure=>first|(simp[intOf];done)|(simp[intOf];omega)
    ·obtain rfl:n=hi+1-L:=by omega
     rw[show ((hi:Int)-((hi+1-L:Nat):Int))=(L:Int)-1 by omega]
     go_wp2_with fail
     refine(Tryz.Builder_String_any b0 b0 _ _ hbdr (by omega)).mono ?_
     rintro e w8 ⟨rfl,hB9⟩
     go_wp2_with fail
     refine bodyPost_ret (results_tmp2 rfl _ _ _) rfl ?_
     refine⟨?_,hB4.trans ((hBr.trans hB9).mono hwb)⟩
     rw[textR,←HD.out,←HHI.out,lowOf,←HLE.out];rfl
set_option maxRecDepth 100000 in
set_option maxHeartbeats 4000000 in
theorem text_no (M E:Int) (w:World) (h0: -9223372036854775808≤M) (h1:M≤9223372036854775807) (hr:rightB M E=false):
 Calls Tryz.prog 35 #[.agg #[.int .i64 M,.int .i64 E]] w (TextPost ([],10) w):=by
 go_enter Tryz.func35,Tryz.ntmps35
 go_wp2_with fail
 obtain⟨W,hW⟩:∃W,W=w.alloc (.cells #[.int .i64 M,.int .i64 E] 34):=⟨_,rfl⟩
 rw[←hW]
 have hB:Below w.heap.size w W:=by rw[hW];exact(Below.refl _ w).alloc (Nat.le_refl _) _
 clear hW
 refine(right_any M E _ h0 h1).mono ?_
 rintro e w1 ⟨rfl,hB1⟩
 have hB:=hB.trans (hB1.mono hB.size)
 go_wp2_with fail
 refine bodyPost_ret (results_tmp2 rfl _ _ _) rfl ?_
 exact⟨rfl,hB⟩
theorem text_any (M E:Int) (w:World) (h0: -9223372036854775808≤M) (h1:M≤9223372036854775807):
 Calls Tryz.prog 35 #[.agg #[.int .i64 M,.int .i64 E]] w (TextPost (textD M E) w):=by
 unfold textD
 by_cases hr:rightB M E=true
 ·rw[if_pos hr];exact text_ok M E w h0 h1 hr
 ·rw[if_neg hr];exact text_no M E w h0 h1 (by simpa using hr)
end Go.Proofs.YtmhfioimgllgeaaGreatDoor
