/- dec.Compare. -/
import Derived.Test.YtkhohjdakcchdaaGreatDoorBb
import Derived.Test.YtkhohjdakcchdaaGreatDoorBc
namespace Go.Proofs.YtkhohjdakcchdaaGreatDoor
open Go.RowKit Go.Shelf
def CmpMid (s s':Bool) (D D':Nat) (w:World) (v v':Value) (wc:World):Prop:=
 ∃g g',v= .pointer (some ⟨g,0,none⟩)∧v'= .pointer (some ⟨g',0,none⟩)∧World.num wc g s (dg D) false∧World.num wc g' s' (dg D') false∧Below w.heap.size w wc
def cmpS (M E M' E':Int):Int:=if gtF (dg (layD M E)) (dg (layD M' E')) 96=true then(if M<0 then -1 else 1)else-(if M<0 then -1 else 1)
def signI (M:Int):Int:=if M<0 then -1 else 1
theorem signI_bd (M:Int): -1≤signI M∧signI M≤1:=by unfold signI;split<;>omega
theorem World.new_of {W:World} {b:Nat} {M E:Int} (d:World.dec W b M E):∃g,World.num (W.alloc (.cells (numF false z96 false) 100)) g false z96 false∧b<g∧W.heap.size=g:=⟨_,World.num_new _ _ _ _,d.lt,rfl⟩
def CmpPost (r:Int) (w:World) (e:Ending) (w':World):Prop:=e= .returned (.int .i64 r)∧Below w.heap.size w w'
set_option maxRecDepth 100000 in
set_option maxHeartbeats 4000000 in
theorem cmp_no1 (M E M' E':Int) (w:World) (h0: -9223372036854775808≤M) (h1:M≤9223372036854775807) (_h0': -9223372036854775808≤M') (_h1':M'≤9223372036854775807) (hr:rightB M E=false):
 Calls Tryz.prog 116 #[.agg #[.int .i64 M,.int .i64 E],.agg #[.int .i64 M',.int .i64 E']] w (CmpPost 0 w):=by
 go_enter Tryz.func116,Tryz.ntmps116
 go_wp2_with fail
 obtain⟨W,hW⟩:∃W,W=(w.alloc (.cells #[.int .i64 M,.int .i64 E] 23)).alloc (.cells #[.int .i64 M',.int .i64 E'] 23):=⟨_,rfl⟩
 rw[←hW]
 have d0:World.dec W w.heap.size M E:=by rw[hW];exact(World.dec_new w M E _ rfl).alloc _
 have d1:World.dec W (w.heap.size+1) M' E':=by rw[hW];exact World.dec_new _ M' E' _ (by simp)
 have hB:Below w.heap.size w W:=by rw[hW];exact((Below.refl _ w).alloc (Nat.le_refl _) _).alloc (by simp) _
 clear hW
 refine(right_any M E _ h0 h1).mono ?_
 rintro e w1 ⟨rfl,hB1⟩
 have d0:=d0.below hB1 d0.lt
 have d1:=d1.below hB1 d1.lt
 have hB:=hB.trans (hB1.mono hB.size)
 clear hB1
 have a0:=d0.c0
 have a1:=d0.c1
 have b0:=d1.c0
 have b1:=d1.c1
 go_wp2_with fail
 go_ret
 exact⟨rfl,hB⟩
set_option maxRecDepth 100000 in
set_option maxHeartbeats 4000000 in
theorem cmp_no2 (M E M' E':Int) (w:World) (h0: -9223372036854775808≤M) (h1:M≤9223372036854775807) (h0': -9223372036854775808≤M') (h1':M'≤9223372036854775807) (hr:rightB M E=true) (hr':rightB M' E'=false):
 Calls Tryz.prog 116 #[.agg #[.int .i64 M,.int .i64 E],.agg #[.int .i64 M',.int .i64 E']] w (CmpPost 0 w):=by
 go_enter Tryz.func116,Tryz.ntmps116
 go_wp2_with fail
 obtain⟨W,hW⟩:∃W,W=(w.alloc (.cells #[.int .i64 M,.int .i64 E] 23)).alloc (.cells #[.int .i64 M',.int .i64 E'] 23):=⟨_,rfl⟩
 rw[←hW]
 have d0:World.dec W w.heap.size M E:=by rw[hW];exact(World.dec_new w M E _ rfl).alloc _
 have d1:World.dec W (w.heap.size+1) M' E':=by rw[hW];exact World.dec_new _ M' E' _ (by simp)
 have hB:Below w.heap.size w W:=by rw[hW];exact((Below.refl _ w).alloc (Nat.le_refl _) _).alloc (by simp) _
 clear hW
 refine(right_any M E _ h0 h1).mono ?_
 rintro e w1 ⟨rfl,hB1⟩
 have d0:=d0.below hB1 d0.lt
 have d1:=d1.below hB1 d1.lt
 have hB:=hB.trans (hB1.mono hB.size)
 clear hB1
 have a0:=d0.c0
 have a1:=d0.c1
 have b0:=d1.c0
 have b1:=d1.c1
 go_wp2_with fail
 clear a0 a1 b0 b1
 refine(right_any M' E' _ h0' h1').mono ?_
 rintro e w1 ⟨rfl,hB1⟩
 have d0:=d0.below hB1 d0.lt
 have d1:=d1.below hB1 d1.lt
 have hB:=hB.trans (hB1.mono hB.size)
 clear hB1
 have a0:=d0.c0
 have a1:=d0.c1
 have b0:=d1.c0
 have b1:=d1.c1
 go_wp2_with fail
 go_ret
 exact⟨rfl,hB⟩
set_option maxRecDepth 100000 in
set_option maxHeartbeats 4000000 in
theorem cmp_eq (M E:Int) (w:World) (h0: -9223372036854775808≤M) (h1:M≤9223372036854775807) (hr:rightB M E=true):
 Calls Tryz.prog 116 #[.agg #[.int .i64 M,.int .i64 E],.agg #[.int .i64 M,.int .i64 E]] w (CmpPost 0 w):=by
 go_enter Tryz.func116,Tryz.ntmps116
 go_wp2_with fail
 obtain⟨W,hW⟩:∃W,W=(w.alloc (.cells #[.int .i64 M,.int .i64 E] 23)).alloc (.cells #[.int .i64 M,.int .i64 E] 23):=⟨_,rfl⟩
 rw[←hW]
 have d0:World.dec W w.heap.size M E:=by rw[hW];exact(World.dec_new w M E _ rfl).alloc _
 have d1:World.dec W (w.heap.size+1) M E:=by rw[hW];exact World.dec_new _ M E _ (by simp)
 have hB:Below w.heap.size w W:=by rw[hW];exact((Below.refl _ w).alloc (Nat.le_refl _) _).alloc (by simp) _
 clear hW
 refine(right_any M E _ h0 h1).mono ?_
 rintro e w1 ⟨rfl,hB1⟩
 have d0:=d0.below hB1 d0.lt
 have d1:=d1.below hB1 d1.lt
 have hB:=hB.trans (hB1.mono hB.size)
 clear hB1
 have a0:=d0.c0
 have a1:=d0.c1
 have b0:=d1.c0
 have b1:=d1.c1
 go_wp2_with fail
 clear a0 a1 b0 b1
 refine(right_any M E _ h0 h1).mono ?_
 rintro e w1 ⟨rfl,hB1⟩
 have d0:=d0.below hB1 d0.lt
 have d1:=d1.below hB1 d1.lt
 have hB:=hB.trans (hB1.mono hB.size)
 clear hB1
 have a0:=d0.c0
 have a1:=d0.c1
 have b0:=d1.c0
 have b1:=d1.c1
 go_wp2_with fail
 go_ret
 exact⟨rfl,hB⟩
set_option maxRecDepth 100000 in
set_option maxHeartbeats 4000000 in
theorem cmp_s1 (M E M' E':Int) (w:World) (h0: -9223372036854775808≤M) (h1:M≤9223372036854775807) (h0': -9223372036854775808≤M') (h1':M'≤9223372036854775807) (hr:rightB M E=true) (hr':rightB M' E'=true) (hde:(M==M'&&E==E')=false) (hs:decide (M<0)=true) (hs':decide (M'<0)=false):
 Calls Tryz.prog 116 #[.agg #[.int .i64 M,.int .i64 E],.agg #[.int .i64 M',.int .i64 E']] w (CmpPost (-1) w):=by
 go_enter Tryz.func116,Tryz.ntmps116
 go_upto_region 1 with fail
 obtain⟨W,hW⟩:∃W,W=(w.alloc (.cells #[.int .i64 M,.int .i64 E] 23)).alloc (.cells #[.int .i64 M',.int .i64 E'] 23):=⟨_,rfl⟩
 rw[←hW]
 have d0:World.dec W w.heap.size M E:=by rw[hW];exact(World.dec_new w M E _ rfl).alloc _
 have d1:World.dec W (w.heap.size+1) M' E':=by rw[hW];exact World.dec_new _ M' E' _ (by simp)
 have hB:Below w.heap.size w W:=by rw[hW];exact((Below.refl _ w).alloc (Nat.le_refl _) _).alloc (by simp) _
 clear hW
 go_cut [20] (fun v wc=>v= .bool false∧World.dec wc w.heap.size M E∧World.dec wc (w.heap.size+1) M' E'∧Below w.heap.size w wc)
 case first=>
  have a0:=d0.c0
  have a1:=d0.c1
  have b0:=d1.c0
  have b1:=d1.c1
  go_wp2_with fail
  clear a0 a1 b0 b1
  refine(right_any M E _ h0 h1).mono ?_
  rintro e w1 ⟨rfl,hB1⟩
  have d0:=d0.below hB1 d0.lt
  have d1:=d1.below hB1 d1.lt
  have hB:=hB.trans (hB1.mono hB.size)
  clear hB1
  have a0:=d0.c0
  have a1:=d0.c1
  have b0:=d1.c0
  have b1:=d1.c1
  go_wp2_with fail
  clear a0 a1 b0 b1
  refine(right_any M' E' _ h0' h1').mono ?_
  rintro e w1 ⟨rfl,hB1⟩
  have d0:=d0.below hB1 d0.lt
  have d1:=d1.below hB1 d1.lt
  have hB:=hB.trans (hB1.mono hB.size)
  clear hB1
  have a0:=d0.c0
  have a1:=d0.c1
  have b0:=d1.c0
  have b1:=d1.c1
  by_cases hM:M=M'
  ·have hE:(E==E')=false:=by
    rw[hM]at hde
    have h2:=hde
    simp only[beq_self_eq_true,Bool.true_and]at h2
    exact h2
   clear hde
   have hMb:(M==M')=true:=by simpa using hM
   have hMM:=Lib.hid hM
   clear hM
   go_wp2_with fail
   go_meet
   case rel=>exact⟨rfl,d0,d1,hB⟩
  ·have hMb:(M==M')=false:=by simpa using hM
   clear hde hM
   go_wp2_with fail
   go_meet
   case rel=>exact⟨rfl,d0,d1,hB⟩
 case rest=>
 obtain⟨rfl,d0,d1,hB⟩:=hcut
 have a0:=d0.c0
 have a1:=d0.c1
 have b0:=d1.c0
 have b1:=d1.c1
 clear hde
 go_wp2_with fail
 go_ret
 exact⟨rfl,hB⟩
set_option maxRecDepth 100000 in
set_option maxHeartbeats 4000000 in
theorem cmp_s0 (M E M' E':Int) (w:World) (h0: -9223372036854775808≤M) (h1:M≤9223372036854775807) (h0': -9223372036854775808≤M') (h1':M'≤9223372036854775807) (hr:rightB M E=true) (hr':rightB M' E'=true) (hde:(M==M'&&E==E')=false) (hs:decide (M<0)=false) (hs':decide (M'<0)=true):
 Calls Tryz.prog 116 #[.agg #[.int .i64 M,.int .i64 E],.agg #[.int .i64 M',.int .i64 E']] w (CmpPost 1 w):=by
 go_enter Tryz.func116,Tryz.ntmps116
 go_upto_region 1 with fail
 obtain⟨W,hW⟩:∃W,W=(w.alloc (.cells #[.int .i64 M,.int .i64 E] 23)).alloc (.cells #[.int .i64 M',.int .i64 E'] 23):=⟨_,rfl⟩
 rw[←hW]
 have d0:World.dec W w.heap.size M E:=by rw[hW];exact(World.dec_new w M E _ rfl).alloc _
 have d1:World.dec W (w.heap.size+1) M' E':=by rw[hW];exact World.dec_new _ M' E' _ (by simp)
 have hB:Below w.heap.size w W:=by rw[hW];exact((Below.refl _ w).alloc (Nat.le_refl _) _).alloc (by simp) _
 clear hW
 go_cut [20] (fun v wc=>v= .bool false∧World.dec wc w.heap.size M E∧World.dec wc (w.heap.size+1) M' E'∧Below w.heap.size w wc)
 case first=>
  have a0:=d0.c0
  have a1:=d0.c1
  have b0:=d1.c0
  have b1:=d1.c1
  go_wp2_with fail
  clear a0 a1 b0 b1
  refine(right_any M E _ h0 h1).mono ?_
  rintro e w1 ⟨rfl,hB1⟩
  have d0:=d0.below hB1 d0.lt
  have d1:=d1.below hB1 d1.lt
  have hB:=hB.trans (hB1.mono hB.size)
  clear hB1
  have a0:=d0.c0
  have a1:=d0.c1
  have b0:=d1.c0
  have b1:=d1.c1
  go_wp2_with fail
  clear a0 a1 b0 b1
  refine(right_any M' E' _ h0' h1').mono ?_
  rintro e w1 ⟨rfl,hB1⟩
  have d0:=d0.below hB1 d0.lt
  have d1:=d1.below hB1 d1.lt
  have hB:=hB.trans (hB1.mono hB.size)
  clear hB1
  have a0:=d0.c0
  have a1:=d0.c1
  have b0:=d1.c0
  have b1:=d1.c1
  by_cases hM:M=M'
  ·have hE:(E==E')=false:=by
    rw[hM]at hde
    have h2:=hde
    simp only[beq_self_eq_true,Bool.true_and]at h2
    exact h2
   clear hde
   have hMb:(M==M')=true:=by simpa using hM
   have hMM:=Lib.hid hM
   clear hM
   go_wp2_with fail
   go_meet
   case rel=>exact⟨rfl,d0,d1,hB⟩
  ·have hMb:(M==M')=false:=by simpa using hM
   clear hde hM
   go_wp2_with fail
   go_meet
   case rel=>exact⟨rfl,d0,d1,hB⟩
 case rest=>
 obtain⟨rfl,d0,d1,hB⟩:=hcut
 have a0:=d0.c0
 have a1:=d0.c1
 have b0:=d1.c0
 have b1:=d1.c1
 clear hde
 go_wp2_with fail
 go_ret
 exact⟨rfl,hB⟩
set_option maxRecDepth 100000 in
set_option maxHeartbeats 4000000 in
theorem cmp_same (M E M' E':Int) (w:World) (h0: -9223372036854775808≤M) (h1:M≤9223372036854775807) (h0': -9223372036854775808≤M') (h1':M'≤9223372036854775807) (hr:rightB M E=true) (hr':rightB M' E'=true) (hde:(M==M'&&E==E')=false) (hss:Hid (decide (M<0)=decide (M'<0))):
 Calls Tryz.prog 116 #[.agg #[.int .i64 M,.int .i64 E],.agg #[.int .i64 M',.int .i64 E']] w (CmpPost (cmpS M E M' E') w):=by
 go_enter Tryz.func116,Tryz.ntmps116
 go_upto_region 1 with fail
 obtain⟨W,hW⟩:∃W,W=(w.alloc (.cells #[.int .i64 M,.int .i64 E] 23)).alloc (.cells #[.int .i64 M',.int .i64 E'] 23):=⟨_,rfl⟩
 rw[←hW]
 have d0:World.dec W w.heap.size M E:=by rw[hW];exact(World.dec_new w M E _ rfl).alloc _
 have d1:World.dec W (w.heap.size+1) M' E':=by rw[hW];exact World.dec_new _ M' E' _ (by simp)
 have hB:Below w.heap.size w W:=by rw[hW];exact((Below.refl _ w).alloc (Nat.le_refl _) _).alloc (by simp) _
 clear hW
 go_cut [20] (fun v wc=>v= .bool false∧World.dec wc w.heap.size M E∧World.dec wc (w.heap.size+1) M' E'∧Below w.heap.size w wc)
 case first=>
  have a0:=d0.c0
  have a1:=d0.c1
  have b0:=d1.c0
  have b1:=d1.c1
  go_wp2_with fail
  clear a0 a1 b0 b1
  refine(right_any M E _ h0 h1).mono ?_
  rintro e w1 ⟨rfl,hB1⟩
  have d0:=d0.below hB1 d0.lt
  have d1:=d1.below hB1 d1.lt
  have hB:=hB.trans (hB1.mono hB.size)
  clear hB1
  have a0:=d0.c0
  have a1:=d0.c1
  have b0:=d1.c0
  have b1:=d1.c1
  go_wp2_with fail
  clear a0 a1 b0 b1
  refine(right_any M' E' _ h0' h1').mono ?_
  rintro e w1 ⟨rfl,hB1⟩
  have d0:=d0.below hB1 d0.lt
  have d1:=d1.below hB1 d1.lt
  have hB:=hB.trans (hB1.mono hB.size)
  clear hB1
  have a0:=d0.c0
  have a1:=d0.c1
  have b0:=d1.c0
  have b1:=d1.c1
  by_cases hM:M=M'
  ·have hE:(E==E')=false:=by
    rw[hM]at hde
    have h2:=hde
    simp only[beq_self_eq_true,Bool.true_and]at h2
    exact h2
   clear hde
   have hMb:(M==M')=true:=by simpa using hM
   have hMM:=Lib.hid hM
   clear hM
   go_wp2_with fail
   go_meet
   case rel=>exact⟨rfl,d0,d1,hB⟩
  ·have hMb:(M==M')=false:=by simpa using hM
   clear hde hM
   go_wp2_with fail
   go_meet
   case rel=>exact⟨rfl,d0,d1,hB⟩
 case rest=>
 obtain⟨rfl,d0,d1,hB⟩:=hcut
 have a0:=d0.c0
 have a1:=d0.c1
 have b0:=d1.c0
 have b1:=d1.c1
 clear hde
 go_upto_if 23 with fail
 go_cut [5] (fun v5 wx=>v5= .int .i64 (signI M)∧wx=wc)
 case first=>
  by_cases hs:M<0
  ·go_wp2_with fail
   go_meet
   case rel=>exact⟨by rw[signI,if_pos hs],rfl⟩
  ·go_wp2_with fail
   go_meet
   case rel=>exact⟨by rw[signI,if_neg (by omega)],rfl⟩
 case rest=>
 obtain⟨rfl,rfl⟩:=hcut
 go_upto_region 6 with fail
 go_cut [30] (fun v wx=>v= .bool (!(decide (M<0)==decide (M'<0)))∧wx=wc)
 case first=>
  go_wp2_with fail
  go_meet
  case rel=>exact⟨rfl,rfl⟩
 case rest=>
 obtain⟨rfl,rfl⟩:=hcut
 rw[hss.out,beq_self_eq_true]
 obtain⟨r1,r2,r3,r4,_⟩:=rightB_iff.1 hr
 obtain⟨q1,q2,q3,q4,_⟩:=rightB_iff.1 hr'
 go_wp2_with fail
 go_cut [6,7] (fun v6 v7 wc=>CmpMid (decide (M<0)) (decide (M'<0)) (layD M E) (layD M' E') w v6 v7 wc)
 case first=>
  refine wp_region_held_drew (S:=(fun w'=>w'.cell? ⟨w.heap.size,0,none⟩=some (.int .i64 M)∧w'.cell? ⟨w.heap.size,1,none⟩=some (.int .i64 E)∧w'.cell? ⟨w.heap.size+1,0,none⟩=some (.int .i64 M')∧w'.cell? ⟨w.heap.size+1,1,none⟩=some (.int .i64 E'))) (by kernel_rfl) ⟨a0,a1,b0,b1⟩ (fun hHeld=> ?_)
  refine wpAnyH_take (i:=0) (v:= ?_) rfl (by kernel_rfl) (by kernel_rfl) (by kernel_rfl) (fun _ _ _ h=>h) (Or.inl ⟨by rfl,?_⟩) hHeld ?_
  rotate_left
  ·(intro w hSw;(try dsimp only at hSw);go_simp)
   all_goals with_reducible rfl
  try simp only[Act.put,List.setIfInBounds_toArray]
  refine wpAnyH_take (i:=2) (v:= ?_) rfl (by kernel_rfl) (by kernel_rfl) (by kernel_rfl) (fun _ _ _ h=>h) (Or.inl ⟨by rfl,?_⟩) hHeld ?_
  rotate_left
  ·(intro w hSw;(try dsimp only at hSw);go_simp)
   all_goals with_reducible rfl
  try simp only[Act.put]
  clear hHeld a0 a1 b0 b1
  have d0:=World.dec.drew d0
  have d1:=World.dec.drew d1
  have hB:=hB.drew
  refine wpAnyH_ready (rs:= [1,4,5]) (by kernel_rfl) (by simp) ?_
  refine(AllReadyH.cons (o:=⟨some 33,_,_,_,_,_⟩) rfl (fun K hK=> ?_) (AllReadyH.cons (o:=⟨some 6,_,_,_,_,_⟩) rfl (fun K hK=> ?_) (AllReadyH.cons (o:=⟨some 7,_,_,_,_,_⟩) rfl (fun K hK=> ?_) AllReadyH.nil)))
  ·go_simp
   refine(lay_any M E _ r1 r2 r3 r4).mono ?_
   rintro e w2 ⟨rfl,hB2⟩
   have d0:=World.dec.below d0 hB2 d0.lt
   have d1:=World.dec.below d1 hB2 d1.lt
   have hB:=hB.trans (hB2.mono hB.size)
   refine hK.out _ _ ⟨d0.c0,d0.c1,d1.c0,d1.c1⟩ (fun hHeld=> ?_)
   clear hK K hHeld
   try simp only[Act.put,pk1,pk2,pk3]
   refine wpAnyH_ready (rs:= [3,4,5]) (by kernel_rfl) (by simp) ?_
   refine(AllReadyH.cons (o:=⟨some 35,_,_,_,_,_⟩) rfl (fun K hK=> ?_) (AllReadyH.cons (o:=⟨some 6,_,_,_,_,_⟩) rfl (fun K hK=> ?_) (AllReadyH.cons (o:=⟨some 7,_,_,_,_,_⟩) rfl (fun K hK=> ?_) AllReadyH.nil)))
   ·go_simp
    refine(lay_any M' E' _ q1 q2 q3 q4).mono ?_
    rintro e w2 ⟨rfl,hB2⟩
    have d0:=World.dec.below d0 hB2 d0.lt
    have d1:=World.dec.below d1 hB2 d1.lt
    have hB:=hB.trans (hB2.mono hB.size)
    refine hK.out _ _ ⟨d0.c0,d0.c1,d1.c0,d1.c1⟩ (fun hHeld=> ?_)
    clear hK K hHeld
    try simp only[Act.put,pk1,pk2,pk3]
    refine wpAnyH_ready (rs:= [4,5]) (by kernel_rfl) (by simp) ?_
    refine(AllReadyH.cons (o:=⟨some 6,_,_,_,_,_⟩) rfl (fun K hK=> ?_) (AllReadyH.cons (o:=⟨some 7,_,_,_,_,_⟩) rfl (fun K hK=> ?_) AllReadyH.nil))
    ·rw[if_pos (by rfl)]
     refine op_alloc56 rfl ?_
     obtain⟨gA,nA,bA,hgA⟩:=World.new_of d1
     have d0:=World.dec.alloc d0 (.cells (numF false z96 false) 100)
     have d1:=World.dec.alloc d1 (.cells (numF false z96 false) 100)
     have hB:=Below.alloc hB hB.size (.cells (numF false z96 false) 100)
     rw[hgA]
     clear hgA
     refine hK.out _ _ ⟨d0.c0,d0.c1,d1.c0,d1.c1⟩ (fun hHeld=> ?_)
     clear hK K hHeld
     try simp only[Act.put,pk1,pk2,pk3]
     refine wpAnyH_ready (rs:= [5]) (by kernel_rfl) (by simp) ?_
     refine(AllReadyH.cons (o:=⟨some 7,_,_,_,_,_⟩) rfl (fun K hK=> ?_) AllReadyH.nil)
     rw[if_pos (by rfl)]
     refine op_alloc56 rfl ?_
     obtain⟨gB,nB,bB,hgB⟩:=World.new_of d1
     have d0:=World.dec.alloc d0 (.cells (numF false z96 false) 100)
     have d1:=World.dec.alloc d1 (.cells (numF false z96 false) 100)
     have hAB:gA<gB:=by rw[←hgB];exact nA.lt
     have nA:=World.num.alloc nA (.cells (numF false z96 false) 100)
     have hB:=Below.alloc hB hB.size (.cells (numF false z96 false) 100)
     rw[hgB]
     clear hgB
     refine hK.out _ _ ⟨d0.c0,d0.c1,d1.c0,d1.c1⟩ (fun hHeld=> ?_)
     clear hK K hHeld
     try simp only[Act.put,pk1,pk2,pk3]
     refine wpAnyH_ready (rs:= [6]) (by kernel_rfl) (by simp) ?_
     refine(AllReadyH.cons (o:=⟨none,_,_,_,_,_⟩) rfl (fun K hK=> ?_) AllReadyH.nil)
     rw[if_pos (by rfl)]
     refine op_store56 rfl rfl rfl nA ?_
     intro w3 n3 g3 z3
     have d0:=World.dec.grown d0 g3 (by simp;omega)
     have d1:=World.dec.grown d1 g3 (by simp;omega)
     have nB:=World.num.grown nB g3 (by simp;omega)
     have hB:=hB.grown g3 hB.size (fun k hk=>by cases hk;omega)
     clear nA
     have nA:=n3
     clear n3 g3 z3
     refine hK.out _ _ ⟨d0.c0,d0.c1,d1.c0,d1.c1⟩ (fun hHeld=> ?_)
     clear hK K hHeld
     try simp only[Act.put]
     refine wpAnyH_ready (rs:= [7]) (by kernel_rfl) (by simp) ?_
     refine(AllReadyH.cons (o:=⟨none,_,_,_,_,_⟩) rfl (fun K hK=> ?_) AllReadyH.nil)
     rw[if_pos (by rfl)]
     refine op_store56 rfl rfl rfl nB ?_
     intro w3 n3 g3 z3
     have d0:=World.dec.grown d0 g3 (by simp;omega)
     have d1:=World.dec.grown d1 g3 (by simp;omega)
     have nA:=World.num.grown nA g3 (by simp;omega)
     have hB:=hB.grown g3 hB.size (fun k hk=>by cases hk;omega)
     clear nB
     have nB:=n3
     clear n3 g3 z3
     refine hK.out _ _ ⟨d0.c0,d0.c1,d1.c0,d1.c1⟩ (fun hHeld=> ?_)
     clear hK K hHeld
     try simp only[Act.put]
     refine wpAnyH_done (by kernel_rfl) ?_ _
     try simp only[Act.put,pk1,pk2,pk3]
     go_wp2_with fail
     go_meet
     case rel=>exact⟨_,_,rfl,rfl,nA,nB,hB⟩
    ·rw[if_pos (by rfl)]
     refine op_alloc56 rfl ?_
     obtain⟨gB,nB,bB,hgB⟩:=World.new_of d1
     have d0:=World.dec.alloc d0 (.cells (numF false z96 false) 100)
     have d1:=World.dec.alloc d1 (.cells (numF false z96 false) 100)
     have hB:=Below.alloc hB hB.size (.cells (numF false z96 false) 100)
     rw[hgB]
     clear hgB
     refine hK.out _ _ ⟨d0.c0,d0.c1,d1.c0,d1.c1⟩ (fun hHeld=> ?_)
     clear hK K hHeld
     try simp only[Act.put,pk1,pk2,pk3]
     refine wpAnyH_ready (rs:= [4]) (by kernel_rfl) (by simp) ?_
     refine(AllReadyH.cons (o:=⟨some 6,_,_,_,_,_⟩) rfl (fun K hK=> ?_) AllReadyH.nil)
     rw[if_pos (by rfl)]
     refine op_alloc56 rfl ?_
     obtain⟨gA,nA,bA,hgA⟩:=World.new_of d1
     have d0:=World.dec.alloc d0 (.cells (numF false z96 false) 100)
     have d1:=World.dec.alloc d1 (.cells (numF false z96 false) 100)
     have hAB:gB<gA:=by rw[←hgA];exact nB.lt
     have nB:=World.num.alloc nB (.cells (numF false z96 false) 100)
     have hB:=Below.alloc hB hB.size (.cells (numF false z96 false) 100)
     rw[hgA]
     clear hgA
     refine hK.out _ _ ⟨d0.c0,d0.c1,d1.c0,d1.c1⟩ (fun hHeld=> ?_)
     clear hK K hHeld
     try simp only[Act.put,pk1,pk2,pk3]
     refine wpAnyH_ready (rs:= [6]) (by kernel_rfl) (by simp) ?_
     refine(AllReadyH.cons (o:=⟨none,_,_,_,_,_⟩) rfl (fun K hK=> ?_) AllReadyH.nil)
     rw[if_pos (by rfl)]
     refine op_store56 rfl rfl rfl nA ?_
     intro w3 n3 g3 z3
     have d0:=World.dec.grown d0 g3 (by simp;omega)
     have d1:=World.dec.grown d1 g3 (by simp;omega)
     have nB:=World.num.grown nB g3 (by simp;omega)
     have hB:=hB.grown g3 hB.size (fun k hk=>by cases hk;omega)
     clear nA
     have nA:=n3
     clear n3 g3 z3
     refine hK.out _ _ ⟨d0.c0,d0.c1,d1.c0,d1.c1⟩ (fun hHeld=> ?_)
     clear hK K hHeld
     try simp only[Act.put]
     refine wpAnyH_ready (rs:= [7]) (by kernel_rfl) (by simp) ?_
     refine(AllReadyH.cons (o:=⟨none,_,_,_,_,_⟩) rfl (fun K hK=> ?_) AllReadyH.nil)
     rw[if_pos (by rfl)]
     refine op_store56 rfl rfl rfl nB ?_
     intro w3 n3 g3 z3
     have d0:=World.dec.grown d0 g3 (by simp;omega)
     have d1:=World.dec.grown d1 g3 (by simp;omega)
     have nA:=World.num.grown nA g3 (by simp;omega)
     have hB:=hB.grown g3 hB.size (fun k hk=>by cases hk;omega)
     clear nB
     have nB:=n3
     clear n3 g3 z3
     refine hK.out _ _ ⟨d0.c0,d0.c1,d1.c0,d1.c1⟩ (fun hHeld=> ?_)
     clear hK K hHeld
     try simp only[Act.put]
     refine wpAnyH_done (by kernel_rfl) ?_ _
     try simp only[Act.put,pk1,pk2,pk3]
     go_wp2_with fail
     go_meet
     case rel=>exact⟨_,_,rfl,rfl,nA,nB,hB⟩
   ·rw[if_pos (by rfl)]
    refine op_alloc56 rfl ?_
    obtain⟨gA,nA,bA,hgA⟩:=World.new_of d1
    have d0:=World.dec.alloc d0 (.cells (numF false z96 false) 100)
    have d1:=World.dec.alloc d1 (.cells (numF false z96 false) 100)
    have hB:=Below.alloc hB hB.size (.cells (numF false z96 false) 100)
    rw[hgA]
    clear hgA
    refine hK.out _ _ ⟨d0.c0,d0.c1,d1.c0,d1.c1⟩ (fun hHeld=> ?_)
    clear hK K hHeld
    try simp only[Act.put,pk1,pk2,pk3]
    refine wpAnyH_ready (rs:= [3,5]) (by kernel_rfl) (by simp) ?_
    refine(AllReadyH.cons (o:=⟨some 35,_,_,_,_,_⟩) rfl (fun K hK=> ?_) (AllReadyH.cons (o:=⟨some 7,_,_,_,_,_⟩) rfl (fun K hK=> ?_) AllReadyH.nil))
    ·go_simp
     refine(lay_any M' E' _ q1 q2 q3 q4).mono ?_
     rintro e w2 ⟨rfl,hB2⟩
     have d0:=World.dec.below d0 hB2 d0.lt
     have d1:=World.dec.below d1 hB2 d1.lt
     have nA:=World.num.below nA hB2 nA.lt
     have hB:=hB.trans (hB2.mono hB.size)
     refine hK.out _ _ ⟨d0.c0,d0.c1,d1.c0,d1.c1⟩ (fun hHeld=> ?_)
     clear hK K hHeld
     try simp only[Act.put,pk1,pk2,pk3]
     refine wpAnyH_ready (rs:= [5]) (by kernel_rfl) (by simp) ?_
     refine(AllReadyH.cons (o:=⟨some 7,_,_,_,_,_⟩) rfl (fun K hK=> ?_) AllReadyH.nil)
     rw[if_pos (by rfl)]
     refine op_alloc56 rfl ?_
     obtain⟨gB,nB,bB,hgB⟩:=World.new_of d1
     have d0:=World.dec.alloc d0 (.cells (numF false z96 false) 100)
     have d1:=World.dec.alloc d1 (.cells (numF false z96 false) 100)
     have hAB:gA<gB:=by rw[←hgB];exact nA.lt
     have nA:=World.num.alloc nA (.cells (numF false z96 false) 100)
     have hB:=Below.alloc hB hB.size (.cells (numF false z96 false) 100)
     rw[hgB]
     clear hgB
     refine hK.out _ _ ⟨d0.c0,d0.c1,d1.c0,d1.c1⟩ (fun hHeld=> ?_)
     clear hK K hHeld
     try simp only[Act.put,pk1,pk2,pk3]
     refine wpAnyH_ready (rs:= [6]) (by kernel_rfl) (by simp) ?_
     refine(AllReadyH.cons (o:=⟨none,_,_,_,_,_⟩) rfl (fun K hK=> ?_) AllReadyH.nil)
     rw[if_pos (by rfl)]
     refine op_store56 rfl rfl rfl nA ?_
     intro w3 n3 g3 z3
     have d0:=World.dec.grown d0 g3 (by simp;omega)
     have d1:=World.dec.grown d1 g3 (by simp;omega)
     have nB:=World.num.grown nB g3 (by simp;omega)
     have hB:=hB.grown g3 hB.size (fun k hk=>by cases hk;omega)
     clear nA
     have nA:=n3
     clear n3 g3 z3
     refine hK.out _ _ ⟨d0.c0,d0.c1,d1.c0,d1.c1⟩ (fun hHeld=> ?_)
     clear hK K hHeld
     try simp only[Act.put]
     refine wpAnyH_ready (rs:= [7]) (by kernel_rfl) (by simp) ?_
     refine(AllReadyH.cons (o:=⟨none,_,_,_,_,_⟩) rfl (fun K hK=> ?_) AllReadyH.nil)
     rw[if_pos (by rfl)]
     refine op_store56 rfl rfl rfl nB ?_
     intro w3 n3 g3 z3
     have d0:=World.dec.grown d0 g3 (by simp;omega)
     have d1:=World.dec.grown d1 g3 (by simp;omega)
     have nA:=World.num.grown nA g3 (by simp;omega)
     have hB:=hB.grown g3 hB.size (fun k hk=>by cases hk;omega)
     clear nB
     have nB:=n3
     clear n3 g3 z3
     refine hK.out _ _ ⟨d0.c0,d0.c1,d1.c0,d1.c1⟩ (fun hHeld=> ?_)
     clear hK K hHeld
     try simp only[Act.put]
     refine wpAnyH_done (by kernel_rfl) ?_ _
     try simp only[Act.put,pk1,pk2,pk3]
     go_wp2_with fail
     go_meet
     case rel=>exact⟨_,_,rfl,rfl,nA,nB,hB⟩
    ·rw[if_pos (by rfl)]
     refine op_alloc56 rfl ?_
     obtain⟨gB,nB,bB,hgB⟩:=World.new_of d1
     have d0:=World.dec.alloc d0 (.cells (numF false z96 false) 100)
     have d1:=World.dec.alloc d1 (.cells (numF false z96 false) 100)
     have hAB:gA<gB:=by rw[←hgB];exact nA.lt
     have nA:=World.num.alloc nA (.cells (numF false z96 false) 100)
     have hB:=Below.alloc hB hB.size (.cells (numF false z96 false) 100)
     rw[hgB]
     clear hgB
     refine hK.out _ _ ⟨d0.c0,d0.c1,d1.c0,d1.c1⟩ (fun hHeld=> ?_)
     clear hK K hHeld
     try simp only[Act.put,pk1,pk2,pk3]
     refine wpAnyH_ready (rs:= [3]) (by kernel_rfl) (by simp) ?_
     refine(AllReadyH.cons (o:=⟨some 35,_,_,_,_,_⟩) rfl (fun K hK=> ?_) AllReadyH.nil)
     go_simp
     refine(lay_any M' E' _ q1 q2 q3 q4).mono ?_
     rintro e w2 ⟨rfl,hB2⟩
     have d0:=World.dec.below d0 hB2 d0.lt
     have d1:=World.dec.below d1 hB2 d1.lt
     have nA:=World.num.below nA hB2 nA.lt
     have nB:=World.num.below nB hB2 nB.lt
     have hB:=hB.trans (hB2.mono hB.size)
     refine hK.out _ _ ⟨d0.c0,d0.c1,d1.c0,d1.c1⟩ (fun hHeld=> ?_)
     clear hK K hHeld
     try simp only[Act.put,pk1,pk2,pk3]
     refine wpAnyH_ready (rs:= [6]) (by kernel_rfl) (by simp) ?_
     refine(AllReadyH.cons (o:=⟨none,_,_,_,_,_⟩) rfl (fun K hK=> ?_) AllReadyH.nil)
     rw[if_pos (by rfl)]
     refine op_store56 rfl rfl rfl nA ?_
     intro w3 n3 g3 z3
     have d0:=World.dec.grown d0 g3 (by simp;omega)
     have d1:=World.dec.grown d1 g3 (by simp;omega)
     have nB:=World.num.grown nB g3 (by simp;omega)
     have hB:=hB.grown g3 hB.size (fun k hk=>by cases hk;omega)
     clear nA
     have nA:=n3
     clear n3 g3 z3
     refine hK.out _ _ ⟨d0.c0,d0.c1,d1.c0,d1.c1⟩ (fun hHeld=> ?_)
     clear hK K hHeld
     try simp only[Act.put]
     refine wpAnyH_ready (rs:= [7]) (by kernel_rfl) (by simp) ?_
     refine(AllReadyH.cons (o:=⟨none,_,_,_,_,_⟩) rfl (fun K hK=> ?_) AllReadyH.nil)
     rw[if_pos (by rfl)]
     refine op_store56 rfl rfl rfl nB ?_
     intro w3 n3 g3 z3
     have d0:=World.dec.grown d0 g3 (by simp;omega)
     have d1:=World.dec.grown d1 g3 (by simp;omega)
     have nA:=World.num.grown nA g3 (by simp;omega)
     have hB:=hB.grown g3 hB.size (fun k hk=>by cases hk;omega)
     clear nB
     have nB:=n3
     clear n3 g3 z3
     refine hK.out _ _ ⟨d0.c0,d0.c1,d1.c0,d1.c1⟩ (fun hHeld=> ?_)
     clear hK K hHeld
     try simp only[Act.put]
     refine wpAnyH_done (by kernel_rfl) ?_ _
     try simp only[Act.put,pk1,pk2,pk3]
     go_wp2_with fail
     go_meet
     case rel=>exact⟨_,_,rfl,rfl,nA,nB,hB⟩
   ·rw[if_pos (by rfl)]
    refine op_alloc56 rfl ?_
    obtain⟨gB,nB,bB,hgB⟩:=World.new_of d1
    have d0:=World.dec.alloc d0 (.cells (numF false z96 false) 100)
    have d1:=World.dec.alloc d1 (.cells (numF false z96 false) 100)
    have hB:=Below.alloc hB hB.size (.cells (numF false z96 false) 100)
    rw[hgB]
    clear hgB
    refine hK.out _ _ ⟨d0.c0,d0.c1,d1.c0,d1.c1⟩ (fun hHeld=> ?_)
    clear hK K hHeld
    try simp only[Act.put,pk1,pk2,pk3]
    refine wpAnyH_ready (rs:= [3,4]) (by kernel_rfl) (by simp) ?_
    refine(AllReadyH.cons (o:=⟨some 35,_,_,_,_,_⟩) rfl (fun K hK=> ?_) (AllReadyH.cons (o:=⟨some 6,_,_,_,_,_⟩) rfl (fun K hK=> ?_) AllReadyH.nil))
    ·go_simp
     refine(lay_any M' E' _ q1 q2 q3 q4).mono ?_
     rintro e w2 ⟨rfl,hB2⟩
     have d0:=World.dec.below d0 hB2 d0.lt
     have d1:=World.dec.below d1 hB2 d1.lt
     have nB:=World.num.below nB hB2 nB.lt
     have hB:=hB.trans (hB2.mono hB.size)
     refine hK.out _ _ ⟨d0.c0,d0.c1,d1.c0,d1.c1⟩ (fun hHeld=> ?_)
     clear hK K hHeld
     try simp only[Act.put,pk1,pk2,pk3]
     refine wpAnyH_ready (rs:= [4]) (by kernel_rfl) (by simp) ?_
     refine(AllReadyH.cons (o:=⟨some 6,_,_,_,_,_⟩) rfl (fun K hK=> ?_) AllReadyH.nil)
     rw[if_pos (by rfl)]
     refine op_alloc56 rfl ?_
     obtain⟨gA,nA,bA,hgA⟩:=World.new_of d1
     have d0:=World.dec.alloc d0 (.cells (numF false z96 false) 100)
     have d1:=World.dec.alloc d1 (.cells (numF false z96 false) 100)
     have hAB:gB<gA:=by rw[←hgA];exact nB.lt
     have nB:=World.num.alloc nB (.cells (numF false z96 false) 100)
     have hB:=Below.alloc hB hB.size (.cells (numF false z96 false) 100)
     rw[hgA]
     clear hgA
     refine hK.out _ _ ⟨d0.c0,d0.c1,d1.c0,d1.c1⟩ (fun hHeld=> ?_)
     clear hK K hHeld
     try simp only[Act.put,pk1,pk2,pk3]
     refine wpAnyH_ready (rs:= [6]) (by kernel_rfl) (by simp) ?_
     refine(AllReadyH.cons (o:=⟨none,_,_,_,_,_⟩) rfl (fun K hK=> ?_) AllReadyH.nil)
     rw[if_pos (by rfl)]
     refine op_store56 rfl rfl rfl nA ?_
     intro w3 n3 g3 z3
     have d0:=World.dec.grown d0 g3 (by simp;omega)
     have d1:=World.dec.grown d1 g3 (by simp;omega)
     have nB:=World.num.grown nB g3 (by simp;omega)
     have hB:=hB.grown g3 hB.size (fun k hk=>by cases hk;omega)
     clear nA
     have nA:=n3
     clear n3 g3 z3
     refine hK.out _ _ ⟨d0.c0,d0.c1,d1.c0,d1.c1⟩ (fun hHeld=> ?_)
     clear hK K hHeld
     try simp only[Act.put]
     refine wpAnyH_ready (rs:= [7]) (by kernel_rfl) (by simp) ?_
     refine(AllReadyH.cons (o:=⟨none,_,_,_,_,_⟩) rfl (fun K hK=> ?_) AllReadyH.nil)
     rw[if_pos (by rfl)]
     refine op_store56 rfl rfl rfl nB ?_
     intro w3 n3 g3 z3
     have d0:=World.dec.grown d0 g3 (by simp;omega)
     have d1:=World.dec.grown d1 g3 (by simp;omega)
     have nA:=World.num.grown nA g3 (by simp;omega)
     have hB:=hB.grown g3 hB.size (fun k hk=>by cases hk;omega)
     clear nB
     have nB:=n3
     clear n3 g3 z3
     refine hK.out _ _ ⟨d0.c0,d0.c1,d1.c0,d1.c1⟩ (fun hHeld=> ?_)
     clear hK K hHeld
     try simp only[Act.put]
     refine wpAnyH_done (by kernel_rfl) ?_ _
     try simp only[Act.put,pk1,pk2,pk3]
     go_wp2_with fail
     go_meet
     case rel=>exact⟨_,_,rfl,rfl,nA,nB,hB⟩
    ·rw[if_pos (by rfl)]
     refine op_alloc56 rfl ?_
     obtain⟨gA,nA,bA,hgA⟩:=World.new_of d1
     have d0:=World.dec.alloc d0 (.cells (numF false z96 false) 100)
     have d1:=World.dec.alloc d1 (.cells (numF false z96 false) 100)
     have hAB:gB<gA:=by rw[←hgA];exact nB.lt
     have nB:=World.num.alloc nB (.cells (numF false z96 false) 100)
     have hB:=Below.alloc hB hB.size (.cells (numF false z96 false) 100)
     rw[hgA]
     clear hgA
     refine hK.out _ _ ⟨d0.c0,d0.c1,d1.c0,d1.c1⟩ (fun hHeld=> ?_)
     clear hK K hHeld
     try simp only[Act.put,pk1,pk2,pk3]
     refine wpAnyH_ready (rs:= [3]) (by kernel_rfl) (by simp) ?_
     refine(AllReadyH.cons (o:=⟨some 35,_,_,_,_,_⟩) rfl (fun K hK=> ?_) AllReadyH.nil)
     go_simp
     refine(lay_any M' E' _ q1 q2 q3 q4).mono ?_
     rintro e w2 ⟨rfl,hB2⟩
     have d0:=World.dec.below d0 hB2 d0.lt
     have d1:=World.dec.below d1 hB2 d1.lt
     have nA:=World.num.below nA hB2 nA.lt
     have nB:=World.num.below nB hB2 nB.lt
     have hB:=hB.trans (hB2.mono hB.size)
     refine hK.out _ _ ⟨d0.c0,d0.c1,d1.c0,d1.c1⟩ (fun hHeld=> ?_)
     clear hK K hHeld
     try simp only[Act.put,pk1,pk2,pk3]
     refine wpAnyH_ready (rs:= [6]) (by kernel_rfl) (by simp) ?_
     refine(AllReadyH.cons (o:=⟨none,_,_,_,_,_⟩) rfl (fun K hK=> ?_) AllReadyH.nil)
     rw[if_pos (by rfl)]
     refine op_store56 rfl rfl rfl nA ?_
     intro w3 n3 g3 z3
     have d0:=World.dec.grown d0 g3 (by simp;omega)
     have d1:=World.dec.grown d1 g3 (by simp;omega)
     have nB:=World.num.grown nB g3 (by simp;omega)
     have hB:=hB.grown g3 hB.size (fun k hk=>by cases hk;omega)
     clear nA
     have nA:=n3
     clear n3 g3 z3
     refine hK.out _ _ ⟨d0.c0,d0.c1,d1.c0,d1.c1⟩ (fun hHeld=> ?_)
     clear hK K hHeld
     try simp only[Act.put]
     refine wpAnyH_ready (rs:= [7]) (by kernel_rfl) (by simp) ?_
     refine(AllReadyH.cons (o:=⟨none,_,_,_,_,_⟩) rfl (fun K hK=> ?_) AllReadyH.nil)
     rw[if_pos (by rfl)]
     refine op_store56 rfl rfl rfl nB ?_
     intro w3 n3 g3 z3
     have d0:=World.dec.grown d0 g3 (by simp;omega)
     have d1:=World.dec.grown d1 g3 (by simp;omega)
     have nA:=World.num.grown nA g3 (by simp;omega)
     have hB:=hB.grown g3 hB.size (fun k hk=>by cases hk;omega)
     clear nB
     have nB:=n3
     clear n3 g3 z3
     refine hK.out _ _ ⟨d0.c0,d0.c1,d1.c0,d1.c1⟩ (fun hHeld=> ?_)
     clear hK K hHeld
     try simp only[Act.put]
     refine wpAnyH_done (by kernel_rfl) ?_ _
     try simp only[Act.put,pk1,pk2,pk3]
     go_wp2_with fail
     go_meet
     case rel=>exact⟨_,_,rfl,rfl,nA,nB,hB⟩
  ·rw[if_pos (by rfl)]
   refine op_alloc56 rfl ?_
   obtain⟨gA,nA,bA,hgA⟩:=World.new_of d1
   have d0:=World.dec.alloc d0 (.cells (numF false z96 false) 100)
   have d1:=World.dec.alloc d1 (.cells (numF false z96 false) 100)
   have hB:=Below.alloc hB hB.size (.cells (numF false z96 false) 100)
   rw[hgA]
   clear hgA
   refine hK.out _ _ ⟨d0.c0,d0.c1,d1.c0,d1.c1⟩ (fun hHeld=> ?_)
   clear hK K hHeld
   try simp only[Act.put]
   refine wpAnyH_ready (rs:= [1,5]) (by kernel_rfl) (by simp) ?_
   refine(AllReadyH.cons (o:=⟨some 33,_,_,_,_,_⟩) rfl (fun K hK=> ?_) (AllReadyH.cons (o:=⟨some 7,_,_,_,_,_⟩) rfl (fun K hK=> ?_) AllReadyH.nil))
   ·go_simp
    refine(lay_any M E _ r1 r2 r3 r4).mono ?_
    rintro e w2 ⟨rfl,hB2⟩
    have d0:=World.dec.below d0 hB2 d0.lt
    have d1:=World.dec.below d1 hB2 d1.lt
    have nA:=World.num.below nA hB2 nA.lt
    have hB:=hB.trans (hB2.mono hB.size)
    refine hK.out _ _ ⟨d0.c0,d0.c1,d1.c0,d1.c1⟩ (fun hHeld=> ?_)
    clear hK K hHeld
    try simp only[Act.put,pk1,pk2,pk3]
    refine wpAnyH_ready (rs:= [3,5]) (by kernel_rfl) (by simp) ?_
    refine(AllReadyH.cons (o:=⟨some 35,_,_,_,_,_⟩) rfl (fun K hK=> ?_) (AllReadyH.cons (o:=⟨some 7,_,_,_,_,_⟩) rfl (fun K hK=> ?_) AllReadyH.nil))
    ·go_simp
     refine(lay_any M' E' _ q1 q2 q3 q4).mono ?_
     rintro e w2 ⟨rfl,hB2⟩
     have d0:=World.dec.below d0 hB2 d0.lt
     have d1:=World.dec.below d1 hB2 d1.lt
     have nA:=World.num.below nA hB2 nA.lt
     have hB:=hB.trans (hB2.mono hB.size)
     refine hK.out _ _ ⟨d0.c0,d0.c1,d1.c0,d1.c1⟩ (fun hHeld=> ?_)
     clear hK K hHeld
     try simp only[Act.put,pk1,pk2,pk3]
     refine wpAnyH_ready (rs:= [5]) (by kernel_rfl) (by simp) ?_
     refine(AllReadyH.cons (o:=⟨some 7,_,_,_,_,_⟩) rfl (fun K hK=> ?_) AllReadyH.nil)
     rw[if_pos (by rfl)]
     refine op_alloc56 rfl ?_
     obtain⟨gB,nB,bB,hgB⟩:=World.new_of d1
     have d0:=World.dec.alloc d0 (.cells (numF false z96 false) 100)
     have d1:=World.dec.alloc d1 (.cells (numF false z96 false) 100)
     have hAB:gA<gB:=by rw[←hgB];exact nA.lt
     have nA:=World.num.alloc nA (.cells (numF false z96 false) 100)
     have hB:=Below.alloc hB hB.size (.cells (numF false z96 false) 100)
     rw[hgB]
     clear hgB
     refine hK.out _ _ ⟨d0.c0,d0.c1,d1.c0,d1.c1⟩ (fun hHeld=> ?_)
     clear hK K hHeld
     try simp only[Act.put,pk1,pk2,pk3]
     refine wpAnyH_ready (rs:= [6]) (by kernel_rfl) (by simp) ?_
     refine(AllReadyH.cons (o:=⟨none,_,_,_,_,_⟩) rfl (fun K hK=> ?_) AllReadyH.nil)
     rw[if_pos (by rfl)]
     refine op_store56 rfl rfl rfl nA ?_
     intro w3 n3 g3 z3
     have d0:=World.dec.grown d0 g3 (by simp;omega)
     have d1:=World.dec.grown d1 g3 (by simp;omega)
     have nB:=World.num.grown nB g3 (by simp;omega)
     have hB:=hB.grown g3 hB.size (fun k hk=>by cases hk;omega)
     clear nA
     have nA:=n3
     clear n3 g3 z3
     refine hK.out _ _ ⟨d0.c0,d0.c1,d1.c0,d1.c1⟩ (fun hHeld=> ?_)
     clear hK K hHeld
     try simp only[Act.put]
     refine wpAnyH_ready (rs:= [7]) (by kernel_rfl) (by simp) ?_
     refine(AllReadyH.cons (o:=⟨none,_,_,_,_,_⟩) rfl (fun K hK=> ?_) AllReadyH.nil)
     rw[if_pos (by rfl)]
     refine op_store56 rfl rfl rfl nB ?_
     intro w3 n3 g3 z3
     have d0:=World.dec.grown d0 g3 (by simp;omega)
     have d1:=World.dec.grown d1 g3 (by simp;omega)
     have nA:=World.num.grown nA g3 (by simp;omega)
     have hB:=hB.grown g3 hB.size (fun k hk=>by cases hk;omega)
     clear nB
     have nB:=n3
     clear n3 g3 z3
     refine hK.out _ _ ⟨d0.c0,d0.c1,d1.c0,d1.c1⟩ (fun hHeld=> ?_)
     clear hK K hHeld
     try simp only[Act.put]
     refine wpAnyH_done (by kernel_rfl) ?_ _
     try simp only[Act.put,pk1,pk2,pk3]
     go_wp2_with fail
     go_meet
     case rel=>exact⟨_,_,rfl,rfl,nA,nB,hB⟩
    ·rw[if_pos (by rfl)]
     refine op_alloc56 rfl ?_
     obtain⟨gB,nB,bB,hgB⟩:=World.new_of d1
     have d0:=World.dec.alloc d0 (.cells (numF false z96 false) 100)
     have d1:=World.dec.alloc d1 (.cells (numF false z96 false) 100)
     have hAB:gA<gB:=by rw[←hgB];exact nA.lt
     have nA:=World.num.alloc nA (.cells (numF false z96 false) 100)
     have hB:=Below.alloc hB hB.size (.cells (numF false z96 false) 100)
     rw[hgB]
     clear hgB
     refine hK.out _ _ ⟨d0.c0,d0.c1,d1.c0,d1.c1⟩ (fun hHeld=> ?_)
     clear hK K hHeld
     try simp only[Act.put,pk1,pk2,pk3]
     refine wpAnyH_ready (rs:= [3]) (by kernel_rfl) (by simp) ?_
     refine(AllReadyH.cons (o:=⟨some 35,_,_,_,_,_⟩) rfl (fun K hK=> ?_) AllReadyH.nil)
     go_simp
     refine(lay_any M' E' _ q1 q2 q3 q4).mono ?_
     rintro e w2 ⟨rfl,hB2⟩
     have d0:=World.dec.below d0 hB2 d0.lt
     have d1:=World.dec.below d1 hB2 d1.lt
     have nA:=World.num.below nA hB2 nA.lt
     have nB:=World.num.below nB hB2 nB.lt
     have hB:=hB.trans (hB2.mono hB.size)
     refine hK.out _ _ ⟨d0.c0,d0.c1,d1.c0,d1.c1⟩ (fun hHeld=> ?_)
     clear hK K hHeld
     try simp only[Act.put,pk1,pk2,pk3]
     refine wpAnyH_ready (rs:= [6]) (by kernel_rfl) (by simp) ?_
     refine(AllReadyH.cons (o:=⟨none,_,_,_,_,_⟩) rfl (fun K hK=> ?_) AllReadyH.nil)
     rw[if_pos (by rfl)]
     refine op_store56 rfl rfl rfl nA ?_
     intro w3 n3 g3 z3
     have d0:=World.dec.grown d0 g3 (by simp;omega)
     have d1:=World.dec.grown d1 g3 (by simp;omega)
     have nB:=World.num.grown nB g3 (by simp;omega)
     have hB:=hB.grown g3 hB.size (fun k hk=>by cases hk;omega)
     clear nA
     have nA:=n3
     clear n3 g3 z3
     refine hK.out _ _ ⟨d0.c0,d0.c1,d1.c0,d1.c1⟩ (fun hHeld=> ?_)
     clear hK K hHeld
     try simp only[Act.put]
     refine wpAnyH_ready (rs:= [7]) (by kernel_rfl) (by simp) ?_
     refine(AllReadyH.cons (o:=⟨none,_,_,_,_,_⟩) rfl (fun K hK=> ?_) AllReadyH.nil)
     rw[if_pos (by rfl)]
     refine op_store56 rfl rfl rfl nB ?_
     intro w3 n3 g3 z3
     have d0:=World.dec.grown d0 g3 (by simp;omega)
     have d1:=World.dec.grown d1 g3 (by simp;omega)
     have nA:=World.num.grown nA g3 (by simp;omega)
     have hB:=hB.grown g3 hB.size (fun k hk=>by cases hk;omega)
     clear nB
     have nB:=n3
     clear n3 g3 z3
     refine hK.out _ _ ⟨d0.c0,d0.c1,d1.c0,d1.c1⟩ (fun hHeld=> ?_)
     clear hK K hHeld
     try simp only[Act.put]
     refine wpAnyH_done (by kernel_rfl) ?_ _
     try simp only[Act.put,pk1,pk2,pk3]
     go_wp2_with fail
     go_meet
     case rel=>exact⟨_,_,rfl,rfl,nA,nB,hB⟩
   ·rw[if_pos (by rfl)]
    refine op_alloc56 rfl ?_
    obtain⟨gB,nB,bB,hgB⟩:=World.new_of d1
    have d0:=World.dec.alloc d0 (.cells (numF false z96 false) 100)
    have d1:=World.dec.alloc d1 (.cells (numF false z96 false) 100)
    have hAB:gA<gB:=by rw[←hgB];exact nA.lt
    have nA:=World.num.alloc nA (.cells (numF false z96 false) 100)
    have hB:=Below.alloc hB hB.size (.cells (numF false z96 false) 100)
    rw[hgB]
    clear hgB
    refine hK.out _ _ ⟨d0.c0,d0.c1,d1.c0,d1.c1⟩ (fun hHeld=> ?_)
    clear hK K hHeld
    try simp only[Act.put]
    refine wpAnyH_ready (rs:= [1]) (by kernel_rfl) (by simp) ?_
    refine(AllReadyH.cons (o:=⟨some 33,_,_,_,_,_⟩) rfl (fun K hK=> ?_) AllReadyH.nil)
    go_simp
    refine(lay_any M E _ r1 r2 r3 r4).mono ?_
    rintro e w2 ⟨rfl,hB2⟩
    have d0:=World.dec.below d0 hB2 d0.lt
    have d1:=World.dec.below d1 hB2 d1.lt
    have nA:=World.num.below nA hB2 nA.lt
    have nB:=World.num.below nB hB2 nB.lt
    have hB:=hB.trans (hB2.mono hB.size)
    refine hK.out _ _ ⟨d0.c0,d0.c1,d1.c0,d1.c1⟩ (fun hHeld=> ?_)
    clear hK K hHeld
    try simp only[Act.put,pk1,pk2,pk3]
    refine wpAnyH_ready (rs:= [3]) (by kernel_rfl) (by simp) ?_
    refine(AllReadyH.cons (o:=⟨some 35,_,_,_,_,_⟩) rfl (fun K hK=> ?_) AllReadyH.nil)
    go_simp
    refine(lay_any M' E' _ q1 q2 q3 q4).mono ?_
    rintro e w2 ⟨rfl,hB2⟩
    have d0:=World.dec.below d0 hB2 d0.lt
    have d1:=World.dec.below d1 hB2 d1.lt
    have nA:=World.num.below nA hB2 nA.lt
    have nB:=World.num.below nB hB2 nB.lt
    have hB:=hB.trans (hB2.mono hB.size)
    refine hK.out _ _ ⟨d0.c0,d0.c1,d1.c0,d1.c1⟩ (fun hHeld=> ?_)
    clear hK K hHeld
    try simp only[Act.put,pk1,pk2,pk3]
    refine wpAnyH_ready (rs:= [6]) (by kernel_rfl) (by simp) ?_
    refine(AllReadyH.cons (o:=⟨none,_,_,_,_,_⟩) rfl (fun K hK=> ?_) AllReadyH.nil)
    rw[if_pos (by rfl)]
    refine op_store56 rfl rfl rfl nA ?_
    intro w3 n3 g3 z3
    have d0:=World.dec.grown d0 g3 (by simp;omega)
    have d1:=World.dec.grown d1 g3 (by simp;omega)
    have nB:=World.num.grown nB g3 (by simp;omega)
    have hB:=hB.grown g3 hB.size (fun k hk=>by cases hk;omega)
    clear nA
    have nA:=n3
    clear n3 g3 z3
    refine hK.out _ _ ⟨d0.c0,d0.c1,d1.c0,d1.c1⟩ (fun hHeld=> ?_)
    clear hK K hHeld
    try simp only[Act.put]
    refine wpAnyH_ready (rs:= [7]) (by kernel_rfl) (by simp) ?_
    refine(AllReadyH.cons (o:=⟨none,_,_,_,_,_⟩) rfl (fun K hK=> ?_) AllReadyH.nil)
    rw[if_pos (by rfl)]
    refine op_store56 rfl rfl rfl nB ?_
    intro w3 n3 g3 z3
    have d0:=World.dec.grown d0 g3 (by simp;omega)
    have d1:=World.dec.grown d1 g3 (by simp;omega)
    have nA:=World.num.grown nA g3 (by simp;omega)
    have hB:=hB.grown g3 hB.size (fun k hk=>by cases hk;omega)
    clear nB
    have nB:=n3
    clear n3 g3 z3
    refine hK.out _ _ ⟨d0.c0,d0.c1,d1.c0,d1.c1⟩ (fun hHeld=> ?_)
    clear hK K hHeld
    try simp only[Act.put]
    refine wpAnyH_done (by kernel_rfl) ?_ _
    try simp only[Act.put,pk1,pk2,pk3]
    go_wp2_with fail
    go_meet
    case rel=>exact⟨_,_,rfl,rfl,nA,nB,hB⟩
  ·rw[if_pos (by rfl)]
   refine op_alloc56 rfl ?_
   obtain⟨gB,nB,bB,hgB⟩:=World.new_of d1
   have d0:=World.dec.alloc d0 (.cells (numF false z96 false) 100)
   have d1:=World.dec.alloc d1 (.cells (numF false z96 false) 100)
   have hB:=Below.alloc hB hB.size (.cells (numF false z96 false) 100)
   rw[hgB]
   clear hgB
   refine hK.out _ _ ⟨d0.c0,d0.c1,d1.c0,d1.c1⟩ (fun hHeld=> ?_)
   clear hK K hHeld
   try simp only[Act.put]
   refine wpAnyH_ready (rs:= [1,4]) (by kernel_rfl) (by simp) ?_
   refine(AllReadyH.cons (o:=⟨some 33,_,_,_,_,_⟩) rfl (fun K hK=> ?_) (AllReadyH.cons (o:=⟨some 6,_,_,_,_,_⟩) rfl (fun K hK=> ?_) AllReadyH.nil))
   ·go_simp
    refine(lay_any M E _ r1 r2 r3 r4).mono ?_
    rintro e w2 ⟨rfl,hB2⟩
    have d0:=World.dec.below d0 hB2 d0.lt
    have d1:=World.dec.below d1 hB2 d1.lt
    have nB:=World.num.below nB hB2 nB.lt
    have hB:=hB.trans (hB2.mono hB.size)
    refine hK.out _ _ ⟨d0.c0,d0.c1,d1.c0,d1.c1⟩ (fun hHeld=> ?_)
    clear hK K hHeld
    try simp only[Act.put,pk1,pk2,pk3]
    refine wpAnyH_ready (rs:= [3,4]) (by kernel_rfl) (by simp) ?_
    refine(AllReadyH.cons (o:=⟨some 35,_,_,_,_,_⟩) rfl (fun K hK=> ?_) (AllReadyH.cons (o:=⟨some 6,_,_,_,_,_⟩) rfl (fun K hK=> ?_) AllReadyH.nil))
    ·go_simp
     refine(lay_any M' E' _ q1 q2 q3 q4).mono ?_
     rintro e w2 ⟨rfl,hB2⟩
     have d0:=World.dec.below d0 hB2 d0.lt
     have d1:=World.dec.below d1 hB2 d1.lt
     have nB:=World.num.below nB hB2 nB.lt
     have hB:=hB.trans (hB2.mono hB.size)
     refine hK.out _ _ ⟨d0.c0,d0.c1,d1.c0,d1.c1⟩ (fun hHeld=> ?_)
     clear hK K hHeld
     try simp only[Act.put,pk1,pk2,pk3]
     refine wpAnyH_ready (rs:= [4]) (by kernel_rfl) (by simp) ?_
     refine(AllReadyH.cons (o:=⟨some 6,_,_,_,_,_⟩) rfl (fun K hK=> ?_) AllReadyH.nil)
     rw[if_pos (by rfl)]
     refine op_alloc56 rfl ?_
     obtain⟨gA,nA,bA,hgA⟩:=World.new_of d1
     have d0:=World.dec.alloc d0 (.cells (numF false z96 false) 100)
     have d1:=World.dec.alloc d1 (.cells (numF false z96 false) 100)
     have hAB:gB<gA:=by rw[←hgA];exact nB.lt
     have nB:=World.num.alloc nB (.cells (numF false z96 false) 100)
     have hB:=Below.alloc hB hB.size (.cells (numF false z96 false) 100)
     rw[hgA]
     clear hgA
     refine hK.out _ _ ⟨d0.c0,d0.c1,d1.c0,d1.c1⟩ (fun hHeld=> ?_)
     clear hK K hHeld
     try simp only[Act.put,pk1,pk2,pk3]
     refine wpAnyH_ready (rs:= [6]) (by kernel_rfl) (by simp) ?_
     refine(AllReadyH.cons (o:=⟨none,_,_,_,_,_⟩) rfl (fun K hK=> ?_) AllReadyH.nil)
     rw[if_pos (by rfl)]
     refine op_store56 rfl rfl rfl nA ?_
     intro w3 n3 g3 z3
     have d0:=World.dec.grown d0 g3 (by simp;omega)
     have d1:=World.dec.grown d1 g3 (by simp;omega)
     have nB:=World.num.grown nB g3 (by simp;omega)
     have hB:=hB.grown g3 hB.size (fun k hk=>by cases hk;omega)
     clear nA
     have nA:=n3
     clear n3 g3 z3
     refine hK.out _ _ ⟨d0.c0,d0.c1,d1.c0,d1.c1⟩ (fun hHeld=> ?_)
     clear hK K hHeld
     try simp only[Act.put]
     refine wpAnyH_ready (rs:= [7]) (by kernel_rfl) (by simp) ?_
     refine(AllReadyH.cons (o:=⟨none,_,_,_,_,_⟩) rfl (fun K hK=> ?_) AllReadyH.nil)
     rw[if_pos (by rfl)]
     refine op_store56 rfl rfl rfl nB ?_
     intro w3 n3 g3 z3
     have d0:=World.dec.grown d0 g3 (by simp;omega)
     have d1:=World.dec.grown d1 g3 (by simp;omega)
     have nA:=World.num.grown nA g3 (by simp;omega)
     have hB:=hB.grown g3 hB.size (fun k hk=>by cases hk;omega)
     clear nB
     have nB:=n3
     clear n3 g3 z3
     refine hK.out _ _ ⟨d0.c0,d0.c1,d1.c0,d1.c1⟩ (fun hHeld=> ?_)
     clear hK K hHeld
     try simp only[Act.put]
     refine wpAnyH_done (by kernel_rfl) ?_ _
     try simp only[Act.put,pk1,pk2,pk3]
     go_wp2_with fail
     go_meet
     case rel=>exact⟨_,_,rfl,rfl,nA,nB,hB⟩
    ·rw[if_pos (by rfl)]
     refine op_alloc56 rfl ?_
     obtain⟨gA,nA,bA,hgA⟩:=World.new_of d1
     have d0:=World.dec.alloc d0 (.cells (numF false z96 false) 100)
     have d1:=World.dec.alloc d1 (.cells (numF false z96 false) 100)
     have hAB:gB<gA:=by rw[←hgA];exact nB.lt
     have nB:=World.num.alloc nB (.cells (numF false z96 false) 100)
     have hB:=Below.alloc hB hB.size (.cells (numF false z96 false) 100)
     rw[hgA]
     clear hgA
     refine hK.out _ _ ⟨d0.c0,d0.c1,d1.c0,d1.c1⟩ (fun hHeld=> ?_)
     clear hK K hHeld
     try simp only[Act.put,pk1,pk2,pk3]
     refine wpAnyH_ready (rs:= [3]) (by kernel_rfl) (by simp) ?_
     refine(AllReadyH.cons (o:=⟨some 35,_,_,_,_,_⟩) rfl (fun K hK=> ?_) AllReadyH.nil)
     go_simp
     refine(lay_any M' E' _ q1 q2 q3 q4).mono ?_
     rintro e w2 ⟨rfl,hB2⟩
     have d0:=World.dec.below d0 hB2 d0.lt
     have d1:=World.dec.below d1 hB2 d1.lt
     have nA:=World.num.below nA hB2 nA.lt
     have nB:=World.num.below nB hB2 nB.lt
     have hB:=hB.trans (hB2.mono hB.size)
     refine hK.out _ _ ⟨d0.c0,d0.c1,d1.c0,d1.c1⟩ (fun hHeld=> ?_)
     clear hK K hHeld
     try simp only[Act.put,pk1,pk2,pk3]
     refine wpAnyH_ready (rs:= [6]) (by kernel_rfl) (by simp) ?_
     refine(AllReadyH.cons (o:=⟨none,_,_,_,_,_⟩) rfl (fun K hK=> ?_) AllReadyH.nil)
     rw[if_pos (by rfl)]
     refine op_store56 rfl rfl rfl nA ?_
     intro w3 n3 g3 z3
     have d0:=World.dec.grown d0 g3 (by simp;omega)
     have d1:=World.dec.grown d1 g3 (by simp;omega)
     have nB:=World.num.grown nB g3 (by simp;omega)
     have hB:=hB.grown g3 hB.size (fun k hk=>by cases hk;omega)
     clear nA
     have nA:=n3
     clear n3 g3 z3
     refine hK.out _ _ ⟨d0.c0,d0.c1,d1.c0,d1.c1⟩ (fun hHeld=> ?_)
     clear hK K hHeld
     try simp only[Act.put]
     refine wpAnyH_ready (rs:= [7]) (by kernel_rfl) (by simp) ?_
     refine(AllReadyH.cons (o:=⟨none,_,_,_,_,_⟩) rfl (fun K hK=> ?_) AllReadyH.nil)
     rw[if_pos (by rfl)]
     refine op_store56 rfl rfl rfl nB ?_
     intro w3 n3 g3 z3
     have d0:=World.dec.grown d0 g3 (by simp;omega)
     have d1:=World.dec.grown d1 g3 (by simp;omega)
     have nA:=World.num.grown nA g3 (by simp;omega)
     have hB:=hB.grown g3 hB.size (fun k hk=>by cases hk;omega)
     clear nB
     have nB:=n3
     clear n3 g3 z3
     refine hK.out _ _ ⟨d0.c0,d0.c1,d1.c0,d1.c1⟩ (fun hHeld=> ?_)
     clear hK K hHeld
     try simp only[Act.put]
     refine wpAnyH_done (by kernel_rfl) ?_ _
     try simp only[Act.put,pk1,pk2,pk3]
     go_wp2_with fail
     go_meet
     case rel=>exact⟨_,_,rfl,rfl,nA,nB,hB⟩
   ·rw[if_pos (by rfl)]
    refine op_alloc56 rfl ?_
    obtain⟨gA,nA,bA,hgA⟩:=World.new_of d1
    have d0:=World.dec.alloc d0 (.cells (numF false z96 false) 100)
    have d1:=World.dec.alloc d1 (.cells (numF false z96 false) 100)
    have hAB:gB<gA:=by rw[←hgA];exact nB.lt
    have nB:=World.num.alloc nB (.cells (numF false z96 false) 100)
    have hB:=Below.alloc hB hB.size (.cells (numF false z96 false) 100)
    rw[hgA]
    clear hgA
    refine hK.out _ _ ⟨d0.c0,d0.c1,d1.c0,d1.c1⟩ (fun hHeld=> ?_)
    clear hK K hHeld
    try simp only[Act.put]
    refine wpAnyH_ready (rs:= [1]) (by kernel_rfl) (by simp) ?_
    refine(AllReadyH.cons (o:=⟨some 33,_,_,_,_,_⟩) rfl (fun K hK=> ?_) AllReadyH.nil)
    go_simp
    refine(lay_any M E _ r1 r2 r3 r4).mono ?_
    rintro e w2 ⟨rfl,hB2⟩
    have d0:=World.dec.below d0 hB2 d0.lt
    have d1:=World.dec.below d1 hB2 d1.lt
    have nA:=World.num.below nA hB2 nA.lt
    have nB:=World.num.below nB hB2 nB.lt
    have hB:=hB.trans (hB2.mono hB.size)
    refine hK.out _ _ ⟨d0.c0,d0.c1,d1.c0,d1.c1⟩ (fun hHeld=> ?_)
    clear hK K hHeld
    try simp only[Act.put,pk1,pk2,pk3]
    refine wpAnyH_ready (rs:= [3]) (by kernel_rfl) (by simp) ?_
    refine(AllReadyH.cons (o:=⟨some 35,_,_,_,_,_⟩) rfl (fun K hK=> ?_) AllReadyH.nil)
    go_simp
    refine(lay_any M' E' _ q1 q2 q3 q4).mono ?_
    rintro e w2 ⟨rfl,hB2⟩
    have d0:=World.dec.below d0 hB2 d0.lt
    have d1:=World.dec.below d1 hB2 d1.lt
    have nA:=World.num.below nA hB2 nA.lt
    have nB:=World.num.below nB hB2 nB.lt
    have hB:=hB.trans (hB2.mono hB.size)
    refine hK.out _ _ ⟨d0.c0,d0.c1,d1.c0,d1.c1⟩ (fun hHeld=> ?_)
    clear hK K hHeld
    try simp only[Act.put,pk1,pk2,pk3]
    refine wpAnyH_ready (rs:= [6]) (by kernel_rfl) (by simp) ?_
    refine(AllReadyH.cons (o:=⟨none,_,_,_,_,_⟩) rfl (fun K hK=> ?_) AllReadyH.nil)
    rw[if_pos (by rfl)]
    refine op_store56 rfl rfl rfl nA ?_
    intro w3 n3 g3 z3
    have d0:=World.dec.grown d0 g3 (by simp;omega)
    have d1:=World.dec.grown d1 g3 (by simp;omega)
    have nB:=World.num.grown nB g3 (by simp;omega)
    have hB:=hB.grown g3 hB.size (fun k hk=>by cases hk;omega)
    clear nA
    have nA:=n3
    clear n3 g3 z3
    refine hK.out _ _ ⟨d0.c0,d0.c1,d1.c0,d1.c1⟩ (fun hHeld=> ?_)
    clear hK K hHeld
    try simp only[Act.put]
    refine wpAnyH_ready (rs:= [7]) (by kernel_rfl) (by simp) ?_
    refine(AllReadyH.cons (o:=⟨none,_,_,_,_,_⟩) rfl (fun K hK=> ?_) AllReadyH.nil)
    rw[if_pos (by rfl)]
    refine op_store56 rfl rfl rfl nB ?_
    intro w3 n3 g3 z3
    have d0:=World.dec.grown d0 g3 (by simp;omega)
    have d1:=World.dec.grown d1 g3 (by simp;omega)
    have nA:=World.num.grown nA g3 (by simp;omega)
    have hB:=hB.grown g3 hB.size (fun k hk=>by cases hk;omega)
    clear nB
    have nB:=n3
    clear n3 g3 z3
    refine hK.out _ _ ⟨d0.c0,d0.c1,d1.c0,d1.c1⟩ (fun hHeld=> ?_)
    clear hK K hHeld
    try simp only[Act.put]
    refine wpAnyH_done (by kernel_rfl) ?_ _
    try simp only[Act.put,pk1,pk2,pk3]
    go_wp2_with fail
    go_meet
    case rel=>exact⟨_,_,rfl,rfl,nA,nB,hB⟩
 case rest=>
 obtain⟨gA,gB,rfl,rfl,nA,nB,hB⟩:=hcut
 clear a0 a1 b0 b1
 go_wp2_with fail
 refine(greater_any _ _ _ _ _ _ _ _ _ nA nB).mono ?_
 rintro e w4 ⟨rfl,n4,rfl⟩
 have hB:=below_drewN hB n4
 obtain⟨s0,s1⟩:=signI_bd M
 cases hg:gtF (dg (layD M E)) (dg (layD M' E')) 96
 ·have Hg:=Lib.hid hg
  clear hg
  go_wp2_with fail
  go_ret
  exact⟨by rw[cmpS,Hg.out];rfl,hB⟩
 ·have Hg:=Lib.hid hg
  clear hg
  go_wp2_with fail
  go_ret
  exact⟨by rw[cmpS,Hg.out];rfl,hB⟩
/-- How two decimals stand. -/
def cmpR (M E M' E':Int):Int:=
 if M=M'∧E=E' then 0 else if M<0∧¬M'<0 then -1 else if ¬M<0∧M'<0 then 1
 else if M<0 then(if layD M' E'<layD M E then -1 else 1)else(if layD M' E'<layD M E then 1 else -1)
def cmpD (M E M' E':Int):Int:=if rightB M E=true∧rightB M' E'=true then cmpR M E M' E' else 0
theorem cmp_any (M E M' E':Int) (w:World) (h0: -9223372036854775808≤M) (h1:M≤9223372036854775807) (h0': -9223372036854775808≤M') (h1':M'≤9223372036854775807):
 Calls Tryz.prog 116 #[.agg #[.int .i64 M,.int .i64 E],.agg #[.int .i64 M',.int .i64 E']] w (CmpPost (cmpD M E M' E') w):=by
 unfold cmpD
 by_cases hr:rightB M E=true
 ·by_cases hr':rightB M' E'=true
  ·rw[if_pos ⟨hr,hr'⟩]
   unfold cmpR
   by_cases he:M=M'∧E=E'
   ·rw[if_pos he];obtain⟨rfl,rfl⟩:=he;exact cmp_eq M E w h0 h1 hr
   ·rw[if_neg he]
    have hde:(M==M'&&E==E')=false:=by rw[Bool.eq_false_iff];simpa using he
    have l1:layD M E<10 ^ 96:=Nat.lt_trans (layD_lt hr) (by decide)
    have l2:layD M' E'<10 ^ 96:=Nat.lt_trans (layD_lt hr') (by decide)
    have hgt:=gtF_lt l1 l2
    by_cases a:M<0
    ·by_cases b:M'<0
     ·have:=cmp_same M E M' E' w h0 h1 h0' h1' hr hr' hde (by show _=_;simp[a,b])
      rw[cmpS,hgt,if_pos a]at this
      rw[if_neg (by omega),if_neg (by omega),if_pos a]
      by_cases g:layD M' E'<layD M E
      ·rw[if_pos g];rw[if_pos (by simpa using g)]at this;exact this
      ·rw[if_neg g];rw[if_neg (by simpa using g)]at this;exact this
     ·rw[if_pos ⟨a,b⟩];exact cmp_s1 M E M' E' w h0 h1 h0' h1' hr hr' hde (by simpa using a) (by simpa using b)
    ·by_cases b:M'<0
     ·rw[if_neg (by omega),if_pos ⟨a,b⟩];exact cmp_s0 M E M' E' w h0 h1 h0' h1' hr hr' hde (by simpa using a) (by simpa using b)
     ·have:=cmp_same M E M' E' w h0 h1 h0' h1' hr hr' hde (by show _=_;simp[a,b])
      rw[cmpS,hgt,if_neg a]at this
      rw[if_neg (by omega),if_neg (by omega),if_neg a]
      by_cases g:layD M' E'<layD M E
      ·rw[if_pos g];rw[if_pos (by simpa using g)]at this;exact this
      ·rw[if_neg g];rw[if_neg (by simpa using g)]at this;exact this
  ·rw[if_neg (fun h=>hr' h.2)];exact cmp_no2 M E M' E' w h0 h1 h0' h1' hr (by simpa using hr')
 ·rw[if_neg (fun h=>hr h.1)];exact cmp_no1 M E M' E' w h0 h1 h0' h1' (by simpa using hr)
end Go.Proofs.YtkhohjdakcchdaaGreatDoor
