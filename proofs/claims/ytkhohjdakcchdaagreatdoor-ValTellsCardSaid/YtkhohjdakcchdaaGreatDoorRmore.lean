/- Merged: Rsub, Rcmp, Rround, Rfloor, Rof. -/
import Derived.Test.YtkhohjdakcchdaaGreatDoorRops
import Derived.Deep.RegionHeld3
import Derived.Deep.RegionWith
namespace Go.Proofs.YtkhohjdakcchdaaGreatDoor
open Go.RowKit Go.Shelf
set_option maxRecDepth 100000 in
set_option maxHeartbeats 4000000 in
theorem rcmp_no1 (M E M' E':Int) (w:World) (h0: -9223372036854775808≤M) (h1:M≤9223372036854775807) (_h0': -9223372036854775808≤M') (_h1':M'≤9223372036854775807) (hr:rightB M E=false):
 Calls Tryz.prog 128 #[.agg #[.int .i64 M,.int .i64 E],.agg #[.int .i64 M',.int .i64 E']] w (CmpPost (0) w):=by
 go_enter Tryz.func128,Tryz.ntmps128
 go_wp2_with fail
 obtain⟨W,hW⟩:∃W,W=(w.alloc (.cells #[.int .i64 M,.int .i64 E] 23)).alloc (.cells #[.int .i64 M',.int .i64 E'] 23):=⟨_,rfl⟩
 rw[←hW]
 have d0:World.dec W w.heap.size M E:=by rw[hW];exact(World.dec_new w M E _ rfl).alloc _
 have d1:World.dec W (w.heap.size+1) M' E':=by rw[hW];exact World.dec_new _ M' E' _ (by simp)
 have hB:Below w.heap.size w W:=by rw[hW];exact((Below.refl _ w).alloc (Nat.le_refl _) _).alloc (by simp) _
 clear hW
 refine(rright_any M E _ h0 h1).mono ?_
 rintro e wr ⟨rfl,hB1⟩
 have d0:=d0.below hB1 d0.lt
 have d1:=d1.below hB1 d1.lt
 have hB:=hB.trans (hB1.mono hB.size)
 have hsz:=hB.size
 clear hB1
 go_wp2_with fail
 go_ret
 exact⟨rfl,hB⟩
set_option maxRecDepth 100000 in
set_option maxHeartbeats 4000000 in
theorem rcmp_no2 (M E M' E':Int) (w:World) (h0: -9223372036854775808≤M) (h1:M≤9223372036854775807) (h0': -9223372036854775808≤M') (h1':M'≤9223372036854775807) (hr:rightB M E=true) (hr':rightB M' E'=false):
 Calls Tryz.prog 128 #[.agg #[.int .i64 M,.int .i64 E],.agg #[.int .i64 M',.int .i64 E']] w (CmpPost (0) w):=by
 go_enter Tryz.func128,Tryz.ntmps128
 go_wp2_with fail
 obtain⟨W,hW⟩:∃W,W=(w.alloc (.cells #[.int .i64 M,.int .i64 E] 23)).alloc (.cells #[.int .i64 M',.int .i64 E'] 23):=⟨_,rfl⟩
 rw[←hW]
 have d0:World.dec W w.heap.size M E:=by rw[hW];exact(World.dec_new w M E _ rfl).alloc _
 have d1:World.dec W (w.heap.size+1) M' E':=by rw[hW];exact World.dec_new _ M' E' _ (by simp)
 have hB:Below w.heap.size w W:=by rw[hW];exact((Below.refl _ w).alloc (Nat.le_refl _) _).alloc (by simp) _
 clear hW
 refine(rright_any M E _ h0 h1).mono ?_
 rintro e wr ⟨rfl,hB1⟩
 have d0:=d0.below hB1 d0.lt
 have d1:=d1.below hB1 d1.lt
 have hB:=hB.trans (hB1.mono hB.size)
 have hsz:=hB.size
 clear hB1
 have b0:=d1.c0
 have b1:=d1.c1
 go_wp2_with fail
 clear b0 b1
 refine(rright_any M' E' _ h0' h1').mono ?_
 rintro e wr ⟨rfl,hB1⟩
 have d0:=d0.below hB1 d0.lt
 have d1:=d1.below hB1 d1.lt
 have hB:=hB.trans (hB1.mono hB.size)
 have hsz:=hB.size
 clear hB1
 go_wp2_with fail
 go_ret
 exact⟨rfl,hB⟩
set_option maxRecDepth 100000 in
set_option maxHeartbeats 4000000 in
theorem rcmp_eq (M E:Int) (w:World) (h0: -9223372036854775808≤M) (h1:M≤9223372036854775807) (hr:rightB M E=true):
 Calls Tryz.prog 128 #[.agg #[.int .i64 M,.int .i64 E],.agg #[.int .i64 M,.int .i64 E]] w (CmpPost (0) w):=by
 go_enter Tryz.func128,Tryz.ntmps128
 go_wp2_with fail
 obtain⟨W,hW⟩:∃W,W=(w.alloc (.cells #[.int .i64 M,.int .i64 E] 23)).alloc (.cells #[.int .i64 M,.int .i64 E] 23):=⟨_,rfl⟩
 rw[←hW]
 have d0:World.dec W w.heap.size M E:=by rw[hW];exact(World.dec_new w M E _ rfl).alloc _
 have d1:World.dec W (w.heap.size+1) M E:=by rw[hW];exact World.dec_new _ M E _ (by simp)
 have hB:Below w.heap.size w W:=by rw[hW];exact((Below.refl _ w).alloc (Nat.le_refl _) _).alloc (by simp) _
 clear hW
 refine(rright_any M E _ h0 h1).mono ?_
 rintro e wr ⟨rfl,hB1⟩
 have d0:=d0.below hB1 d0.lt
 have d1:=d1.below hB1 d1.lt
 have hB:=hB.trans (hB1.mono hB.size)
 have hsz:=hB.size
 clear hB1
 have b0:=d1.c0
 have b1:=d1.c1
 go_wp2_with fail
 clear b0 b1
 refine(rright_any M E _ h0 h1).mono ?_
 rintro e wr ⟨rfl,hB1⟩
 have d0:=d0.below hB1 d0.lt
 have d1:=d1.below hB1 d1.lt
 have hB:=hB.trans (hB1.mono hB.size)
 have hsz:=hB.size
 clear hB1
 have a0:=d0.c0
 have a1:=d0.c1
 have b0:=d1.c0
 have b1:=d1.c1
 go_wp2_with fail
 go_ret
 exact⟨rfl,hB⟩
set_option maxRecDepth 100000 in
set_option maxHeartbeats 4000000 in
theorem rcmp_s1 (M E M' E':Int) (w:World) (h0: -9223372036854775808≤M) (h1:M≤9223372036854775807) (h0': -9223372036854775808≤M') (h1':M'≤9223372036854775807) (hr:rightB M E=true) (hr':rightB M' E'=true) (hde:(M==M'&&E==E')=false) (hs:decide (M<0)=true) (hs':decide (M'<0)=false):
 Calls Tryz.prog 128 #[.agg #[.int .i64 M,.int .i64 E],.agg #[.int .i64 M',.int .i64 E']] w (CmpPost (-1) w):=by
 go_enter Tryz.func128,Tryz.ntmps128
 go_upto_region 1 with fail
 obtain⟨W,hW⟩:∃W,W=(w.alloc (.cells #[.int .i64 M,.int .i64 E] 23)).alloc (.cells #[.int .i64 M',.int .i64 E'] 23):=⟨_,rfl⟩
 rw[←hW]
 have d0:World.dec W w.heap.size M E:=by rw[hW];exact(World.dec_new w M E _ rfl).alloc _
 have d1:World.dec W (w.heap.size+1) M' E':=by rw[hW];exact World.dec_new _ M' E' _ (by simp)
 have hB:Below w.heap.size w W:=by rw[hW];exact((Below.refl _ w).alloc (Nat.le_refl _) _).alloc (by simp) _
 clear hW
 go_cut [17] (fun v wc=>v= .bool false∧World.dec wc w.heap.size M E∧World.dec wc (w.heap.size+1) M' E'∧Below w.heap.size w wc)
 case first=>
  have a0:=d0.c0
  have a1:=d0.c1
  have b0:=d1.c0
  have b1:=d1.c1
  go_wp2_with fail
  clear a0 a1 b0 b1
  refine(rright_any M E _ h0 h1).mono ?_
  rintro e wr ⟨rfl,hB1⟩
  have d0:=d0.below hB1 d0.lt
  have d1:=d1.below hB1 d1.lt
  have hB:=hB.trans (hB1.mono hB.size)
  have hsz:=hB.size
  clear hB1
  have a0:=d0.c0
  have a1:=d0.c1
  have b0:=d1.c0
  have b1:=d1.c1
  go_wp2_with fail
  clear a0 a1 b0 b1
  refine(rright_any M' E' _ h0' h1').mono ?_
  rintro e wr ⟨rfl,hB1⟩
  have d0:=d0.below hB1 d0.lt
  have d1:=d1.below hB1 d1.lt
  have hB:=hB.trans (hB1.mono hB.size)
  have hsz:=hB.size
  clear hB1
  have a0:=d0.c0
  have a1:=d0.c1
  have b0:=d1.c0
  have b1:=d1.c1
  by_cases hM:M=M'
  ·have hE:(E==E')=false:=by
    rw[hM]at hde
    have h2:=hde
    simp only[beq_self_eq_true,Bool.true_and]at h2
    exact h2
   clear hde
   have hMb:(M==M')=true:=by simpa using hM
   have hMM:=Lib.hid hM
   clear hM
   go_wp2_with fail
   go_meet
   case rel=>exact⟨rfl,d0,d1,hB⟩
  ·have hMb:(M==M')=false:=by simpa using hM
   clear hde hM
   go_wp2_with fail
   go_meet
   case rel=>exact⟨rfl,d0,d1,hB⟩
 case rest=>
 obtain⟨rfl,d0,d1,hB⟩:=hcut
 clear hde
 have hsz:=hB.size
 have a0:=d0.c0
 have a1:=d0.c1
 have b0:=d1.c0
 have b1:=d1.c1
 go_wp2_with fail
 go_ret
 exact⟨rfl,hB⟩
set_option maxRecDepth 100000 in
set_option maxHeartbeats 4000000 in
theorem rcmp_s0 (M E M' E':Int) (w:World) (h0: -9223372036854775808≤M) (h1:M≤9223372036854775807) (h0': -9223372036854775808≤M') (h1':M'≤9223372036854775807) (hr:rightB M E=true) (hr':rightB M' E'=true) (hde:(M==M'&&E==E')=false) (hs:decide (M<0)=false) (hs':decide (M'<0)=true):
 Calls Tryz.prog 128 #[.agg #[.int .i64 M,.int .i64 E],.agg #[.int .i64 M',.int .i64 E']] w (CmpPost (1) w):=by
 go_enter Tryz.func128,Tryz.ntmps128
 go_upto_region 1 with fail
 obtain⟨W,hW⟩:∃W,W=(w.alloc (.cells #[.int .i64 M,.int .i64 E] 23)).alloc (.cells #[.int .i64 M',.int .i64 E'] 23):=⟨_,rfl⟩
 rw[←hW]
 have d0:World.dec W w.heap.size M E:=by rw[hW];exact(World.dec_new w M E _ rfl).alloc _
 have d1:World.dec W (w.heap.size+1) M' E':=by rw[hW];exact World.dec_new _ M' E' _ (by simp)
 have hB:Below w.heap.size w W:=by rw[hW];exact((Below.refl _ w).alloc (Nat.le_refl _) _).alloc (by simp) _
 clear hW
 go_cut [17] (fun v wc=>v= .bool false∧World.dec wc w.heap.size M E∧World.dec wc (w.heap.size+1) M' E'∧Below w.heap.size w wc)
 case first=>
  have a0:=d0.c0
  have a1:=d0.c1
  have b0:=d1.c0
  have b1:=d1.c1
  go_wp2_with fail
  clear a0 a1 b0 b1
  refine(rright_any M E _ h0 h1).mono ?_
  rintro e wr ⟨rfl,hB1⟩
  have d0:=d0.below hB1 d0.lt
  have d1:=d1.below hB1 d1.lt
  have hB:=hB.trans (hB1.mono hB.size)
  have hsz:=hB.size
  clear hB1
  have a0:=d0.c0
  have a1:=d0.c1
  have b0:=d1.c0
  have b1:=d1.c1
  go_wp2_with fail
  clear a0 a1 b0 b1
  refine(rright_any M' E' _ h0' h1').mono ?_
  rintro e wr ⟨rfl,hB1⟩
  have d0:=d0.below hB1 d0.lt
  have d1:=d1.below hB1 d1.lt
  have hB:=hB.trans (hB1.mono hB.size)
  have hsz:=hB.size
  clear hB1
  have a0:=d0.c0
  have a1:=d0.c1
  have b0:=d1.c0
  have b1:=d1.c1
  by_cases hM:M=M'
  ·have hE:(E==E')=false:=by
    rw[hM]at hde
    have h2:=hde
    simp only[beq_self_eq_true,Bool.true_and]at h2
    exact h2
   clear hde
   have hMb:(M==M')=true:=by simpa using hM
   have hMM:=Lib.hid hM
   clear hM
   go_wp2_with fail
   go_meet
   case rel=>exact⟨rfl,d0,d1,hB⟩
  ·have hMb:(M==M')=false:=by simpa using hM
   clear hde hM
   go_wp2_with fail
   go_meet
   case rel=>exact⟨rfl,d0,d1,hB⟩
 case rest=>
 obtain⟨rfl,d0,d1,hB⟩:=hcut
 clear hde
 have hsz:=hB.size
 have a0:=d0.c0
 have a1:=d0.c1
 have b0:=d1.c0
 have b1:=d1.c1
 go_wp2_with fail
 go_ret
 exact⟨rfl,hB⟩
set_option maxRecDepth 100000 in
set_option maxHeartbeats 4000000 in
theorem rcmp_up (M E M' E':Int) (w:World) (h0: -9223372036854775808≤M) (h1:M≤9223372036854775807) (h0': -9223372036854775808≤M') (h1':M'≤9223372036854775807) (hr:rightB M E=true) (hr':rightB M' E'=true) (hde:(M==M'&&E==E')=false) (hs:(decide (M<0)==decide (M'<0))=true) (hb:(decide (wholeN M E<wholeN M' E')==decide (M<0))=true):
 Calls Tryz.prog 128 #[.agg #[.int .i64 M,.int .i64 E],.agg #[.int .i64 M',.int .i64 E']] w (CmpPost (1) w):=by
 obtain⟨r1,r2,r3,r4,_⟩:=rightB_iff.1 hr
 obtain⟨q1,q2,q3,q4,_⟩:=rightB_iff.1 hr'
 have CX:∀m e,(m=M∧e=E)→∀w,Calls Tryz.prog 88 #[.agg #[.int .i64 m,.int .i64 e]] w (DlPost (wholeN M E) w):=by rintro _ _ ⟨rfl,rfl⟩ w;exact whole_any _ _ w h0 h1 r3 r4
 have CY:∀m e,(m=M'∧e=E')→∀w,Calls Tryz.prog 88 #[.agg #[.int .i64 m,.int .i64 e]] w (DlPost (wholeN M' E') w):=by rintro _ _ ⟨rfl,rfl⟩ w;exact whole_any _ _ w h0' h1' q3 q4
 have lx:=wholeN_len (M:=M) (E:=E) (by rw[p15n];omega) r4
 have ly:=wholeN_len (M:=M') (E:=E') (by rw[p15n];omega) q4
 obtain⟨X,hX⟩:∃X,wholeN M E=X:=⟨_,rfl⟩
 obtain⟨Y,hY⟩:∃Y,wholeN M' E'=Y:=⟨_,rfl⟩
 rw[hX]at CX lx hb
 rw[hY]at CY ly hb
 have KX:=Lib.hid CX
 have KY:=Lib.hid CY
 have LX:=Lib.hid lx
 have LY:=Lib.hid ly
 have HB:=Lib.hid hb
 clear hX hY CX CY lx ly hb
 go_enter Tryz.func128,Tryz.ntmps128
 go_upto_region 1 with fail
 obtain⟨W,hW⟩:∃W,W=(w.alloc (.cells #[.int .i64 M,.int .i64 E] 23)).alloc (.cells #[.int .i64 M',.int .i64 E'] 23):=⟨_,rfl⟩
 rw[←hW]
 have d0:World.dec W w.heap.size M E:=by rw[hW];exact(World.dec_new w M E _ rfl).alloc _
 have d1:World.dec W (w.heap.size+1) M' E':=by rw[hW];exact World.dec_new _ M' E' _ (by simp)
 have hB:Below w.heap.size w W:=by rw[hW];exact((Below.refl _ w).alloc (Nat.le_refl _) _).alloc (by simp) _
 clear hW
 go_cut [17] (fun v wc=>v= .bool false∧World.dec wc w.heap.size M E∧World.dec wc (w.heap.size+1) M' E'∧Below w.heap.size w wc)
 case first=>
  have a0:=d0.c0
  have a1:=d0.c1
  have b0:=d1.c0
  have b1:=d1.c1
  go_wp2_with fail
  clear a0 a1 b0 b1
  refine(rright_any M E _ h0 h1).mono ?_
  rintro e wr ⟨rfl,hB1⟩
  have d0:=d0.below hB1 d0.lt
  have d1:=d1.below hB1 d1.lt
  have hB:=hB.trans (hB1.mono hB.size)
  have hsz:=hB.size
  clear hB1
  have a0:=d0.c0
  have a1:=d0.c1
  have b0:=d1.c0
  have b1:=d1.c1
  go_wp2_with fail
  clear a0 a1 b0 b1
  refine(rright_any M' E' _ h0' h1').mono ?_
  rintro e wr ⟨rfl,hB1⟩
  have d0:=d0.below hB1 d0.lt
  have d1:=d1.below hB1 d1.lt
  have hB:=hB.trans (hB1.mono hB.size)
  have hsz:=hB.size
  clear hB1
  have a0:=d0.c0
  have a1:=d0.c1
  have b0:=d1.c0
  have b1:=d1.c1
  by_cases hM:M=M'
  ·have hE:(E==E')=false:=by
    rw[hM]at hde
    have h2:=hde
    simp only[beq_self_eq_true,Bool.true_and]at h2
    exact h2
   clear hde
   have hMb:(M==M')=true:=by simpa using hM
   have hMM:=Lib.hid hM
   clear hM
   go_wp2_with fail
   go_meet
   case rel=>exact⟨rfl,d0,d1,hB⟩
  ·have hMb:(M==M')=false:=by simpa using hM
   clear hde hM
   go_wp2_with fail
   go_meet
   case rel=>exact⟨rfl,d0,d1,hB⟩
 case rest=>
 obtain⟨rfl,d0,d1,hB⟩:=hcut
 clear hde
 have hsz:=hB.size
 have a0:=d0.c0
 have a1:=d0.c1
 have b0:=d1.c0
 have b1:=d1.c1
 go_wp2_with fail
 clear a0 a1 b0 b1
 have d0:=d0.drew
 have d1:=d1.drew
 have hB:=hB.drew
 have hsz:=hB.size
 have hb:=HB.out
 have a0:=d0.c0
 have a1:=d0.c1
 have b0:=d1.c0
 have b1:=d1.c1
 go_region_held3 (fun w'=>w'.cell? ⟨w.heap.size,0,none⟩=some (.int .i64 M)∧w'.cell? ⟨w.heap.size,1,none⟩=some (.int .i64 E)∧w'.cell? ⟨w.heap.size+1,0,none⟩=some (.int .i64 M')∧w'.cell? ⟨w.heap.size+1,1,none⟩=some (.int .i64 E'))
  (first|exact⟨a0,a1,b0,b1⟩|exact⟨(World.cell?_setCell_far _ _ _ _ (by first|(simp;done)|(simp;omega))).trans ((World.cell?_setCell_far _ _ _ _ (by first|(simp;done)|(simp;omega))).trans a0),(World.cell?_setCell_far _ _ _ _ (by first|(simp;done)|(simp;omega))).trans ((World.cell?_setCell_far _ _ _ _ (by first|(simp;done)|(simp;omega))).trans a1),(World.cell?_setCell_far _ _ _ _ (by first|(simp;done)|(simp;omega))).trans ((World.cell?_setCell_far _ _ _ _ (by first|(simp;done)|(simp;omega))).trans b0),(World.cell?_setCell_far _ _ _ _ (by first|(simp;done)|(simp;omega))).trans ((World.cell?_setCell_far _ _ _ _ (by first|(simp;done)|(simp;omega))).trans b1)⟩)
  (first
   |(go_at_call 88;refine(KX.out _ _ ?_ _).mono ?_;exact⟨rfl,rfl⟩;rintro e wx ⟨vx,rfl,hx,hB1⟩;have d0:=d0.below hB1 d0.lt;have d1:=d1.below hB1 d1.lt;(try have hy:=hy.below hB1);have hx:=hx.mono hsz;have hB:=hB.trans (hB1.mono hB.size);have hsz:=hB.size;have a0:=d0.c0;have a1:=d0.c1;have b0:=d1.c0;have b1:=d1.c1)
   |(go_at_call 88;refine(KY.out _ _ ?_ _).mono ?_;exact⟨rfl,rfl⟩;rintro e wy ⟨vy,rfl,hy,hB1⟩;have d0:=d0.below hB1 d0.lt;have d1:=d1.below hB1 d1.lt;(try have hx:=hx.below hB1);have hy:=hy.mono hsz;have hB:=hB.trans (hB1.mono hB.size);have hsz:=hB.size;have a0:=d0.c0;have a1:=d0.c1;have b0:=d1.c0;have b1:=d1.c1)
   |(go_at_call 87;refine(less_below w.heap.size w.heap.size vx vy X Y _ hx hy (by have:=LX.out;omega) (by have:=LY.out;omega)).mono ?_;rintro e wl ⟨rfl,hB1⟩;have d0:=d0.below hB1 d0.lt;have d1:=d1.below hB1 d1.lt;(try have hx:=hx.below hB1);(try have hy:=hy.below hB1);have hB:=hB.trans (hB1.mono hB.size);have hsz:=hB.size;have a0:=d0.c0;have a1:=d0.c1;have b0:=d1.c0;have b1:=d1.c1))
 all_goals
  go_wp2_with fail
  go_ret
  exact⟨rfl,hB⟩
set_option maxRecDepth 100000 in
set_option maxHeartbeats 4000000 in
theorem rcmp_dn (M E M' E':Int) (w:World) (h0: -9223372036854775808≤M) (h1:M≤9223372036854775807) (h0': -9223372036854775808≤M') (h1':M'≤9223372036854775807) (hr:rightB M E=true) (hr':rightB M' E'=true) (hde:(M==M'&&E==E')=false) (hs:(decide (M<0)==decide (M'<0))=true) (hb:(decide (wholeN M E<wholeN M' E')==decide (M<0))=false):
 Calls Tryz.prog 128 #[.agg #[.int .i64 M,.int .i64 E],.agg #[.int .i64 M',.int .i64 E']] w (CmpPost (-1) w):=by
 obtain⟨r1,r2,r3,r4,_⟩:=rightB_iff.1 hr
 obtain⟨q1,q2,q3,q4,_⟩:=rightB_iff.1 hr'
 have CX:∀m e,(m=M∧e=E)→∀w,Calls Tryz.prog 88 #[.agg #[.int .i64 m,.int .i64 e]] w (DlPost (wholeN M E) w):=by rintro _ _ ⟨rfl,rfl⟩ w;exact whole_any _ _ w h0 h1 r3 r4
 have CY:∀m e,(m=M'∧e=E')→∀w,Calls Tryz.prog 88 #[.agg #[.int .i64 m,.int .i64 e]] w (DlPost (wholeN M' E') w):=by rintro _ _ ⟨rfl,rfl⟩ w;exact whole_any _ _ w h0' h1' q3 q4
 have lx:=wholeN_len (M:=M) (E:=E) (by rw[p15n];omega) r4
 have ly:=wholeN_len (M:=M') (E:=E') (by rw[p15n];omega) q4
 obtain⟨X,hX⟩:∃X,wholeN M E=X:=⟨_,rfl⟩
 obtain⟨Y,hY⟩:∃Y,wholeN M' E'=Y:=⟨_,rfl⟩
 rw[hX]at CX lx hb
 rw[hY]at CY ly hb
 have KX:=Lib.hid CX
 have KY:=Lib.hid CY
 have LX:=Lib.hid lx
 have LY:=Lib.hid ly
 have HB:=Lib.hid hb
 clear hX hY CX CY lx ly hb
 go_enter Tryz.func128,Tryz.ntmps128
 go_upto_region 1 with fail
 obtain⟨W,hW⟩:∃W,W=(w.alloc (.cells #[.int .i64 M,.int .i64 E] 23)).alloc (.cells #[.int .i64 M',.int .i64 E'] 23):=⟨_,rfl⟩
 rw[←hW]
 have d0:World.dec W w.heap.size M E:=by rw[hW];exact(World.dec_new w M E _ rfl).alloc _
 have d1:World.dec W (w.heap.size+1) M' E':=by rw[hW];exact World.dec_new _ M' E' _ (by simp)
 have hB:Below w.heap.size w W:=by rw[hW];exact((Below.refl _ w).alloc (Nat.le_refl _) _).alloc (by simp) _
 clear hW
 go_cut [17] (fun v wc=>v= .bool false∧World.dec wc w.heap.size M E∧World.dec wc (w.heap.size+1) M' E'∧Below w.heap.size w wc)
 case first=>
  have a0:=d0.c0
  have a1:=d0.c1
  have b0:=d1.c0
  have b1:=d1.c1
  go_wp2_with fail
  clear a0 a1 b0 b1
  refine(rright_any M E _ h0 h1).mono ?_
  rintro e wr ⟨rfl,hB1⟩
  have d0:=d0.below hB1 d0.lt
  have d1:=d1.below hB1 d1.lt
  have hB:=hB.trans (hB1.mono hB.size)
  have hsz:=hB.size
  clear hB1
  have a0:=d0.c0
  have a1:=d0.c1
  have b0:=d1.c0
  have b1:=d1.c1
  go_wp2_with fail
  clear a0 a1 b0 b1
  refine(rright_any M' E' _ h0' h1').mono ?_
  rintro e wr ⟨rfl,hB1⟩
  have d0:=d0.below hB1 d0.lt
  have d1:=d1.below hB1 d1.lt
  have hB:=hB.trans (hB1.mono hB.size)
  have hsz:=hB.size
  clear hB1
  have a0:=d0.c0
  have a1:=d0.c1
  have b0:=d1.c0
  have b1:=d1.c1
  by_cases hM:M=M'
  ·have hE:(E==E')=false:=by
    rw[hM]at hde
    have h2:=hde
    simp only[beq_self_eq_true,Bool.true_and]at h2
    exact h2
   clear hde
   have hMb:(M==M')=true:=by simpa using hM
   have hMM:=Lib.hid hM
   clear hM
   go_wp2_with fail
   go_meet
   case rel=>exact⟨rfl,d0,d1,hB⟩
  ·have hMb:(M==M')=false:=by simpa using hM
   clear hde hM
   go_wp2_with fail
   go_meet
   case rel=>exact⟨rfl,d0,d1,hB⟩
 case rest=>
 obtain⟨rfl,d0,d1,hB⟩:=hcut
 clear hde
 have hsz:=hB.size
 have a0:=d0.c0
 have a1:=d0.c1
 have b0:=d1.c0
 have b1:=d1.c1
 go_wp2_with fail
 clear a0 a1 b0 b1
 have d0:=d0.drew
 have d1:=d1.drew
 have hB:=hB.drew
 have hsz:=hB.size
 have hb:=HB.out
 have a0:=d0.c0
 have a1:=d0.c1
 have b0:=d1.c0
 have b1:=d1.c1
 go_region_held3 (fun w'=>w'.cell? ⟨w.heap.size,0,none⟩=some (.int .i64 M)∧w'.cell? ⟨w.heap.size,1,none⟩=some (.int .i64 E)∧w'.cell? ⟨w.heap.size+1,0,none⟩=some (.int .i64 M')∧w'.cell? ⟨w.heap.size+1,1,none⟩=some (.int .i64 E'))
  (first|exact⟨a0,a1,b0,b1⟩|exact⟨(World.cell?_setCell_far _ _ _ _ (by first|(simp;done)|(simp;omega))).trans ((World.cell?_setCell_far _ _ _ _ (by first|(simp;done)|(simp;omega))).trans a0),(World.cell?_setCell_far _ _ _ _ (by first|(simp;done)|(simp;omega))).trans ((World.cell?_setCell_far _ _ _ _ (by first|(simp;done)|(simp;omega))).trans a1),(World.cell?_setCell_far _ _ _ _ (by first|(simp;done)|(simp;omega))).trans ((World.cell?_setCell_far _ _ _ _ (by first|(simp;done)|(simp;omega))).trans b0),(World.cell?_setCell_far _ _ _ _ (by first|(simp;done)|(simp;omega))).trans ((World.cell?_setCell_far _ _ _ _ (by first|(simp;done)|(simp;omega))).trans b1)⟩)
  (first
   |(go_at_call 88;refine(KX.out _ _ ?_ _).mono ?_;exact⟨rfl,rfl⟩;rintro e wx ⟨vx,rfl,hx,hB1⟩;have d0:=d0.below hB1 d0.lt;have d1:=d1.below hB1 d1.lt;(try have hy:=hy.below hB1);have hx:=hx.mono hsz;have hB:=hB.trans (hB1.mono hB.size);have hsz:=hB.size;have a0:=d0.c0;have a1:=d0.c1;have b0:=d1.c0;have b1:=d1.c1)
   |(go_at_call 88;refine(KY.out _ _ ?_ _).mono ?_;exact⟨rfl,rfl⟩;rintro e wy ⟨vy,rfl,hy,hB1⟩;have d0:=d0.below hB1 d0.lt;have d1:=d1.below hB1 d1.lt;(try have hx:=hx.below hB1);have hy:=hy.mono hsz;have hB:=hB.trans (hB1.mono hB.size);have hsz:=hB.size;have a0:=d0.c0;have a1:=d0.c1;have b0:=d1.c0;have b1:=d1.c1)
   |(go_at_call 87;refine(less_below w.heap.size w.heap.size vx vy X Y _ hx hy (by have:=LX.out;omega) (by have:=LY.out;omega)).mono ?_;rintro e wl ⟨rfl,hB1⟩;have d0:=d0.below hB1 d0.lt;have d1:=d1.below hB1 d1.lt;(try have hx:=hx.below hB1);(try have hy:=hy.below hB1);have hB:=hB.trans (hB1.mono hB.size);have hsz:=hB.size;have a0:=d0.c0;have a1:=d0.c1;have b0:=d1.c0;have b1:=d1.c1))
 all_goals
  go_wp2_with fail
  go_ret
  exact⟨rfl,hB⟩
theorem rcmp_any (M E M' E':Int) (w:World) (h0: -9223372036854775808≤M) (h1:M≤9223372036854775807) (h0': -9223372036854775808≤M') (h1':M'≤9223372036854775807):
 Calls Tryz.prog 128 #[.agg #[.int .i64 M,.int .i64 E],.agg #[.int .i64 M',.int .i64 E']] w (CmpPost (cmpD M E M' E') w):=by
 unfold cmpD
 by_cases hr:rightB M E=true
 ·by_cases hr':rightB M' E'=true
  ·rw[if_pos ⟨hr,hr'⟩]
   by_cases he:M=M'∧E=E'
   ·obtain⟨rfl,rfl⟩:=he
    unfold cmpR
    rw[if_pos ⟨rfl,rfl⟩];exact rcmp_eq M E w h0 h1 hr
   ·have hde:(M==M'&&E==E')=false:=by rw[Bool.eq_false_iff];simpa using he
    by_cases hs:decide (M<0)=decide (M'<0)
    ·rw[cmp_ref (rightB_P.1 hr) (rightB_P.1 hr') he hs]
     have hs2:(decide (M<0)==decide (M'<0))=true:=by rw[hs];simp
     by_cases hb:decide (wholeN M E<wholeN M' E')=decide (M<0)
     ·rw[if_pos hb];exact rcmp_up M E M' E' w h0 h1 h0' h1' hr hr' hde hs2 (by rw[hb];simp)
     ·rw[if_neg hb];exact rcmp_dn M E M' E' w h0 h1 h0' h1' hr hr' hde hs2 (by rw[beq_eq_false_iff_ne];exact hb)
    ·unfold cmpR
     rw[if_neg he]
     by_cases a:M<0
     ·have b:¬M'<0:=fun b=>hs (by rw[decide_eq_true a,decide_eq_true b])
      rw[if_pos ⟨a,b⟩];exact rcmp_s1 M E M' E' w h0 h1 h0' h1' hr hr' hde (decide_eq_true a) (decide_eq_false b)
     ·have b:M'<0:=Classical.byContradiction fun b=>hs (by rw[decide_eq_false a,decide_eq_false b])
      rw[if_neg (fun c=>a c.1),if_pos ⟨a,b⟩];exact rcmp_s0 M E M' E' w h0 h1 h0' h1' hr hr' hde (decide_eq_false a) (decide_eq_true b)
  ·rw[if_neg (fun h=>hr' h.2)];exact rcmp_no2 M E M' E' w h0 h1 h0' h1' hr (by simpa using hr')
 ·rw[if_neg (fun h=>hr h.1)];exact rcmp_no1 M E M' E' w h0 h1 h0' h1' (by simpa using hr)
end Go.Proofs.YtkhohjdakcchdaaGreatDoor
namespace Go.Proofs.YtkhohjdakcchdaaGreatDoor
open Go.RowKit Go.Shelf
theorem less_lit (b b':Nat) (v v':Value) (x y:Nat) (w:World) (h:World.dl w b v x) (h':World.dl w b' v' y) (hx:lenD x≤1000) (hy:lenD y≤1000) (u u':Value) (r:Bool) (e:u=v) (e':u'=v') (hr:decide (x<y)=r):
 Calls Tryz.prog 87 #[u,u'] w fun e w'=>e= .returned (.bool r)∧Below w.heap.size w w':=by
 subst e e' hr
 exact less_below b b' _ _ x y w h h' hx hy
theorem int_len {n:Int} (h0: -9223372036854775808≤n) (h1:n≤9223372036854775807):lenD n.natAbs≤19:=by
 rw[lenD_iff]
 have:(9223372036854775808:Nat)<10 ^ 19:=by decide
 omega
theorem digits_eq (n m:Int) (h0: -9223372036854775808≤n) (h1:n≤9223372036854775807) (e:m=n) (w:World):Calls Tryz.prog 86 #[.int .i64 m] w (DlPost n.natAbs w):=by
 subst e;exact digits_any _ w h0 h1
set_option maxRecDepth 100000 in
set_option maxHeartbeats 4000000 in
theorem rof_bad (n:Int) (w:World) (h0: -9223372036854775808≤n) (h1:n≤9223372036854775807) (hn:refQ (decide (n<0)) n.natAbs 1=((0,0),10)):
 Calls Tryz.prog 35 #[.int .i64 n] w (DecPost (((0,0),10)) w):=by
 have ln:=int_len h0 h1
 have CD:=fun w=>digits_any n w h0 h1
 have CD2:=fun m (e:m=n) w=>digits_eq n m h0 h1 e w
 have CN:=fun (W:World) (v v':Value) (h:World.dl W w.heap.size v n.natAbs) (h':World.dl W w.heap.size v' 1)=>near_any (decide (n<0)) w.heap.size w.heap.size v v' n.natAbs 1 W h h' (by omega) (by rw[lenD_one];omega) (by decide)
 rw[hn]at CN
 obtain⟨N,hN⟩:∃N,n.natAbs=N:=⟨_,rfl⟩
 rw[hN]at CD CD2 CN ln
 have KD:=Lib.hid CD
 have KD2:=Lib.hid CD2
 have KN:=Lib.hid CN
 clear hn hN CD CD2 CN ln
 go_enter Tryz.func35,Tryz.ntmps35
 go_wp2_with fail
 obtain⟨W,hW⟩:∃W,W=w.alloc (.cells #[.int .i64 0,.int .i64 0] 23):=⟨_,rfl⟩
 rw[←hW]
 have d2:World.dec W w.heap.size 0 0:=by rw[hW];exact World.dec_new w 0 0 _ rfl
 have hB:Below w.heap.size w W:=by rw[hW];exact(Below.refl _ w).alloc (Nat.le_refl _) _
 have hsz:=hB.size
 clear hW
 refine(KD.out _).mono ?_
 rintro e w1 ⟨vd,rfl,hd,hB1⟩
 have d2:=d2.below hB1 d2.lt
 have hd:=hd.mono hsz
 have hB:=hB.trans (hB1.mono hB.size)
 have hsz:=hB.size
 clear hB1
 go_wp2_with fail
 obtain⟨w2,hw⟩:∃W,W=w1.alloc (.cells #[.int .i64 1] 3):=⟨_,rfl⟩
 rw[←hw]
 have ho:=one_dl w1 hsz
 rw[←hw]at ho
 have hB1:Below w1.heap.size w1 w2:=by rw[hw];exact(Below.refl _ _).alloc (Nat.le_refl _) _
 clear hw
 have d2:=d2.below hB1 d2.lt
 have hd:=hd.below hB1
 have hB:=hB.trans (hB1.mono hB.size)
 have hsz:=hB.size
 clear hB1
 refine(KN.out _ _ _ hd ho).mono ?_
 rintro e w3 ⟨rfl,hB1⟩
 have d2:=d2.below hB1 d2.lt
 have hB:=hB.trans (hB1.mono hB.size)
 have hsz:=hB.size
 clear hB1 hd ho
 have l2:=d2.lt
 go_wp2_with fail
 obtain⟨W,hW⟩:∃W,W=w3.alloc (.cells #[.int .i64 0,.int .i64 0] 23):=⟨_,rfl⟩
 rw[←hW]
 obtain⟨g,hg⟩:∃g,g=w3.heap.size:=⟨_,rfl⟩
 rw[←hg]
 have d5:World.dec W g 0 0:=by rw[hW];exact World.dec_new w3 _ _ _ hg
 have d2:World.dec W w.heap.size 0 0:=by rw[hW];exact d2.alloc _
 have hB:Below w.heap.size w W:=by rw[hW];exact hB.alloc hB.size _
 have hne:w.heap.size<g:=by omega
 clear hW hg l2
 have d2:=d2.drew
 have d5:=d5.drew
 have hB:=hB.drew
 have hsz:=hB.size
 have a0:=d5.c0
 have a1:=d5.c1
 go_quiet (fail)
 obtain⟨w9,hw⟩:∃W',W'=W.drewN nq:=⟨_,rfl⟩
 rw[←hw]
 have hB1:Below W.drew.heap.size W.drew w9:=by rw[hw];exact⟨rfl,rfl,rfl,Nat.le_refl _,fun _ _=>rfl⟩
 clear hw
 have d2:World.dec w9 w.heap.size 0 0:=d2.below hB1 d2.lt
 have hB:Below w.heap.size w w9:=hB.trans (hB1.mono hB.size)
 have hsz:=hB.size
 all_goals
  have c0:=d2.c0
  have c1:=d2.c1
  have f0:=d2.frozen 0
  have f1:=d2.frozen 1
  go_wp2_with fail
  refine bodyPost_ret (results_dec_tmp rfl _ _ _ _ _ rfl (World.dec.set1 (World.dec.set0 d2 0) 0)) rfl ?_
  exact⟨rfl,(hB.setCell (by simp) _).setCell (by simp) _⟩
set_option maxRecDepth 100000 in
set_option maxHeartbeats 4000000 in
theorem rof_lt (x y:Int) (n:Int) (w:World) (h0: -9223372036854775808≤n) (h1:n≤9223372036854775807) (hn:refQ (decide (n<0)) n.natAbs 1=((x,y),0)) (hx0:RightP (x,y)) (hl:wholeN x y<n.natAbs*10 ^ 9):
 Calls Tryz.prog 35 #[.int .i64 n] w (DecPost (((0,0),10)) w):=by
 have ln:=int_len h0 h1
 have CD:=fun w=>digits_any n w h0 h1
 have CD2:=fun m (e:m=n) w=>digits_eq n m h0 h1 e w
 have CN:=fun (W:World) (v v':Value) (h:World.dl W w.heap.size v n.natAbs) (h':World.dl W w.heap.size v' 1)=>near_any (decide (n<0)) w.heap.size w.heap.size v v' n.natAbs 1 W h h' (by omega) (by rw[lenD_one];omega) (by decide)
 rw[hn]at CN
 obtain⟨x0,x1,y0,y1,_⟩:=hx0
 simp only at x0 x1 y0 y1
 have CW:∀m e,(m=x∧e=y)→∀w,Calls Tryz.prog 88 #[.agg #[.int .i64 m,.int .i64 e]] w (DlPost (wholeN x y) w):=by rintro _ _ ⟨rfl,rfl⟩ w;exact whole_any _ _ w (by omega) (by omega) y0 y1
 have lx:=wholeN_len (M:=x) (E:=y) (by rw[p15n];omega) y1
 obtain⟨X,hX⟩:∃X,wholeN x y=X:=⟨_,rfl⟩
 rw[hX]at CW lx hl
 obtain⟨N,hN⟩:∃N,n.natAbs=N:=⟨_,rfl⟩
 rw[hN]at CD CD2 CN ln hl
 have CT:=fun (v:Value) (W:World) (h:World.dl W w.heap.size v N)=>ten_any w.heap.size v N 9 W h (by omega) (by omega) (by omega)
 rw[show ((9:Int).toNat)=9 from rfl]at CT
 have lz:lenD (N*10 ^ 9)≤28:=Nat.le_trans tens_len (by omega)
 obtain⟨Z,hZ⟩:∃Z,N*10 ^ 9=Z:=⟨_,rfl⟩
 rw[hZ]at CT lz hl
 have KT:=Lib.hid CT
 have KW:=Lib.hid CW
 have LX:=Lib.hid lx
 have LZ:=Lib.hid lz
 have b1:decide (X<Z)=true:=decide_eq_true hl
 have KB1:=Lib.hid b1
 clear b1
 have KD:=Lib.hid CD
 have KD2:=Lib.hid CD2
 have KN:=Lib.hid CN
 clear hn hN CD CD2 CN ln hX hZ hl lx lz CT CW
 go_enter Tryz.func35,Tryz.ntmps35
 go_wp2_with fail
 obtain⟨W,hW⟩:∃W,W=w.alloc (.cells #[.int .i64 0,.int .i64 0] 23):=⟨_,rfl⟩
 rw[←hW]
 have d2:World.dec W w.heap.size 0 0:=by rw[hW];exact World.dec_new w 0 0 _ rfl
 have hB:Below w.heap.size w W:=by rw[hW];exact(Below.refl _ w).alloc (Nat.le_refl _) _
 have hsz:=hB.size
 clear hW
 refine(KD.out _).mono ?_
 rintro e w1 ⟨vd,rfl,hd,hB1⟩
 have d2:=d2.below hB1 d2.lt
 have hd:=hd.mono hsz
 have hB:=hB.trans (hB1.mono hB.size)
 have hsz:=hB.size
 clear hB1
 go_wp2_with fail
 obtain⟨w2,hw⟩:∃W,W=w1.alloc (.cells #[.int .i64 1] 3):=⟨_,rfl⟩
 rw[←hw]
 have ho:=one_dl w1 hsz
 rw[←hw]at ho
 have hB1:Below w1.heap.size w1 w2:=by rw[hw];exact(Below.refl _ _).alloc (Nat.le_refl _) _
 clear hw
 have d2:=d2.below hB1 d2.lt
 have hd:=hd.below hB1
 have hB:=hB.trans (hB1.mono hB.size)
 have hsz:=hB.size
 clear hB1
 refine(KN.out _ _ _ hd ho).mono ?_
 rintro e w3 ⟨rfl,hB1⟩
 have d2:=d2.below hB1 d2.lt
 have hB:=hB.trans (hB1.mono hB.size)
 have hsz:=hB.size
 clear hB1 hd ho
 have l2:=d2.lt
 go_wp2_with fail
 obtain⟨W,hW⟩:∃W,W=w3.alloc (.cells #[.int .i64 x,.int .i64 y] 23):=⟨_,rfl⟩
 rw[←hW]
 obtain⟨g,hg⟩:∃g,g=w3.heap.size:=⟨_,rfl⟩
 rw[←hg]
 have d5:World.dec W g x y:=by rw[hW];exact World.dec_new w3 _ _ _ hg
 have d2:World.dec W w.heap.size 0 0:=by rw[hW];exact d2.alloc _
 have hB:Below w.heap.size w W:=by rw[hW];exact hB.alloc hB.size _
 have hne:w.heap.size<g:=by omega
 clear hW hg l2
 have d2:=d2.drew
 have d5:=d5.drew
 have hB:=hB.drew
 have hsz:=hB.size
 have a0:=d5.c0
 have a1:=d5.c1
 first|(go_region_with
  (first
   |(go_at_call 88;refine(KW.out _ _ ?_ _).mono ?_;exact⟨rfl,rfl⟩;rintro e wx ⟨vx,rfl,hx,hB1⟩;have d2:=d2.below hB1 d2.lt;have d5:=d5.below hB1 d5.lt;(try have hd:=hd.below hB1);(try have ht:=ht.below hB1);have hx:=hx.mono hsz;have hB:=hB.trans (hB1.mono hB.size);have hsz:=hB.size;have a0:=d5.c0;have a1:=d5.c1)
   |(go_at_call 86;refine(KD2.out _ rfl _).mono ?_;rintro e wx ⟨vd,rfl,hd,hB1⟩;have d2:=d2.below hB1 d2.lt;have d5:=d5.below hB1 d5.lt;(try have hx:=hx.below hB1);(try have ht:=ht.below hB1);have hd:=hd.mono hsz;have hB:=hB.trans (hB1.mono hB.size);have hsz:=hB.size;have a0:=d5.c0;have a1:=d5.c1)
   |(go_at_call 89;refine(KT.out _ _ hd).mono ?_;rintro e wx ⟨vt,rfl,ht,hB1⟩;have d2:=d2.below hB1 d2.lt;have d5:=d5.below hB1 d5.lt;(try have hx:=hx.below hB1);(try have hd:=hd.below hB1);have ht:=ht.mono hsz;have hB:=hB.trans (hB1.mono hB.size);have hsz:=hB.size;have a0:=d5.c0;have a1:=d5.c1)
   |(go_at_call 87;refine(less_lit w.heap.size w.heap.size vx vt X Z _ hx ht (by have:=LX.out;omega) (by have:=LZ.out;omega) _ _ _ ?_ ?_ KB1.out).mono ?_;exact rfl;exact rfl;rintro e wl ⟨rfl,hB1⟩;have d2:=d2.below hB1 d2.lt;have d5:=d5.below hB1 d5.lt;(try have hx:=hx.below hB1);(try have hd:=hd.below hB1);(try have ht:=ht.below hB1);have hB:=hB.trans (hB1.mono hB.size);have hsz:=hB.size;have a0:=d5.c0;have a1:=d5.c1)
   |fail))|fail
 all_goals
  have c0:=d2.c0
  have c1:=d2.c1
  have f0:=d2.frozen 0
  have f1:=d2.frozen 1
  go_wp2_with fail
  refine bodyPost_ret (results_dec_tmp rfl _ _ _ _ _ rfl (World.dec.set1 (World.dec.set0 d2 0) 0)) rfl ?_
  exact⟨rfl,(hB.setCell (by simp) _).setCell (by simp) _⟩
set_option maxRecDepth 100000 in
set_option maxHeartbeats 4000000 in
theorem rof_gt (x y:Int) (n:Int) (w:World) (h0: -9223372036854775808≤n) (h1:n≤9223372036854775807) (hn:refQ (decide (n<0)) n.natAbs 1=((x,y),0)) (hx0:RightP (x,y)) (hl:n.natAbs*10 ^ 9<wholeN x y):
 Calls Tryz.prog 35 #[.int .i64 n] w (DecPost (((0,0),10)) w):=by
 have ln:=int_len h0 h1
 have CD:=fun w=>digits_any n w h0 h1
 have CD2:=fun m (e:m=n) w=>digits_eq n m h0 h1 e w
 have CN:=fun (W:World) (v v':Value) (h:World.dl W w.heap.size v n.natAbs) (h':World.dl W w.heap.size v' 1)=>near_any (decide (n<0)) w.heap.size w.heap.size v v' n.natAbs 1 W h h' (by omega) (by rw[lenD_one];omega) (by decide)
 rw[hn]at CN
 obtain⟨x0,x1,y0,y1,_⟩:=hx0
 simp only at x0 x1 y0 y1
 have CW:∀m e,(m=x∧e=y)→∀w,Calls Tryz.prog 88 #[.agg #[.int .i64 m,.int .i64 e]] w (DlPost (wholeN x y) w):=by rintro _ _ ⟨rfl,rfl⟩ w;exact whole_any _ _ w (by omega) (by omega) y0 y1
 have lx:=wholeN_len (M:=x) (E:=y) (by rw[p15n];omega) y1
 obtain⟨X,hX⟩:∃X,wholeN x y=X:=⟨_,rfl⟩
 rw[hX]at CW lx hl
 obtain⟨N,hN⟩:∃N,n.natAbs=N:=⟨_,rfl⟩
 rw[hN]at CD CD2 CN ln hl
 have CT:=fun (v:Value) (W:World) (h:World.dl W w.heap.size v N)=>ten_any w.heap.size v N 9 W h (by omega) (by omega) (by omega)
 rw[show ((9:Int).toNat)=9 from rfl]at CT
 have lz:lenD (N*10 ^ 9)≤28:=Nat.le_trans tens_len (by omega)
 obtain⟨Z,hZ⟩:∃Z,N*10 ^ 9=Z:=⟨_,rfl⟩
 rw[hZ]at CT lz hl
 have KT:=Lib.hid CT
 have KW:=Lib.hid CW
 have LX:=Lib.hid lx
 have LZ:=Lib.hid lz
 have b1:decide (X<Z)=false:=decide_eq_false (by omega)
 have b2:decide (Z<X)=true:=decide_eq_true hl
 have KB1:=Lib.hid b1
 clear b1
 have KB2:=Lib.hid b2
 clear b2
 have KD:=Lib.hid CD
 have KD2:=Lib.hid CD2
 have KN:=Lib.hid CN
 clear hn hN CD CD2 CN ln hX hZ hl lx lz CT CW
 go_enter Tryz.func35,Tryz.ntmps35
 go_wp2_with fail
 obtain⟨W,hW⟩:∃W,W=w.alloc (.cells #[.int .i64 0,.int .i64 0] 23):=⟨_,rfl⟩
 rw[←hW]
 have d2:World.dec W w.heap.size 0 0:=by rw[hW];exact World.dec_new w 0 0 _ rfl
 have hB:Below w.heap.size w W:=by rw[hW];exact(Below.refl _ w).alloc (Nat.le_refl _) _
 have hsz:=hB.size
 clear hW
 refine(KD.out _).mono ?_
 rintro e w1 ⟨vd,rfl,hd,hB1⟩
 have d2:=d2.below hB1 d2.lt
 have hd:=hd.mono hsz
 have hB:=hB.trans (hB1.mono hB.size)
 have hsz:=hB.size
 clear hB1
 go_wp2_with fail
 obtain⟨w2,hw⟩:∃W,W=w1.alloc (.cells #[.int .i64 1] 3):=⟨_,rfl⟩
 rw[←hw]
 have ho:=one_dl w1 hsz
 rw[←hw]at ho
 have hB1:Below w1.heap.size w1 w2:=by rw[hw];exact(Below.refl _ _).alloc (Nat.le_refl _) _
 clear hw
 have d2:=d2.below hB1 d2.lt
 have hd:=hd.below hB1
 have hB:=hB.trans (hB1.mono hB.size)
 have hsz:=hB.size
 clear hB1
 refine(KN.out _ _ _ hd ho).mono ?_
 rintro e w3 ⟨rfl,hB1⟩
 have d2:=d2.below hB1 d2.lt
 have hB:=hB.trans (hB1.mono hB.size)
 have hsz:=hB.size
 clear hB1 hd ho
 have l2:=d2.lt
 go_wp2_with fail
 obtain⟨W,hW⟩:∃W,W=w3.alloc (.cells #[.int .i64 x,.int .i64 y] 23):=⟨_,rfl⟩
 rw[←hW]
 obtain⟨g,hg⟩:∃g,g=w3.heap.size:=⟨_,rfl⟩
 rw[←hg]
 have d5:World.dec W g x y:=by rw[hW];exact World.dec_new w3 _ _ _ hg
 have d2:World.dec W w.heap.size 0 0:=by rw[hW];exact d2.alloc _
 have hB:Below w.heap.size w W:=by rw[hW];exact hB.alloc hB.size _
 have hne:w.heap.size<g:=by omega
 clear hW hg l2
 have d2:=d2.drew
 have d5:=d5.drew
 have hB:=hB.drew
 have hsz:=hB.size
 have a0:=d5.c0
 have a1:=d5.c1
 first|(go_region_held3 (fun w'=>w'.cell? ⟨g,0,none⟩=some (.int .i64 x)∧w'.cell? ⟨g,1,none⟩=some (.int .i64 y))
  (first|exact⟨a0,a1⟩)
  (first
   |(go_at_call 88;refine(KW.out _ _ ?_ _).mono ?_;exact⟨rfl,rfl⟩;rintro e wx ⟨vx,rfl,hx,hB1⟩;have d2:=d2.below hB1 d2.lt;have d5:=d5.below hB1 d5.lt;(try have hd:=hd.below hB1);(try have ht:=ht.below hB1);have hx:=hx.mono hsz;have hB:=hB.trans (hB1.mono hB.size);have hsz:=hB.size;have a0:=d5.c0;have a1:=d5.c1)
   |(go_at_call 86;refine(KD2.out _ rfl _).mono ?_;rintro e wx ⟨vd,rfl,hd,hB1⟩;have d2:=d2.below hB1 d2.lt;have d5:=d5.below hB1 d5.lt;(try have hx:=hx.below hB1);(try have ht:=ht.below hB1);have hd:=hd.mono hsz;have hB:=hB.trans (hB1.mono hB.size);have hsz:=hB.size;have a0:=d5.c0;have a1:=d5.c1)
   |(go_at_call 89;refine(KT.out _ _ hd).mono ?_;rintro e wx ⟨vt,rfl,ht,hB1⟩;have d2:=d2.below hB1 d2.lt;have d5:=d5.below hB1 d5.lt;(try have hx:=hx.below hB1);(try have hd:=hd.below hB1);have ht:=ht.mono hsz;have hB:=hB.trans (hB1.mono hB.size);have hsz:=hB.size;have a0:=d5.c0;have a1:=d5.c1)
   |(go_at_call 87;refine(less_lit w.heap.size w.heap.size vx vt X Z _ hx ht (by have:=LX.out;omega) (by have:=LZ.out;omega) _ _ _ ?_ ?_ KB1.out).mono ?_;exact rfl;exact rfl;rintro e wl ⟨rfl,hB1⟩;have d2:=d2.below hB1 d2.lt;have d5:=d5.below hB1 d5.lt;(try have hx:=hx.below hB1);(try have hd:=hd.below hB1);(try have ht:=ht.below hB1);have hB:=hB.trans (hB1.mono hB.size);have hsz:=hB.size;have a0:=d5.c0;have a1:=d5.c1)
   |(go_at_call 87;refine(less_lit w.heap.size w.heap.size vt vx Z X _ ht hx (by have:=LZ.out;omega) (by have:=LX.out;omega) _ _ _ ?_ ?_ KB2.out).mono ?_;exact rfl;exact rfl;rintro e wl ⟨rfl,hB1⟩;have d2:=d2.below hB1 d2.lt;have d5:=d5.below hB1 d5.lt;(try have hx:=hx.below hB1);(try have hd:=hd.below hB1);(try have ht:=ht.below hB1);have hB:=hB.trans (hB1.mono hB.size);have hsz:=hB.size;have a0:=d5.c0;have a1:=d5.c1)
   |fail))|fail
 all_goals
  have c0:=d2.c0
  have c1:=d2.c1
  have f0:=d2.frozen 0
  have f1:=d2.frozen 1
  go_wp2_with fail
  refine bodyPost_ret (results_dec_tmp rfl _ _ _ _ _ rfl (World.dec.set1 (World.dec.set0 d2 0) 0)) rfl ?_
  exact⟨rfl,(hB.setCell (by simp) _).setCell (by simp) _⟩
set_option maxRecDepth 100000 in
set_option maxHeartbeats 4000000 in
theorem rof_eq (x y:Int) (n:Int) (w:World) (h0: -9223372036854775808≤n) (h1:n≤9223372036854775807) (hn:refQ (decide (n<0)) n.natAbs 1=((x,y),0)) (hx0:RightP (x,y)) (hl:wholeN x y=n.natAbs*10 ^ 9):
 Calls Tryz.prog 35 #[.int .i64 n] w (DecPost (((x,y),0)) w):=by
 have ln:=int_len h0 h1
 have CD:=fun w=>digits_any n w h0 h1
 have CD2:=fun m (e:m=n) w=>digits_eq n m h0 h1 e w
 have CN:=fun (W:World) (v v':Value) (h:World.dl W w.heap.size v n.natAbs) (h':World.dl W w.heap.size v' 1)=>near_any (decide (n<0)) w.heap.size w.heap.size v v' n.natAbs 1 W h h' (by omega) (by rw[lenD_one];omega) (by decide)
 rw[hn]at CN
 obtain⟨x0,x1,y0,y1,_⟩:=hx0
 simp only at x0 x1 y0 y1
 have CW:∀m e,(m=x∧e=y)→∀w,Calls Tryz.prog 88 #[.agg #[.int .i64 m,.int .i64 e]] w (DlPost (wholeN x y) w):=by rintro _ _ ⟨rfl,rfl⟩ w;exact whole_any _ _ w (by omega) (by omega) y0 y1
 have lx:=wholeN_len (M:=x) (E:=y) (by rw[p15n];omega) y1
 obtain⟨X,hX⟩:∃X,wholeN x y=X:=⟨_,rfl⟩
 rw[hX]at CW lx hl
 obtain⟨N,hN⟩:∃N,n.natAbs=N:=⟨_,rfl⟩
 rw[hN]at CD CD2 CN ln hl
 have CT:=fun (v:Value) (W:World) (h:World.dl W w.heap.size v N)=>ten_any w.heap.size v N 9 W h (by omega) (by omega) (by omega)
 rw[show ((9:Int).toNat)=9 from rfl]at CT
 have lz:lenD (N*10 ^ 9)≤28:=Nat.le_trans tens_len (by omega)
 obtain⟨Z,hZ⟩:∃Z,N*10 ^ 9=Z:=⟨_,rfl⟩
 rw[hZ]at CT lz hl
 have KT:=Lib.hid CT
 have KW:=Lib.hid CW
 have LX:=Lib.hid lx
 have LZ:=Lib.hid lz
 have b1:decide (X<Z)=false:=decide_eq_false (by omega)
 have b2:decide (Z<X)=false:=decide_eq_false (by omega)
 have KB1:=Lib.hid b1
 clear b1
 have KB2:=Lib.hid b2
 clear b2
 have KD:=Lib.hid CD
 have KD2:=Lib.hid CD2
 have KN:=Lib.hid CN
 clear hn hN CD CD2 CN ln hX hZ hl lx lz CT CW
 go_enter Tryz.func35,Tryz.ntmps35
 go_wp2_with fail
 obtain⟨W,hW⟩:∃W,W=w.alloc (.cells #[.int .i64 0,.int .i64 0] 23):=⟨_,rfl⟩
 rw[←hW]
 have d2:World.dec W w.heap.size 0 0:=by rw[hW];exact World.dec_new w 0 0 _ rfl
 have hB:Below w.heap.size w W:=by rw[hW];exact(Below.refl _ w).alloc (Nat.le_refl _) _
 have hsz:=hB.size
 clear hW
 refine(KD.out _).mono ?_
 rintro e w1 ⟨vd,rfl,hd,hB1⟩
 have d2:=d2.below hB1 d2.lt
 have hd:=hd.mono hsz
 have hB:=hB.trans (hB1.mono hB.size)
 have hsz:=hB.size
 clear hB1
 go_wp2_with fail
 obtain⟨w2,hw⟩:∃W,W=w1.alloc (.cells #[.int .i64 1] 3):=⟨_,rfl⟩
 rw[←hw]
 have ho:=one_dl w1 hsz
 rw[←hw]at ho
 have hB1:Below w1.heap.size w1 w2:=by rw[hw];exact(Below.refl _ _).alloc (Nat.le_refl _) _
 clear hw
 have d2:=d2.below hB1 d2.lt
 have hd:=hd.below hB1
 have hB:=hB.trans (hB1.mono hB.size)
 have hsz:=hB.size
 clear hB1
 refine(KN.out _ _ _ hd ho).mono ?_
 rintro e w3 ⟨rfl,hB1⟩
 have d2:=d2.below hB1 d2.lt
 have hB:=hB.trans (hB1.mono hB.size)
 have hsz:=hB.size
 clear hB1 hd ho
 have l2:=d2.lt
 go_wp2_with fail
 obtain⟨W,hW⟩:∃W,W=w3.alloc (.cells #[.int .i64 x,.int .i64 y] 23):=⟨_,rfl⟩
 rw[←hW]
 obtain⟨g,hg⟩:∃g,g=w3.heap.size:=⟨_,rfl⟩
 rw[←hg]
 have d5:World.dec W g x y:=by rw[hW];exact World.dec_new w3 _ _ _ hg
 have d2:World.dec W w.heap.size 0 0:=by rw[hW];exact d2.alloc _
 have hB:Below w.heap.size w W:=by rw[hW];exact hB.alloc hB.size _
 have hne:w.heap.size<g:=by omega
 clear hW hg l2
 have d2:=d2.drew
 have d5:=d5.drew
 have hB:=hB.drew
 have hsz:=hB.size
 have a0:=d5.c0
 have a1:=d5.c1
 first|(go_region_held3 (fun w'=>w'.cell? ⟨g,0,none⟩=some (.int .i64 x)∧w'.cell? ⟨g,1,none⟩=some (.int .i64 y))
  (first|exact⟨a0,a1⟩)
  (first
   |(go_at_call 88;refine(KW.out _ _ ?_ _).mono ?_;exact⟨rfl,rfl⟩;rintro e wx ⟨vx,rfl,hx,hB1⟩;have d2:=d2.below hB1 d2.lt;have d5:=d5.below hB1 d5.lt;(try have hd:=hd.below hB1);(try have ht:=ht.below hB1);have hx:=hx.mono hsz;have hB:=hB.trans (hB1.mono hB.size);have hsz:=hB.size;have a0:=d5.c0;have a1:=d5.c1)
   |(go_at_call 86;refine(KD2.out _ rfl _).mono ?_;rintro e wx ⟨vd,rfl,hd,hB1⟩;have d2:=d2.below hB1 d2.lt;have d5:=d5.below hB1 d5.lt;(try have hx:=hx.below hB1);(try have ht:=ht.below hB1);have hd:=hd.mono hsz;have hB:=hB.trans (hB1.mono hB.size);have hsz:=hB.size;have a0:=d5.c0;have a1:=d5.c1)
   |(go_at_call 89;refine(KT.out _ _ hd).mono ?_;rintro e wx ⟨vt,rfl,ht,hB1⟩;have d2:=d2.below hB1 d2.lt;have d5:=d5.below hB1 d5.lt;(try have hx:=hx.below hB1);(try have hd:=hd.below hB1);have ht:=ht.mono hsz;have hB:=hB.trans (hB1.mono hB.size);have hsz:=hB.size;have a0:=d5.c0;have a1:=d5.c1)
   |(go_at_call 87;refine(less_lit w.heap.size w.heap.size vx vt X Z _ hx ht (by have:=LX.out;omega) (by have:=LZ.out;omega) _ _ _ ?_ ?_ KB1.out).mono ?_;exact rfl;exact rfl;rintro e wl ⟨rfl,hB1⟩;have d2:=d2.below hB1 d2.lt;have d5:=d5.below hB1 d5.lt;(try have hx:=hx.below hB1);(try have hd:=hd.below hB1);(try have ht:=ht.below hB1);have hB:=hB.trans (hB1.mono hB.size);have hsz:=hB.size;have a0:=d5.c0;have a1:=d5.c1)
   |(go_at_call 87;refine(less_lit w.heap.size w.heap.size vt vx Z X _ ht hx (by have:=LZ.out;omega) (by have:=LX.out;omega) _ _ _ ?_ ?_ KB2.out).mono ?_;exact rfl;exact rfl;rintro e wl ⟨rfl,hB1⟩;have d2:=d2.below hB1 d2.lt;have d5:=d5.below hB1 d5.lt;(try have hx:=hx.below hB1);(try have hd:=hd.below hB1);(try have ht:=ht.below hB1);have hB:=hB.trans (hB1.mono hB.size);have hsz:=hB.size;have a0:=d5.c0;have a1:=d5.c1)
   |fail))|fail
 all_goals
  have c0:=d2.c0
  have c1:=d2.c1
  have f0:=d2.frozen 0
  have f1:=d2.frozen 1
  go_wp2_with fail
  refine bodyPost_ret (results_dec_tmp rfl _ _ _ _ _ rfl (World.dec.set1 (World.dec.set0 d2 x) y)) rfl ?_
  exact⟨rfl,(hB.setCell (by simp) _).setCell (by simp) _⟩
theorem rof_any (n:Int) (w:World) (h0: -9223372036854775808≤n) (h1:n≤9223372036854775807):
 Calls Tryz.prog 35 #[.int .i64 n] w (DecPost (ofD n) w):=by
 rcases near_two (decide (n<0)) (ofN n)with h|h
 ·obtain⟨⟨x,y⟩,hp⟩:∃p,near (decide (n<0)) (ofN n) false=(p,0):=⟨_,Prod.ext rfl h⟩
  have hR:=near_right hp
  have hs:=of_ref h0 h1 hp
  simp only at hs
  have hn:refQ (decide (n<0)) n.natAbs 1=((x,y),0):=by rw[of_lay,hp]
  rcases Nat.lt_trichotomy (wholeN x y) (n.natAbs*10 ^ 9)with c|c|c
  ·rw[ofD_no hp (by rw[hs];exact decide_eq_false (by omega))];exact rof_lt x y n w h0 h1 hn hR c
  ·rw[ofD_yes hp (by rw[hs];exact decide_eq_true c)];exact rof_eq x y n w h0 h1 hn hR c
  ·rw[ofD_no hp (by rw[hs];exact decide_eq_false (by omega))];exact rof_gt x y n w h0 h1 hn hR c
 ·rw[ofD_bad h];exact rof_bad n w h0 h1 (by rw[of_lay,h])
end Go.Proofs.YtkhohjdakcchdaaGreatDoor
