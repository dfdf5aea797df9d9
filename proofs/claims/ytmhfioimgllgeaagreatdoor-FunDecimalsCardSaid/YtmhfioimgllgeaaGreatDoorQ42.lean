/- Merged: YDiv1, YDiv, YPow, YEqs, YOfn, Mad. -/
import Derived.Test.YtmhfioimgllgeaaGreatDoorQ01
import Derived.Test.YtmhfioimgllgeaaGreatDoorQ23
import Derived.Test.YtmhfioimgllgeaaGreatDoorQ17
import Derived.Test.YtmhfioimgllgeaaGreatDoorQ12
import Derived.Test.YtmhfioimgllgeaaGreatDoorQ08
import Derived.Test.YtmhfioimgllgeaaGreatDoorQ40
import Derived.Test.YtmhfioimgllgeaaGreatDoorQ41
import Derived.Deep.DeepCutAuto
import Derived.RegionTactic
import Derived.ChangeAlike
import Derived.Test.YtmhfioimgllgeaaGreatDoorQ05
import Derived.Test.YtmhfioimgllgeaaGreatDoorQ37
import Derived.ChangeKeysEq
import Derived.DeepKeys
import Derived.Test.YtmhfioimgllgeaaGreatDoorQ16
import Derived.Shelf.Strings.SlTrimAscii
import Derived.Deep.MidRow
import Derived.Shelf.Strings.Cut
namespace Go.Proofs.YtmhfioimgllgeaaGreatDoor
open Go.RowKit Go.Shelf
theorem quot_low (A B p k:Nat) (hk:k≤p):A*10 ^ p / B / 10 ^ k=A*10 ^ (p-k) / B:=by
 rw[Nat.div_div_eq_div_mul,show A*10 ^ p=A*10 ^ (p-k)*10 ^ k by rw[Nat.mul_assoc,←Nat.pow_add];congr 2;omega]
 rw[Nat.mul_comm B,Nat.mul_comm (A*10 ^ (p-k)),Nat.mul_div_mul_left _ _ (pow10_pos k)]
theorem quot_step (r B:Nat) (hB:0<B) (A j:Nat) (hr:r=A*10 ^ j%B):r*10 / B=A*10 ^ (j+1) / B%10∧r*10%B=A*10 ^ (j+1)%B:=by
 have e:A*10 ^ (j+1)=r*10+B*(A*10 ^ j / B*10):=by
  have:=Nat.div_add_mod (A*10 ^ j) B
  rw[hr,Nat.pow_succ,←Nat.mul_assoc]
  calc A*10 ^ j*10=(B*(A*10 ^ j / B)+A*10 ^ j%B)*10:=by rw[this]
   _=A*10 ^ j%B*10+B*(A*10 ^ j / B*10):=by rw[Nat.add_mul,Nat.add_comm,Nat.mul_assoc]
 have hl:r*10 / B<10:=Nat.div_lt_of_lt_mul (by have:=Nat.mod_lt (A*10 ^ j) hB;rw[←hr]at this;omega)
 rw[e,Nat.add_mul_div_left _ _ hB,Nat.add_mul_mod_self_left]
 exact⟨by rw[Nat.add_mul_mod_self_right,Nat.mod_eq_of_lt hl],rfl⟩
theorem quoD_dg (A B p k:Nat) (hk:k≤p):dg (quoD A B p) k=((A*10 ^ (p-k) / B%10:Nat):Int):=by
 unfold dg quoD;rw[quot_low _ _ _ _ hk]
theorem quoD_hi (A B p i:Nat) (hi:p≤i):dg (A / B*10 ^ p) i=dg (quoD A B p) i:=by
 rw[dg_shift _ _ _ hi]
 unfold dg quoD
 obtain⟨d,rfl⟩:∃d,i=p+d:=⟨i-p,by omega⟩
 rw[Nat.pow_add,←Nat.div_div_eq_div_mul _ (10 ^ p),quot_low _ _ _ _ (Nat.le_refl p),Nat.sub_self,Nat.pow_zero,Nat.mul_one,Nat.add_sub_cancel_left]
/-- What stands behind the quotient's whole part: the number's block, the two decimals, the result's block. -/
def DivMid (D:Nat) (s:Bool) (ba bb:Nat) (M E M' E':Int) (w:World) (v:Value) (wc:World):Prop:=
 ∃g,v= .pointer (some ⟨g,0,none⟩)∧World.num wc g s (dg D) false∧World.dec wc ba M E∧World.dec wc bb M' E'∧World.num wc (w.heap.size+1) false z96 false∧Below w.heap.size w wc∧w.heap.size+1<g
set_option maxRecDepth 100000 in
set_option maxHeartbeats 4000000 in
theorem divf_core (A B p:Nat) (s:Bool) (f:Nat→Int) (m:Bool) (ba bb:Nat) (M E M' E':Int) (w:World) (hr:rightB M E=true) (hr':rightB M' E'=true) (hne:M'≠0) (ha:World.dec w ba M E) (hb:World.dec w bb M' E') (hA:Hid (M.natAbs=A)) (hBd:Hid (M'.natAbs=B)) (HP:Hid ((p:Int)=48+(E-E'))):
 Calls Tryz.prog 114 #[.agg (numF s f m),.pointer (some ⟨bb,0,none⟩),.pointer (some ⟨ba,0,none⟩)] w (fun e w'=>e= .returned (.agg (numF (mulS M M') (dg (quoD A B p)) (A*10 ^ p%B != 0)))∧Below w.heap.size w w'):=by
 obtain⟨r1,r2,r3,r4,_⟩:=rightB_iff.1 hr
 obtain⟨q1,q2,q3,q4,_⟩:=rightB_iff.1 hr'
 have la:=ha.lt
 have lb:=hb.lt
 obtain⟨B1,B2,A2,p1,p2⟩:(1:Int)≤(B:Int)∧(B:Int)≤999999999999999∧(A:Int)≤999999999999999∧30≤p∧p≤66:=by
  have h1:=hA.out;have h2:=hBd.out;have h3:=HP.out;omega
 go_enter Tryz.func114,Tryz.ntmps114
 go_wp2_with (first
  |(refine wpList_alloc56 rfl rfl ?_
    obtain⟨W,hW⟩:∃W,W=(w.alloc (.cells (numF s f m) 105)).alloc (.cells (numF false z96 false) 105):=⟨_,rfl⟩
    rw[←hW]
    have d0:World.dec W ba M E:=by rw[hW];exact(ha.alloc _).alloc _
    have d1:World.dec W bb M' E':=by rw[hW];exact(hb.alloc _).alloc _
    have n2:World.num W (w.heap.size+1) false z96 false:=by rw[hW];exact World.num_new' _ _ _ _ _ (by simp)
    have hB:Below w.heap.size w W:=by rw[hW];exact((Below.refl _ w).alloc (Nat.le_refl _) _).alloc (by simp) _
    clear hW
    have a0:=d0.c0
    have a1:=d0.c1
    have b0:=d1.c0
    have b1:=d1.c1)
  |(go_at_call 76;refine(abs_any _ _ (by omega) (by omega)).mono ?_;rintro e w1 ⟨rfl,rfl⟩;first|rw[hA.out]|rw[hBd.out]))
 have hB0:¬B=0:=by omega
 have hAB:=Nat.div_le_self A B
 have p2':p≤96:=by omega
 have hwE:IntKind.i64.wrap (E-E')=E-E':=IntWalk.i64_in _ (by omega)
 have hq0:(0:Int)≤(A:Int) / (B:Int):=Int.ediv_nonneg (by omega) (by omega)
 have hq1:(A:Int) / (B:Int)≤18446744073709551615:=by rw[←Int.natCast_ediv];generalize A / B=Q at hAB ⊢;omega
 have hqw:IntKind.u64.wrap ((A:Int) / (B:Int))=(A:Int) / (B:Int):=by rw[wrap_u64];exact Int.emod_eq_of_lt hq0 (by omega)
 have hq2:Hid ((0:Int)*18446744073709551616+(A:Int) / (B:Int)=((A / B:Nat):Int)):=by rw[←Int.natCast_ediv];show _=_;omega
 go_cut [7] (fun v7 wc=>DivMid (A / B*10 ^ p) (mulS M M') ba bb M E M' E' w v7 wc)
 case first=>
  refine wp_region_held_drew (S:=(fun w'=>w'.cell? ⟨ba,0,none⟩=some (.int .i64 M)∧w'.cell? ⟨ba,1,none⟩=some (.int .i64 E)∧w'.cell? ⟨bb,0,none⟩=some (.int .i64 M')∧w'.cell? ⟨bb,1,none⟩=some (.int .i64 E'))) (by kernel_rfl) ⟨a0,a1,b0,b1⟩ (fun hHeld=> ?_)
  refine wpAnyH_take (i:=0) (v:= ?_) rfl (by kernel_rfl) (by kernel_rfl) (by kernel_rfl) (fun _ _ _ h=>h) (Or.inl ⟨by rfl,?_⟩) hHeld ?_
  rotate_left
  ·(intro w hSw;(try dsimp only at hSw);go_simp)
   all_goals with_reducible rfl
  try simp only[Act.put,List.setIfInBounds_toArray]
  refine wpAnyH_take (i:=1) (v:= ?_) rfl (by kernel_rfl) (by kernel_rfl) (by kernel_rfl) (fun _ _ _ h=>h) (Or.inl ⟨by rfl,?_⟩) hHeld ?_
  rotate_left
  ·(intro w hSw;(try dsimp only at hSw);go_simp)
   all_goals with_reducible rfl
  try simp only[Act.put]
  refine wpAnyH_take (i:=2) (v:= ?_) rfl (by kernel_rfl) (by kernel_rfl) (by kernel_rfl) (fun _ _ _ h=>h) (Or.inl ⟨by rfl,?_⟩) hHeld ?_
  rotate_left
  ·(intro w hSw;(try dsimp only at hSw);go_simp)
   all_goals with_reducible rfl
  try simp only[Act.put]
  refine wpAnyH_take (i:=3) (v:= ?_) rfl (by kernel_rfl) (by kernel_rfl) (by kernel_rfl) (fun _ _ _ h=>h) (Or.inl ⟨by rfl,?_⟩) hHeld ?_
  rotate_left
  ·(intro w hSw;(try dsimp only at hSw);go_simp)
   all_goals with_reducible rfl
  try simp only[Act.put]
  refine wpAnyH_take (i:=4) (v:= ?_) rfl (by kernel_rfl) (by kernel_rfl) (by kernel_rfl) (fun _ _ _ h=>h) (Or.inl ⟨by rfl,?_⟩) hHeld ?_
  rotate_left
  ·(intro w hSw;(try dsimp only at hSw);go_simp)
   all_goals with_reducible rfl
  try simp only[Act.put]
  refine wpAnyH_take (i:=5) (v:= ?_) rfl (by kernel_rfl) (by kernel_rfl) (by kernel_rfl) (fun _ _ _ h=>h) (Or.inl ⟨by rfl,?_⟩) hHeld ?_
  rotate_left
  ·(intro w hSw;(try dsimp only at hSw);go_simp)
   all_goals with_reducible rfl
  try simp only[Act.put]
  refine wpAnyH_take (i:=6) (v:= ?_) rfl (by kernel_rfl) (by kernel_rfl) (by kernel_rfl) (fun _ _ _ h=>h) (Or.inl ⟨by rfl,?_⟩) hHeld ?_
  rotate_left
  ·(intro w hSw;(try dsimp only at hSw);go_simp)
   all_goals with_reducible rfl
  try simp only[Act.put]
  refine wpAnyH_take (i:=7) (v:= ?_) rfl (by kernel_rfl) (by kernel_rfl) (by kernel_rfl) (fun _ _ _ h=>h) (Or.inl ⟨by rfl,?_⟩) hHeld ?_
  rotate_left
  ·(intro w hSw;(try dsimp only at hSw);go_simp)
   all_goals with_reducible rfl
  try simp only[Act.put]
  refine wpAnyH_take (i:=8) (v:= ?_) rfl (by kernel_rfl) (by kernel_rfl) (by kernel_rfl) (fun _ _ _ h=>h) (Or.inl ⟨by rfl,?_⟩) hHeld ?_
  rotate_left
  ·(intro w hSw;(try dsimp only at hSw);go_simp)
   all_goals with_reducible rfl
  try simp only[Act.put]
  refine wpAnyH_take (i:=9) (v:= ?_) rfl (by kernel_rfl) (by kernel_rfl) (by kernel_rfl) (fun _ _ _ h=>h) (Or.inl ⟨by rfl,?_⟩) hHeld ?_
  rotate_left
  ·(intro w hSw;(try dsimp only at hSw);go_simp)
   all_goals with_reducible rfl
  try simp only[Act.put]
  refine wpAnyH_take (i:=10) (v:= ?_) rfl (by kernel_rfl) (by kernel_rfl) (by kernel_rfl) (fun _ _ _ h=>h) (Or.inl ⟨by rfl,?_⟩) hHeld ?_
  rotate_left
  ·(intro w hSw;(try dsimp only at hSw);go_simp)
   all_goals with_reducible rfl
  try simp only[Act.put]
  refine wpAnyH_take (i:=11) (v:= ?_) rfl (by kernel_rfl) (by kernel_rfl) (by kernel_rfl) (fun _ _ _ h=>h) (Or.inl ⟨by rfl,?_⟩) hHeld ?_
  rotate_left
  ·(intro w hSw;(try dsimp only at hSw);go_simp)
   all_goals with_reducible rfl
  try simp only[Act.put]
  refine wpAnyH_take (i:=12) (v:= ?_) rfl (by kernel_rfl) (by kernel_rfl) (by kernel_rfl) (fun _ _ _ h=>h) (Or.inl ⟨by rfl,?_⟩) hHeld ?_
  rotate_left
  ·(intro w hSw;(try dsimp only at hSw);go_simp)
   all_goals with_reducible rfl
  try simp only[Act.put]
  refine wpAnyH_take (i:=13) (v:= ?_) rfl (by kernel_rfl) (by kernel_rfl) (by kernel_rfl) (fun _ _ _ h=>h) (Or.inl ⟨by rfl,?_⟩) hHeld ?_
  rotate_left
  ·(intro w hSw;(try dsimp only at hSw);go_simp)
   all_goals with_reducible rfl
  try simp only[Act.put]
  refine wpAnyH_take (i:=14) (v:= ?_) rfl (by kernel_rfl) (by kernel_rfl) (by kernel_rfl) (fun _ _ _ h=>h) (Or.inl ⟨by rfl,?_⟩) hHeld ?_
  rotate_left
  ·(intro w hSw;(try dsimp only at hSw);go_simp)
   all_goals with_reducible rfl
  try simp only[Act.put]
  have hlow:Hid (A / B*10 ^ p<10 ^ 96):=lay_lt (a:=15) (b:=66) (by rw[show (10:Nat) ^ 15=1000000000000000 from by decide];omega) p2 (by decide)
  refine wpAnyH_ready (rs:= [15,16]) (by kernel_rfl) (by simp) ?_
  refine AllReadyH.cons (o:=⟨some 30,_,_,_,_,_⟩) rfl (fun K hK=> ?_) (AllReadyH.cons (o:=⟨some 7,_,_,_,_,_⟩) rfl (fun K hK=> ?_) AllReadyH.nil)
  ·go_simp
   with_reducible refine(of_any (!decide (M<0)==decide (M'<0)) 0 _ _ (A / B) p _ (by omega) hq0 (by omega) hq1 hq2 HP.out hlow p2').mono ?_
   rintro e w2 ⟨rfl,hB2⟩
   have k1:=hB.size
   have k2:=hB2.size
   simp only[World.size_drew]at k2
   have e0:=World.dec.below (World.dec.drew d0) hB2 d0.lt
   have e1:=World.dec.below (World.dec.drew d1) hB2 d1.lt
   have n4:=World.num.below (World.num.drew n2) hB2 n2.lt
   have hC:=hB.drew.trans (hB2.mono k1)
   refine hK.out _ _ ⟨e0.c0,e0.c1,e1.c0,e1.c1⟩ (fun hHeld=> ?_)
   clear hK K
   try simp only[Act.put,List.setIfInBounds_toArray,List.set_cons_zero,List.set_cons_succ]
   refine wpAnyH_ready (rs:= [16]) (by kernel_rfl) (by simp) ?_
   refine AllReadyH.cons (o:=⟨some 7,_,_,_,_,_⟩) rfl (fun K hK=> ?_) AllReadyH.nil
   rw[if_pos (by rfl)]
   refine op_alloc56 rfl ?_
   have e0:=e0.alloc (.cells (numF false z96 false) 105)
   have e1:=e1.alloc (.cells (numF false z96 false) 105)
   refine hK.out _ _ ⟨e0.c0,e0.c1,e1.c0,e1.c1⟩ (fun hHeld=> ?_)
   clear hK K
   try simp only[Act.put,List.setIfInBounds_toArray,List.set_cons_zero,List.set_cons_succ]
   refine wpAnyH_ready (rs:= [17]) (by kernel_rfl) (by simp) ?_
   refine AllReadyH.cons (o:=⟨none,_,_,_,_,_⟩) rfl (fun K hK=> ?_) AllReadyH.nil
   rw[if_pos (by rfl)]
   refine op_store56 rfl rfl rfl (World.num_new _ _ _ _) ?_
   intro w3 n3 g3 z3
   have hm:=n2.lt
   have e0:=World.dec.grown e0 g3 (by simp;omega)
   have e1:=World.dec.grown e1 g3 (by simp;omega)
   have n5:=World.num.grown (n4.alloc (.cells (numF false z96 false) 105)) g3 (by simp;omega)
   have hD:=(hC.alloc (Nat.le_trans k1 k2) _).grown g3 (by simp;omega) (fun k hk=>by cases hk;omega)
   refine hK.out _ _ ⟨e0.c0,e0.c1,e1.c0,e1.c1⟩ (fun hHeld=> ?_)
   clear hK K
   refine wpAnyH_done (by kernel_rfl) ?_ _
   try simp only[Act.put]
   go_wp2_with fail
   go_meet
   case rel=>exact⟨_,rfl,n3,e0,e1,n5,hD,by omega⟩
  ·rw[if_pos (by rfl)]
   refine op_alloc56 rfl ?_
   have hm:=n2.lt
   have k1:=hB.size
   have e0:=(World.dec.drew d0).alloc (.cells (numF false z96 false) 105)
   have e1:=(World.dec.drew d1).alloc (.cells (numF false z96 false) 105)
   have n4:=(World.num.drew n2).alloc (.cells (numF false z96 false) 105)
   have hC:=hB.drew.alloc k1 (.cells (numF false z96 false) 105)
   have n3:=World.num_new w1.drew false z96 false
   refine hK.out _ _ ⟨e0.c0,e0.c1,e1.c0,e1.c1⟩ (fun hHeld=> ?_)
   clear hK K
   try simp only[Act.put]
   refine wpAnyH_ready (rs:= [15]) (by kernel_rfl) (by simp) ?_
   refine AllReadyH.cons (o:=⟨some 30,_,_,_,_,_⟩) rfl (fun K hK=> ?_) AllReadyH.nil
   go_simp
   with_reducible refine(of_any (!decide (M<0)==decide (M'<0)) 0 _ _ (A / B) p _ (by omega) hq0 (by omega) hq1 hq2 HP.out hlow p2').mono ?_
   rintro e w2 ⟨rfl,hB2⟩
   have k2:=hB2.size
   simp only[World.size_drew,World.size_alloc]at k2
   have e0:=World.dec.below e0 hB2 e0.lt
   have e1:=World.dec.below e1 hB2 e1.lt
   have n4:=World.num.below n4 hB2 n4.lt
   have n3:=World.num.below n3 hB2 n3.lt
   have hC:=hC.trans (hB2.mono hC.size)
   refine hK.out _ _ ⟨e0.c0,e0.c1,e1.c0,e1.c1⟩ (fun hHeld=> ?_)
   clear hK K
   try simp only[Act.put,List.setIfInBounds_toArray,List.set_cons_zero,List.set_cons_succ]
   refine wpAnyH_ready (rs:= [17]) (by kernel_rfl) (by simp) ?_
   refine AllReadyH.cons (o:=⟨none,_,_,_,_,_⟩) rfl (fun K hK=> ?_) AllReadyH.nil
   rw[if_pos (by rfl)]
   refine op_store56 rfl rfl rfl n3 ?_
   intro w3 n3 g3 z3
   have e0:=World.dec.grown e0 g3 (by simp;omega)
   have e1:=World.dec.grown e1 g3 (by simp;omega)
   have n5:=World.num.grown n4 g3 (by simp;omega)
   have hD:=hC.grown g3 (by omega) (fun k hk=>by cases hk;exact k1)
   refine hK.out _ _ ⟨e0.c0,e0.c1,e1.c0,e1.c1⟩ (fun hHeld=> ?_)
   clear hK K
   refine wpAnyH_done (by kernel_rfl) ?_ _
   try simp only[Act.put]
   go_wp2_with fail
   go_meet
   case rel=>exact⟨_,rfl,n3,e0,e1,n5,hD,by omega⟩
 case rest=>
 obtain⟨g,rfl,n3,e0,e1,n4,hB3,hg⟩:=hcut
 clear hqw hq0 hq1 hq2 hwE hAB hB0 hB a0 a1 b0 b1 d0 d1 n2
 have a1:=e0.c1
 have b1:=e1.c1
 clear a1 b1
 have a1:=e0.c1
 have b1:=e1.c1
 have hBpos:0<B:=by omega
 go_wp2_with fail
 clear e0 e1 a1 b1
 go_loopw [6,8] (fun l k wr=>∃(r K:Nat),l= .int .u64 r∧k= .int .i64 ((K:Int)-1)∧K≤p∧(r:Int)<(B:Int)∧Hid (r=A*10 ^ (p-K)%B)∧
  World.num wr g (mulS M M') (fun i=>if i<K then 0 else dg (quoD A B p) i) false∧World.num wr (w.heap.size+1) false z96 false∧Below w.heap.size w wr) (fun _ k _=>(intOf k+1).toNat)
 case atStart=>
  refine⟨A%B,p,by rw[Int.natCast_emod],by congr 1;have:=HP.out;omega,Nat.le_refl _,by have:=Nat.mod_lt A hBpos;omega,?_,?_,n4,hB3⟩
  ·show _=_;rw[Nat.sub_self,Nat.pow_zero,Nat.mul_one]
  ·refine World.num.congr n3 (fun i _=> ?_)
   by_cases hi:i<p
   ·rw[if_pos hi];exact dg_shift_low _ _ _ hi
   ·rw[if_neg hi];exact quoD_hi _ _ _ _ (by omega)
 case round=>
  obtain⟨r,K,rfl,rfl,j0,rB,HR,nx,n5,hB4⟩:=hrel
  clear n3 n4 hB3
  by_cases c:K=0
  ·subst c
   rw[show (((0:Nat):Int)-1)= -1 from rfl]
   have cm:=nx.more
   have cf:=nx.frozen 97
   have hQ:Hid (∀i,(if i<0 then(0:Int)else dg (quoD A B p) i)=dg (quoD A B p) i):=fun i=>if_neg (by omega)
   have ny:=World.num.setMore nx ((r:Int) != 0)
   have n6:=World.num.other n5 (a:=⟨g,97,none⟩) (by show w.heap.size+1≠g;omega) (.bool ((r:Int) != 0))
   have hB5:Below w.heap.size w (wr.setCell ⟨g,97,none⟩ (.bool ((r:Int) != 0))):=hB4.setCell (by show w.heap.size≤g;omega) _
   go_wp2_with (first|refine wpList_load56 rfl rfl rfl ny ?_|(refine wpList_store56 rfl rfl rfl rfl n6 ?_;intro w5 n7 g7 z7))
   refine bodyPost_ret (results_cell_row rfl _ _ _ 105 _ (0,0) _ rfl n7 Tryz.underlying105 rfl (info56' _ _ _)) rfl ?_
   refine⟨?_,hB5.grown g7 hB5.size (fun k hk=>by cases hk;exact Nat.le_succ _)⟩
   have e1:((r:Int) != 0)=(A*10 ^ p%B != 0):=by
    have:=HR.out
    rw[Nat.sub_zero]at this
    rw[←this,Bool.eq_iff_iff];simp
   rw[e1,numF_congr (fun i _=>hQ.out i)]
  ·obtain⟨k,rfl⟩:∃k,K=k+1:=⟨K-1,by omega⟩
   rw[show ((k+1:Nat):Int)-1=(k:Int) by omega]
   have hk96:k<96:=by omega
   have hkI:(k:Int)<96:=by omega
   obtain⟨hc,hf⟩:=World.num.at nx k hk96
   obtain⟨s1,s2⟩:=quot_step r B hBpos A (p-(k+1)) HR.out
   rw[show p-(k+1)+1=p-k by omega]at s1 s2
   have HQ:Hid ((r:Int)*10 / (B:Int)=dg (quoD A B p) k):=by
    show _=_;rw[quoD_dg _ _ _ _ (by omega),←s1,Int.natCast_ediv,Int.natCast_mul];rfl
   have HS:Hid (r*10%B=A*10 ^ (p-k)%B):=s2
   have hr9:r*10 / B<10:=Nat.div_lt_of_lt_mul (by omega)
   have q0:(0:Int)≤(r:Int)*10 / (B:Int):=Int.ediv_nonneg (by omega) (by omega)
   have q9:(r:Int)*10 / (B:Int)≤9:=by
    have:(r:Int)*10 / (B:Int)=((r*10 / B:Nat):Int):=by rw[Int.natCast_ediv,Int.natCast_mul];rfl
    rw[this];omega
   have hm:r*10%B<B:=Nat.mod_lt _ hBpos
   have hqw:IntKind.u64.wrap ((r:Int)*10 / (B:Int))=(r:Int)*10 / (B:Int):=by rw[wrap_u64];exact Int.emod_eq_of_lt q0 (by omega)
   have hB0:¬B=0:=by omega
   have htd:((r:Int)*10).tdiv (B:Int)=(r:Int)*10 / (B:Int):=Int.tdiv_eq_ediv_of_nonneg (by omega)
   have htm:((r:Int)*10).tmod (B:Int)=(r:Int)*10%(B:Int):=Int.tmod_eq_emod_of_nonneg (by omega)
   have m0:(0:Int)≤(r:Int)*10%(B:Int):=Int.emod_nonneg _ (by omega)
   have m1:(r:Int)*10%(B:Int)<(B:Int):=Int.emod_lt_of_pos _ (by omega)
   have hmw:IntKind.u64.wrap ((r:Int)*10%(B:Int))=(r:Int)*10%(B:Int):=by rw[wrap_u64];exact Int.emod_eq_of_lt m0 (by omega)
   have HM:Hid ((r:Int)*10%(B:Int)=((r*10%B:Nat):Int)):=by show _=_;rw[Int.natCast_emod,Int.natCast_mul];rfl
   clear s1 s2 hr9 c
   have hD:=World.num.set nx hk96 ((r:Int)*10 / (B:Int))
   have hD6:=World.num.other n5 (a:=⟨g,1+k,none⟩) (by show w.heap.size+1≠g;omega) (.int .i8 ((r:Int)*10 / (B:Int)))
   have hB6:Below w.heap.size w (wr.setCell ⟨g,1+k,none⟩ (.int .i8 ((r:Int)*10 / (B:Int)))):=hB4.setCell (by show w.heap.size≤g;omega) _
   go_wp2_with fail
   go_region
   go_wp2_with fail
   go_roundw
   case rel=>
    refine⟨r*10%B,k,by rw[HM.out],rfl,by omega,by omega,HS,?_,World.num.drew hD6,below_drewN hB6 1⟩
    refine World.num.congr (World.num.drew hD) (fun i _=> ?_)
    show(if i=k then _ else if i<k+1 then(0:Int)else dg (quoD A B p) i)=if i<k then 0 else dg (quoD A B p) i
    by_cases h1:i=k
    ·rw[if_pos h1,if_neg (by omega),HQ.out,h1]
    ·rw[if_neg h1]
     by_cases h2:i<k
     ·rw[if_pos (by omega),if_pos h2]
     ·rw[if_neg (by omega),if_neg h2]
   case measure=>first|(simp[intOf];done)|(simp[intOf];omega)
end Go.Proofs.YtmhfioimgllgeaaGreatDoor
namespace Go.Proofs.YtmhfioimgllgeaaGreatDoor
open Go.RowKit Go.Shelf
theorem quoD_lt {M E M' E':Int} (hr:rightB M E=true) (hr':rightB M' E'=true):quoD M.natAbs M'.natAbs (divP E E')+10 ^ 57<10 ^ 96:=by
 obtain⟨r1,r2,r3,r4,_⟩:=rightB_iff.1 hr
 obtain⟨q1,q2,q3,q4,_⟩:=rightB_iff.1 hr'
 unfold quoD divP
 have h0:=Nat.div_le_self (M.natAbs*10 ^ (48+(E-E')).toNat) M'.natAbs
 have h1:M.natAbs≤999999999999999:=by omega
 have h2:10 ^ (48+(E-E')).toNat≤10 ^ 66:=Nat.pow_le_pow_right (by decide) (by omega)
 have h3:M.natAbs*10 ^ (48+(E-E')).toNat≤999999999999999*10 ^ 66:=Nat.mul_le_mul h1 h2
 have h4:999999999999999*10 ^ 66+10 ^ 57<10 ^ 96:=by decide
 omega
set_option maxRecDepth 100000 in
set_option maxHeartbeats 2000000 in
theorem div_ok (M E M' E':Int) (w:World) (h0: -9223372036854775808≤M) (h1:M≤9223372036854775807) (h0': -9223372036854775808≤M') (h1':M'≤9223372036854775807) (hr:rightB M E=true) (hr':rightB M' E'=true) (hz:M'≠0):
 Calls Tryz.prog 79 #[.agg #[.int .i64 M,.int .i64 E],.agg #[.int .i64 M',.int .i64 E']] w (DecPost (divR M E M' E') w):=by
 go_enter Tryz.func79,Tryz.ntmps79
 go_wp2_with fail
 obtain⟨W,hW⟩:∃W,W=((w.alloc (.cells #[.int .i64 M,.int .i64 E] 34)).alloc (.cells #[.int .i64 M',.int .i64 E'] 34)).alloc (.cells #[.int .i64 0,.int .i64 0] 34):=⟨_,rfl⟩
 rw[←hW]
 have d0:World.dec W w.heap.size M E:=by rw[hW];exact((World.dec_new w M E _ rfl).alloc _).alloc _
 have d1:World.dec W (w.heap.size+1) M' E':=by rw[hW];exact(World.dec_new _ M' E' _ (by simp)).alloc _
 have d2:World.dec W (w.heap.size+1+1) 0 0:=by rw[hW];exact World.dec_new _ 0 0 _ (by simp)
 have hB:Below w.heap.size w W:=by rw[hW];exact(((Below.refl _ w).alloc (Nat.le_refl _) _).alloc (by simp) _).alloc (by simp;omega) _
 clear hW
 have hzb:(M'==0)=false:=by simpa using hz
 refine(right_any M E _ h0 h1).mono ?_
 rintro e w1 ⟨rfl,hB1⟩
 have d0:=d0.below hB1 d0.lt
 have d1:=d1.below hB1 d1.lt
 have d2:=d2.below hB1 d2.lt
 have hB:=hB.trans (hB1.mono hB.size)
 clear hB1
 have a0:=d0.c0
 have a1:=d0.c1
 have b0:=d1.c0
 have b1:=d1.c1
 go_wp2_with fail
 clear a0 a1 b0 b1
 refine(right_any M' E' _ h0' h1').mono ?_
 rintro e w1 ⟨rfl,hB1⟩
 have d0:=d0.below hB1 d0.lt
 have d1:=d1.below hB1 d1.lt
 have d2:=d2.below hB1 d2.lt
 have hB:=hB.trans (hB1.mono hB.size)
 clear hB1
 have a0:=d0.c0
 have a1:=d0.c1
 have b0:=d1.c0
 have b1:=d1.c1
 go_wp2_with fail
 clear a0 a1 b0 b1
 have HLT:=Lib.hid (quoD_lt hr hr')
 have HP:Hid ((divP E E':Int)=48+(E-E')):=by
  obtain⟨r1,r2,r3,r4,_⟩:=rightB_iff.1 hr
  obtain⟨q1,q2,q3,q4,_⟩:=rightB_iff.1 hr'
  show _=_;unfold divP;omega
 refine(both_ok M E M' E' 114 #[] #[.pointer (some ⟨w.heap.size+1,0,none⟩),.pointer (some ⟨w.heap.size,0,none⟩)] _ h0 h1 h0' h1' hr hr' enters60 (mulS M M') _ _ HLT (fun w3 hb=>divf_core M.natAbs M'.natAbs (divP E E') _ _ _ _ _ M E M' E' w3 hr hr' hz (d0.below hb d0.lt) (d1.below hb d1.lt) rfl rfl HP)).mono ?_
 rintro e w1 ⟨rfl,hB1⟩
 have d0:=d0.below hB1 d0.lt
 have d1:=d1.below hB1 d1.lt
 have d2:=d2.below hB1 d2.lt
 have hB:=hB.trans (hB1.mono hB.size)
 clear hB1
 clear d0 d1
 have g0:=d2.c0
 have g1:=d2.c1
 have gf0:=d2.frozen 0
 have gf1:=d2.frozen 1
 go_wp2_with fail
 refine bodyPost_ret (results_dec_tmp rfl _ _ _ _ _ rfl (World.dec.set1 (World.dec.set0 d2 _) _)) rfl ?_
 exact⟨rfl,(hB.setCell (by simp;omega) _).setCell (by simp;omega) _⟩
set_option maxRecDepth 100000 in
set_option maxHeartbeats 2000000 in
theorem div_zero (M E E':Int) (w:World) (h0: -9223372036854775808≤M) (h1:M≤9223372036854775807)  (hr:rightB M E=true) (hr':rightB 0 E'=true):
 Calls Tryz.prog 79 #[.agg #[.int .i64 M,.int .i64 E],.agg #[.int .i64 0,.int .i64 E']] w (DecPost ((0,0),11) w):=by
 go_enter Tryz.func79,Tryz.ntmps79
 go_wp2_with fail
 obtain⟨W,hW⟩:∃W,W=((w.alloc (.cells #[.int .i64 M,.int .i64 E] 34)).alloc (.cells #[.int .i64 0,.int .i64 E'] 34)).alloc (.cells #[.int .i64 0,.int .i64 0] 34):=⟨_,rfl⟩
 rw[←hW]
 have d0:World.dec W w.heap.size M E:=by rw[hW];exact((World.dec_new w M E _ rfl).alloc _).alloc _
 have d1:World.dec W (w.heap.size+1) 0 E':=by rw[hW];exact(World.dec_new _ 0 E' _ (by simp)).alloc _
 have d2:World.dec W (w.heap.size+1+1) 0 0:=by rw[hW];exact World.dec_new _ 0 0 _ (by simp)
 have hB:Below w.heap.size w W:=by rw[hW];exact(((Below.refl _ w).alloc (Nat.le_refl _) _).alloc (by simp) _).alloc (by simp;omega) _
 clear hW
 refine(right_any M E _ h0 h1).mono ?_
 rintro e w1 ⟨rfl,hB1⟩
 have d0:=d0.below hB1 d0.lt
 have d1:=d1.below hB1 d1.lt
 have d2:=d2.below hB1 d2.lt
 have hB:=hB.trans (hB1.mono hB.size)
 clear hB1
 have a0:=d0.c0
 have a1:=d0.c1
 have b0:=d1.c0
 have b1:=d1.c1
 go_wp2_with fail
 clear a0 a1 b0 b1
 refine(right_any 0 E' _ (by omega) (by omega)).mono ?_
 rintro e w1 ⟨rfl,hB1⟩
 have d0:=d0.below hB1 d0.lt
 have d1:=d1.below hB1 d1.lt
 have d2:=d2.below hB1 d2.lt
 have hB:=hB.trans (hB1.mono hB.size)
 clear hB1
 have a0:=d0.c0
 have a1:=d0.c1
 have b0:=d1.c0
 have b1:=d1.c1
 have g0:=d2.c0
 have g1:=d2.c1
 have gf0:=d2.frozen 0
 have gf1:=d2.frozen 1
 go_wp2_with fail
 refine bodyPost_ret (results_dec_tmp rfl _ _ _ 0 0 rfl (World.dec.set1 (World.dec.set0 d2 _) _)) rfl ?_
 exact⟨rfl,(hB.setCell (by simp;omega) _).setCell (by simp;omega) _⟩
set_option maxRecDepth 100000 in
set_option maxHeartbeats 2000000 in
theorem div_no2 (M E M' E':Int) (w:World) (h0: -9223372036854775808≤M) (h1:M≤9223372036854775807) (h0': -9223372036854775808≤M') (h1':M'≤9223372036854775807) (hr:rightB M E=true) (hr':rightB M' E'=false):
 Calls Tryz.prog 79 #[.agg #[.int .i64 M,.int .i64 E],.agg #[.int .i64 M',.int .i64 E']] w (DecPost ((0,0),10) w):=by
 go_enter Tryz.func79,Tryz.ntmps79
 go_wp2_with fail
 obtain⟨W,hW⟩:∃W,W=((w.alloc (.cells #[.int .i64 M,.int .i64 E] 34)).alloc (.cells #[.int .i64 M',.int .i64 E'] 34)).alloc (.cells #[.int .i64 0,.int .i64 0] 34):=⟨_,rfl⟩
 rw[←hW]
 have d0:World.dec W w.heap.size M E:=by rw[hW];exact((World.dec_new w M E _ rfl).alloc _).alloc _
 have d1:World.dec W (w.heap.size+1) M' E':=by rw[hW];exact(World.dec_new _ M' E' _ (by simp)).alloc _
 have d2:World.dec W (w.heap.size+1+1) 0 0:=by rw[hW];exact World.dec_new _ 0 0 _ (by simp)
 have hB:Below w.heap.size w W:=by rw[hW];exact(((Below.refl _ w).alloc (Nat.le_refl _) _).alloc (by simp) _).alloc (by simp;omega) _
 clear hW
 refine(right_any M E _ h0 h1).mono ?_
 rintro e w1 ⟨rfl,hB1⟩
 have d0:=d0.below hB1 d0.lt
 have d1:=d1.below hB1 d1.lt
 have d2:=d2.below hB1 d2.lt
 have hB:=hB.trans (hB1.mono hB.size)
 clear hB1
 have a0:=d0.c0
 have a1:=d0.c1
 have b0:=d1.c0
 have b1:=d1.c1
 go_wp2_with fail
 clear a0 a1 b0 b1
 refine(right_any M' E' _ h0' h1').mono ?_
 rintro e w1 ⟨rfl,hB1⟩
 have d0:=d0.below hB1 d0.lt
 have d1:=d1.below hB1 d1.lt
 have d2:=d2.below hB1 d2.lt
 have hB:=hB.trans (hB1.mono hB.size)
 clear hB1
 have a0:=d0.c0
 have a1:=d0.c1
 have b0:=d1.c0
 have b1:=d1.c1
 go_wp2_with fail
 clear a0 a1 b0 b1
 refine(both_no2 M E M' E' 114 #[] _ _ h0 h1 h0' h1' hr hr').mono ?_
 rintro e w1 ⟨rfl,hB1⟩
 have d0:=d0.below hB1 d0.lt
 have d1:=d1.below hB1 d1.lt
 have d2:=d2.below hB1 d2.lt
 have hB:=hB.trans (hB1.mono hB.size)
 clear hB1
 clear d0 d1
 have g0:=d2.c0
 have g1:=d2.c1
 have gf0:=d2.frozen 0
 have gf1:=d2.frozen 1
 go_wp2_with fail
 refine bodyPost_ret (results_dec_tmp rfl _ _ _ _ _ rfl (World.dec.set1 (World.dec.set0 d2 _) _)) rfl ?_
 exact⟨rfl,(hB.setCell (by simp;omega) _).setCell (by simp;omega) _⟩
set_option maxRecDepth 100000 in
set_option maxHeartbeats 2000000 in
theorem div_no1 (M E M' E':Int) (w:World) (h0: -9223372036854775808≤M) (h1:M≤9223372036854775807) (h0': -9223372036854775808≤M') (h1':M'≤9223372036854775807) (hr:rightB M E=false):
 Calls Tryz.prog 79 #[.agg #[.int .i64 M,.int .i64 E],.agg #[.int .i64 M',.int .i64 E']] w (DecPost ((0,0),10) w):=by
 go_enter Tryz.func79,Tryz.ntmps79
 go_wp2_with fail
 obtain⟨W,hW⟩:∃W,W=((w.alloc (.cells #[.int .i64 M,.int .i64 E] 34)).alloc (.cells #[.int .i64 M',.int .i64 E'] 34)).alloc (.cells #[.int .i64 0,.int .i64 0] 34):=⟨_,rfl⟩
 rw[←hW]
 have d0:World.dec W w.heap.size M E:=by rw[hW];exact((World.dec_new w M E _ rfl).alloc _).alloc _
 have d1:World.dec W (w.heap.size+1) M' E':=by rw[hW];exact(World.dec_new _ M' E' _ (by simp)).alloc _
 have d2:World.dec W (w.heap.size+1+1) 0 0:=by rw[hW];exact World.dec_new _ 0 0 _ (by simp)
 have hB:Below w.heap.size w W:=by rw[hW];exact(((Below.refl _ w).alloc (Nat.le_refl _) _).alloc (by simp) _).alloc (by simp;omega) _
 clear hW
 refine(right_any M E _ h0 h1).mono ?_
 rintro e w1 ⟨rfl,hB1⟩
 have d0:=d0.below hB1 d0.lt
 have d1:=d1.below hB1 d1.lt
 have d2:=d2.below hB1 d2.lt
 have hB:=hB.trans (hB1.mono hB.size)
 clear hB1
 have a0:=d0.c0
 have a1:=d0.c1
 have b0:=d1.c0
 have b1:=d1.c1
 go_wp2_with fail
 clear a0 a1 b0 b1
 refine(both_no1 M E M' E' 114 #[] _ _ h0 h1 h0' h1' hr).mono ?_
 rintro e w1 ⟨rfl,hB1⟩
 have d0:=d0.below hB1 d0.lt
 have d1:=d1.below hB1 d1.lt
 have d2:=d2.below hB1 d2.lt
 have hB:=hB.trans (hB1.mono hB.size)
 clear hB1
 clear d0 d1
 have g0:=d2.c0
 have g1:=d2.c1
 have gf0:=d2.frozen 0
 have gf1:=d2.frozen 1
 go_wp2_with fail
 refine bodyPost_ret (results_dec_tmp rfl _ _ _ _ _ rfl (World.dec.set1 (World.dec.set0 d2 _) _)) rfl ?_
 exact⟨rfl,(hB.setCell (by simp;omega) _).setCell (by simp;omega) _⟩
theorem div_any (M E M' E':Int) (w:World) (h0: -9223372036854775808≤M) (h1:M≤9223372036854775807) (h0': -9223372036854775808≤M') (h1':M'≤9223372036854775807):
 Calls Tryz.prog 79 #[.agg #[.int .i64 M,.int .i64 E],.agg #[.int .i64 M',.int .i64 E']] w (DecPost (divD M E M' E') w):=by
 unfold divD
 by_cases hr:rightB M E=true
 ·by_cases hr':rightB M' E'=true
  ·rw[if_pos ⟨hr,hr'⟩]
   by_cases hz:M'=0
   ·rw[if_pos hz];subst hz;exact div_zero M E E' w h0 h1 hr hr'
   ·rw[if_neg hz];exact div_ok M E M' E' w h0 h1 h0' h1' hr hr' hz
  ·rw[if_neg (fun h=>hr' h.2)];exact div_no2 M E M' E' w h0 h1 h0' h1' hr (by simpa using hr')
 ·rw[if_neg (fun h=>hr h.1)];exact div_no1 M E M' E' w h0 h1 h0' h1' (by simpa using hr)
end Go.Proofs.YtmhfioimgllgeaaGreatDoor
namespace Go.Proofs.YtmhfioimgllgeaaGreatDoor
open Go.RowKit Go.Shelf
theorem mulD_two (M E M' E':Int):(∃p,mulD M E M' E'=(p,0)∧RightP p)∨mulD M E M' E'=((0,0),10):=by
 unfold mulD
 split
 ·unfold mulR
  rcases near_two (mulS M M') (mulN M E M' E')with h|h
  ·exact .inl ⟨_,Prod.ext rfl h,near_right (Prod.ext rfl h)⟩
  ·exact .inr h
 ·exact .inr rfl
/-- One, so often multiplied. -/
def powN (M E:Int):Nat→(Int×Int)×Int
 |0=>((1,0),0)
 |n+1=>if(powN M E n).2=0 then mulD (powN M E n).1.1 (powN M E n).1.2 M E else powN M E n
theorem powN_two (M E:Int):∀n,(∃p,powN M E n=(p,0)∧RightP p)∨powN M E n=((0,0),10)
 |0=> .inl ⟨(1,0),rfl,by decide,by decide,by decide,by decide,.inr ⟨by decide,.inl (by decide)⟩⟩
 |n+1=>by
  rw[powN]
  split
  ·exact mulD_two _ _ _ _
  ·exact powN_two M E n
theorem powN_ok {M E:Int} {n:Nat} {X Y:Int} (h:powN M E n=((X,Y),0)):powN M E (n+1)=mulD X Y M E:=by rw[powN,h];rfl
theorem powN_err {M E:Int} {n:Nat} (h:powN M E n=((0,0),10)):∀k,powN M E (n+k)=((0,0),10)
 |0=>h
 |k+1=>by rw[←Nat.add_assoc,powN,powN_err h k];rfl
set_option maxRecDepth 100000 in
set_option maxHeartbeats 4000000 in
theorem pow_pos (M E n:Int) (w:World) (h0: -9223372036854775808≤M) (h1:M≤9223372036854775807) (hr:rightB M E=true) (n0:0≤n) (n1:n≤100):
 Calls Tryz.prog 34 #[.agg #[.int .i64 M,.int .i64 E],.int .i64 n] w (DecPost (powN M E n.toNat) w):=by
 go_enter Tryz.func34,Tryz.ntmps34
 go_wp2_with fail
 obtain⟨W,hW⟩:∃W,W=(w.alloc (.cells #[.int .i64 M,.int .i64 E] 34)).alloc (.cells #[.int .i64 0,.int .i64 0] 34):=⟨_,rfl⟩
 rw[←hW]
 have d0:World.dec W w.heap.size M E:=by rw[hW];exact(World.dec_new w M E _ rfl).alloc _
 have d2:World.dec W (w.heap.size+1) 0 0:=by rw[hW];exact World.dec_new _ 0 0 _ (by simp)
 have hB:Below w.heap.size w W:=by rw[hW];exact((Below.refl _ w).alloc (Nat.le_refl _) _).alloc (by simp) _
 clear hW
 refine(right_any M E _ h0 h1).mono ?_
 rintro e w1 ⟨rfl,hB1⟩
 have d0:=d0.below hB1 d0.lt
 have d2:=d2.below hB1 d2.lt
 have hB:=hB.trans (hB1.mono hB.size)
 clear hB1
 go_wp2_with fail
 obtain⟨W,hW⟩:∃W,W=w1.alloc (.cells #[.int .i64 1,.int .i64 0] 34):=⟨_,rfl⟩
 rw[←hW]
 obtain⟨g,hg⟩:∃g,g=w1.heap.size:=⟨_,rfl⟩
 rw[←hg]
 have d8:World.dec W g 1 0:=by rw[hW];exact World.dec_new w1 1 0 _ hg
 have hg2:w.heap.size+1<g:=by rw[hg];exact d2.lt
 have d0:World.dec W w.heap.size M E:=by rw[hW];exact d0.alloc _
 have d2:World.dec W (w.heap.size+1) 0 0:=by rw[hW];exact d2.alloc _
 have hB:Below w.heap.size w W:=by rw[hW];exact hB.alloc hB.size _
 clear hW hg
 go_loopw [45] (fun k wr=>∃(K:Nat) (X Y:Int),k= .int .i64 K∧(K:Int)≤n∧Hid (powN M E K=((X,Y),0))∧RightP (X,Y)∧World.dec wr g X Y∧World.dec wr w.heap.size M E∧World.dec wr (w.heap.size+1) 0 0∧Below w.heap.size w wr) (fun k _=>(n-intOf k).toNat)
 case atStart=>exact⟨0,1,0,rfl,n0,rfl,⟨by decide,by decide,by decide,by decide,.inr ⟨by decide,.inl (by decide)⟩⟩,d8,d0,d2,hB⟩
 case round=>
  obtain⟨K,X,Y,rfl,k0,HN,hR,e8,e0,e2,hB2⟩:=hrel
  clear d8 d0 d2 hB
  obtain⟨x0,x1,y0,y1,_⟩:=hR
  simp only at x0 x1 y0 y1
  have a0:=e0.c0
  have a1:=e0.c1
  have b0:=e8.c0
  have b1:=e8.c1
  by_cases c:(K:Int)<n
  ·go_wp2_with fail
   refine(mul_any X Y M E _ (by omega) (by omega) h0 h1).mono ?_
   rintro e w2 ⟨rfl,hB1⟩
   have HS:Hid (powN M E (K+1)=mulD X Y M E):=powN_ok HN.out
   have e8:=e8.below hB1 e8.lt
   have e0:=e0.below hB1 e0.lt
   have e2:=e2.below hB1 e2.lt
   have hB3:=hB2.trans (hB1.mono hB2.size)
   have hlt:=e8.lt
   have hl2:=e2.lt
   have hl0:=e0.lt
   clear hB1 hB2 a0 a1 b0 b1
   rcases mulD_two X Y M E with ⟨⟨X',Y'⟩,hp,hR'⟩|hp
   ·rw[hp]
    have HP:=Lib.hid hp
    clear hp
    have f0:=e8.frozen 0
    have f1:=e8.frozen 1
    have b0:=e8.c0
    have b1:=e8.c1
    go_wp2_with fail
    go_roundw
    case rel=>
     refine⟨K+1,X',Y',by go_num,by omega,?_,hR',((e8.set0 X').set1 Y').alloc _,((e0.other (by simp;omega) _).other (by simp;omega) _).alloc _,((e2.other (by simp;omega) _).other (by simp;omega) _).alloc _,?_⟩
     ·show _=_;rw[HS.out,HP.out]
     ·refine Below.alloc ((hB3.setCell (by simp;omega) _).setCell (by simp;omega) _) ?_ _
      simp;exact hB3.size
    case measure=>first|(simp[intOf];done)|(simp[intOf];omega)
   ·rw[hp]
    have HP:=Lib.hid hp
    clear hp
    have f0:=e2.frozen 0
    have f1:=e2.frozen 1
    have b0:=e2.c0
    have b1:=e2.c1
    go_wp2_with fail
    refine bodyPost_ret (results_dec_tmp rfl _ _ _ 0 0 rfl (((e2.set0 0).set1 0).alloc _)) rfl ?_
    refine⟨?_,Below.alloc ((hB3.setCell (by simp) _).setCell (by simp) _) (by simp;exact hB3.size) _⟩
    have h10:powN M E n.toNat=((0,0),10):=by
     have:=powN_err (HS.out.trans HP.out) (n.toNat-(K+1))
     rw[show K+1+(n.toNat-(K+1))=n.toNat by omega]at this
     exact this
    rw[h10];rfl
  ·have f0:=e2.frozen 0
   have f1:=e2.frozen 1
   have b0:=e2.c0
   have b1:=e2.c1
   go_wp2_with fail
   refine bodyPost_ret (results_dec_tmp rfl _ _ _ X Y rfl ((e2.set0 X).set1 Y)) rfl ?_
   refine⟨?_,(hB2.setCell (by simp) _).setCell (by simp) _⟩
   rw[show n.toNat=K by omega,HN.out];rfl
set_option maxRecDepth 100000 in
set_option maxHeartbeats 4000000 in
theorem pow_no (M E n:Int) (w:World) (h0: -9223372036854775808≤M) (h1:M≤9223372036854775807) (hr:rightB M E=false):
 Calls Tryz.prog 34 #[.agg #[.int .i64 M,.int .i64 E],.int .i64 n] w (DecPost ((0,0),10) w):=by
 go_enter Tryz.func34,Tryz.ntmps34
 go_wp2_with fail
 obtain⟨W,hW⟩:∃W,W=(w.alloc (.cells #[.int .i64 M,.int .i64 E] 34)).alloc (.cells #[.int .i64 0,.int .i64 0] 34):=⟨_,rfl⟩
 rw[←hW]
 have d0:World.dec W w.heap.size M E:=by rw[hW];exact(World.dec_new w M E _ rfl).alloc _
 have d2:World.dec W (w.heap.size+1) 0 0:=by rw[hW];exact World.dec_new _ 0 0 _ (by simp)
 have hB:Below w.heap.size w W:=by rw[hW];exact((Below.refl _ w).alloc (Nat.le_refl _) _).alloc (by simp) _
 clear hW
 refine(right_any M E _ h0 h1).mono ?_
 rintro e w1 ⟨rfl,hB1⟩
 have d0:=d0.below hB1 d0.lt
 have d2:=d2.below hB1 d2.lt
 have hB:=hB.trans (hB1.mono hB.size)
 clear hB1
 have f0:=d2.frozen 0
 have f1:=d2.frozen 1
 have b0:=d2.c0
 have b1:=d2.c1
 go_wp2_with fail
 refine bodyPost_ret (results_dec_tmp rfl _ _ _ 0 0 rfl ((d2.set0 0).set1 0)) rfl ?_
 exact⟨rfl,(hB.setCell (by simp) _).setCell (by simp) _⟩
set_option maxRecDepth 100000 in
set_option maxHeartbeats 4000000 in
theorem pow_arg (M E n:Int) (w:World) (h0: -9223372036854775808≤M) (h1:M≤9223372036854775807) (hr:rightB M E=true) (hn:n< -100∨100<n):
 Calls Tryz.prog 34 #[.agg #[.int .i64 M,.int .i64 E],.int .i64 n] w (DecPost ((0,0),2) w):=by
 go_enter Tryz.func34,Tryz.ntmps34
 go_wp2_with fail
 obtain⟨W,hW⟩:∃W,W=(w.alloc (.cells #[.int .i64 M,.int .i64 E] 34)).alloc (.cells #[.int .i64 0,.int .i64 0] 34):=⟨_,rfl⟩
 rw[←hW]
 have d0:World.dec W w.heap.size M E:=by rw[hW];exact(World.dec_new w M E _ rfl).alloc _
 have d2:World.dec W (w.heap.size+1) 0 0:=by rw[hW];exact World.dec_new _ 0 0 _ (by simp)
 have hB:Below w.heap.size w W:=by rw[hW];exact((Below.refl _ w).alloc (Nat.le_refl _) _).alloc (by simp) _
 clear hW
 refine(right_any M E _ h0 h1).mono ?_
 rintro e w1 ⟨rfl,hB1⟩
 have d0:=d0.below hB1 d0.lt
 have d2:=d2.below hB1 d2.lt
 have hB:=hB.trans (hB1.mono hB.size)
 clear hB1
 rcases hn with hn|hn
 all_goals
  have f0:=d2.frozen 0
  have f1:=d2.frozen 1
  have b0:=d2.c0
  have b1:=d2.c1
  go_wp2_with fail
  refine bodyPost_ret (results_dec_tmp rfl _ _ _ 0 0 rfl ((d2.set0 0).set1 0)) rfl ?_
  exact⟨rfl,(hB.setCell (by simp) _).setCell (by simp) _⟩
/-- One by a power, or the power's error. -/
def invR (r:(Int×Int)×Int):(Int×Int)×Int:=if r.2=0 then divD 1 0 r.1.1 r.1.2 else((0,0),r.2)
set_option maxRecDepth 100000 in
set_option maxHeartbeats 4000000 in
theorem pow_neg (M E n:Int) (w:World) (h0: -9223372036854775808≤M) (h1:M≤9223372036854775807) (hr:rightB M E=true) (n0: -100≤n) (n1:n<0):
 Calls Tryz.prog 34 #[.agg #[.int .i64 M,.int .i64 E],.int .i64 n] w (DecPost (invR (powN M E (-n).toNat)) w):=by
 go_enter Tryz.func34,Tryz.ntmps34
 go_wp2_with fail
 obtain⟨W,hW⟩:∃W,W=(w.alloc (.cells #[.int .i64 M,.int .i64 E] 34)).alloc (.cells #[.int .i64 0,.int .i64 0] 34):=⟨_,rfl⟩
 rw[←hW]
 have d0:World.dec W w.heap.size M E:=by rw[hW];exact(World.dec_new w M E _ rfl).alloc _
 have d2:World.dec W (w.heap.size+1) 0 0:=by rw[hW];exact World.dec_new _ 0 0 _ (by simp)
 have hB:Below w.heap.size w W:=by rw[hW];exact((Below.refl _ w).alloc (Nat.le_refl _) _).alloc (by simp) _
 clear hW
 refine(right_any M E _ h0 h1).mono ?_
 rintro e w1 ⟨rfl,hB1⟩
 have d0:=d0.below hB1 d0.lt
 have d2:=d2.below hB1 d2.lt
 have hB:=hB.trans (hB1.mono hB.size)
 clear hB1
 have a0:=d0.c0
 have a1:=d0.c1
 go_wp2_with fail
 refine(pow_pos M E (-n) _ h0 h1 hr (by omega) (by omega)).mono ?_
 rintro e w2 ⟨rfl,hB1⟩
 have d2:=d2.below hB1 d2.lt
 have hB:=hB.trans (hB1.mono hB.size)
 have hl2:=d2.lt
 clear hB1 a0 a1 d0
 rcases powN_two M E (-n).toNat with ⟨⟨X,Y⟩,hp,hR⟩|hp
 ·rw[hp]
  have HP:=Lib.hid hp
  clear hp
  obtain⟨x0,x1,y0,y1,_⟩:=hR
  simp only at x0 x1 y0 y1
  go_wp2_with fail
  refine(div_any 1 0 X Y _ (by omega) (by omega) (by omega) (by omega)).mono ?_
  rintro e w3 ⟨rfl,hB1⟩
  have d2:=(d2.alloc _).below hB1 (by simp;omega)
  have hB:=(hB.alloc hB.size _).trans (hB1.mono (by simp;have:=hB.size;omega))
  have f0:=d2.frozen 0
  have f1:=d2.frozen 1
  have b0:=d2.c0
  have b1:=d2.c1
  go_wp2_with fail
  refine bodyPost_ret (results_dec_tmp rfl _ _ _ _ _ rfl ((d2.set0 _).set1 _)) rfl ?_
  refine⟨?_,(hB.setCell (by simp) _).setCell (by simp) _⟩
  rw[HP.out];rfl
 ·rw[hp]
  have HP:=Lib.hid hp
  clear hp
  have f0:=d2.frozen 0
  have f1:=d2.frozen 1
  have b0:=d2.c0
  have b1:=d2.c1
  go_wp2_with fail
  refine bodyPost_ret (results_dec_tmp rfl _ _ _ 0 0 rfl (((d2.set0 0).set1 0).alloc _)) rfl ?_
  refine⟨?_,Below.alloc ((hB.setCell (by simp) _).setCell (by simp) _) (by simp;exact hB.size) _⟩
  rw[HP.out];rfl
/-- A power. -/
def powD (M E n:Int):(Int×Int)×Int:=if rightB M E=true then(if -100≤n∧n≤100 then(if n<0 then invR (powN M E (-n).toNat)else powN M E n.toNat)else((0,0),2))else((0,0),10)
theorem pow_any (M E n:Int) (w:World) (h0: -9223372036854775808≤M) (h1:M≤9223372036854775807):
 Calls Tryz.prog 34 #[.agg #[.int .i64 M,.int .i64 E],.int .i64 n] w (DecPost (powD M E n) w):=by
 unfold powD
 by_cases hr:rightB M E=true
 ·rw[if_pos hr]
  by_cases hn: -100≤n∧n≤100
  ·rw[if_pos hn]
   by_cases h:n<0
   ·rw[if_pos h];exact pow_neg M E n w h0 h1 hr hn.1 h
   ·rw[if_neg h];exact pow_pos M E n w h0 h1 hr (by omega) hn.2
  ·rw[if_neg hn];exact pow_arg M E n w h0 h1 hr (by omega)
 ·rw[if_neg hr];exact pow_no M E n w h0 h1 (by simpa using hr)
end Go.Proofs.YtmhfioimgllgeaaGreatDoor
namespace Go.Proofs.YtmhfioimgllgeaaGreatDoor
open Go.RowKit Go.Shelf
theorem plain4 :Tryz.prog.plainKey 4=true:=by kernel_rfl
theorem part54 (s:Bool) (f:Nat→Int) (m:Bool) (w:World):(part 103 (numF s f m) 1).run Tryz.prog w= .ok (.agg (digs f)) w:=by
 have h1:(isAgg 103).run Tryz.prog w= .ok true w:=by kernel_rfl
 have h2:(sizeOf 103).run Tryz.prog w= .ok 96 w:=by kernel_rfl
 simp only[part,Sem.run_bind,h1,h2,Result.andThen_ok,if_true,Sem.run_pure]
 have:(numF s f m).extract 1 (1+96)=digs f:=by
  unfold numF digs
  simp[List.extract_toArray,List.extract_eq_take_drop]
 rw[this]
theorem eqFields_one {P : Program} {w : World} (d : Nat) (xs ys : Array Value) (f : Field) (fs : List Field) {x y : Value} {r q : Bool} (hn : f.name ≠ "_") (hx : (part f.type xs f.offset).run P w = .ok x w) (hy : (part f.type ys f.offset).run P w = .ok y w)
 (he:(Op.equalIn d f.type x y).run P w= .ok r w) (hq:(Op.eqFields d xs ys fs).run P w= .ok q w):(Op.eqFields d xs ys (f :: fs)).run P w= .ok (r&&q) w:=by
 simp only[Op.eqFields,hn,ne_eq,not_false_eq_true,if_true,Sem.run_bind,hx,hy,he,Result.andThen_ok]
 cases r
 ·simp
 ·simpa using hq
theorem eqFields_nil {P:Program} {w:World} (d:Nat) (xs ys:Array Value):(Op.eqFields d xs ys []).run P w= .ok true w:=by simp[Op.eqFields]
theorem stood56 :Tryz.prog.stoodInHeld 105=false:=by kernel_rfl
theorem fields56 : Tryz.prog.fieldsOf 105 = #[{ name := "below", type := 4, offset := 0, embedded := false, tag := "", pkgPath := "tabula/dec", byteOffset := 0 }, { name := "d", type := 103, offset := 1, embedded := false, tag := "", pkgPath := "tabula/dec", byteOffset := 1 }, { name := "more", type := 4, offset := 97, embedded := false, tag := "", pkgPath := "tabula/dec", byteOffset := 97 }] := by simp [Program.fieldsOf, Tryz.underlying105]
theorem equal56 (d:Nat) (w:World) (s s':Bool) (f f':Nat→Int) (m m':Bool):(Op.equalIn (d+3) 105 (.agg (numF s f m)) (.agg (numF s' f' m'))).run Tryz.prog w= .ok (sameF s s' f f' m m') w:=by
 have a1:=run_part_plain (P:=Tryz.prog) w plain4 (numF_sign s f m)
 have a2:=run_part_plain (P:=Tryz.prog) w plain4 (numF_sign s' f' m')
 have b1:=run_part_plain (P:=Tryz.prog) w plain4 (numF_more s f m)
 have b2:=run_part_plain (P:=Tryz.prog) w plain4 (numF_more s' f' m')
 have c1:=part54 s f m w
 have c2:=part54 s' f' m' w
 have e1:(Op.equalIn (d+2) 4 (.bool s) (.bool s')).run Tryz.prog w=_:=run_equalIn_bool (P:=Tryz.prog) w (d+1) 4 s s' Tryz.underlying4
 have e2:(Op.equalIn (d+2) 103 (.agg (digs f)) (.agg (digs f'))).run Tryz.prog w=_:=equal54 d w f f'
 have e3:(Op.equalIn (d+2) 4 (.bool m) (.bool m')).run Tryz.prog w=_:=run_equalIn_bool (P:=Tryz.prog) w (d+1) 4 m m' Tryz.underlying4
 have g0:=eqFields_nil (P:=Tryz.prog) (w:=w) (d+2) (numF s f m) (numF s' f' m')
 have g1 := eqFields_one (P := Tryz.prog) (d + 2) (numF s f m) (numF s' f' m') { name := "more", type := 4, offset := 97, embedded := false, tag := "", pkgPath := "tabula/dec", byteOffset := 97 } [] (by simp) b1 b2 e3 g0
 have g2 := eqFields_one (P := Tryz.prog) (d + 2) (numF s f m) (numF s' f' m') { name := "d", type := 103, offset := 1, embedded := false, tag := "", pkgPath := "tabula/dec", byteOffset := 1 } _ (by simp) c1 c2 e2 g1
 have g3 := eqFields_one (P := Tryz.prog) (d + 2) (numF s f m) (numF s' f' m') { name := "below", type := 4, offset := 0, embedded := false, tag := "", pkgPath := "tabula/dec", byteOffset := 0 } _ (by simp) a1 a2 e1 g2
 clear a1 a2 b1 b2 c1 c2 e1 e2 e3 g0 g1 g2
 have:=run_equalIn_struct (P:=Tryz.prog) w (d+2) 105 (numF s f m) (numF s' f' m') (by rw[fields56];exact Tryz.underlying105) stood56
 rw[fields56]at this
 refine this.trans ?_
 rw[Bool.and_true]at g3
 exact g3
theorem eq56 (w:World) (s s':Bool) (f f':Nat→Int) (m m':Bool):(Op.equal 105 (.agg (numF s f m)) (.agg (numF s' f' m'))).run Tryz.prog w= .ok (sameF s s' f f' m m') w:=by
 have h:=equal56 9997 w s s' f f' m m'
 simp only[Nat.reduceAdd]at h
 unfold Op.equal Op.maxDepth
 exact h
end Go.Proofs.YtmhfioimgllgeaaGreatDoor
namespace Go.Proofs.YtmhfioimgllgeaaGreatDoor
open Go.RowKit Go.Shelf
section
variable {P : Program} {ops : Array Oper} {S : World → Prop} {o : Oper} {a : Act}
theorem yieldsIf_load56 {x:Operand} {g:Nat} {s:Bool} {f:Nat→Int} {m:Bool} (hw:Region.wanted o (yielded ops a.tmps)=true) (ho:o.op= .load 105 x) (hx:a.eval x= .pointer (some ⟨g,0,none⟩))
 (hS:∀w,S w→World.num w g s f m):YieldsIf Tryz.prog ops S o (.agg (numF s f m)) a:= .inl ⟨hw,fun w h=>by
 unfold execOp
 simp only[ho,hx,Instr.loadAt,Instr.sureAddr,Sem.run_bind,Sem.run_pure,Result.andThen_ok,run_loadVar_row w g 105 105 _ (0,0) _ (hS w h) Tryz.underlying105 rfl (info56' s f m)]⟩
theorem eqGuard56 (op:BinOp) (x y:Operand) (u v:Array Value) (w:World):(eqGuard op 105 x y (.agg u) (.agg v)).run Tryz.prog w= .ok () w:=by
 have h:Tryz.prog.eqGuardType Tryz.prog.depth 105=false:=by kernel_rfl
 unfold eqGuard
 by_cases c:(!(op matches .eql| .neq))=true
 ·simp
 ·simp[h]
theorem yieldsIf_neq56 {x y:Operand} {t:TypeId} {s s':Bool} {f f':Nat→Int} {m m':Bool} (hw:Region.wanted o (yielded ops a.tmps)=true) (ho:o.op= .binOp .neq 105 x y t)
 (hx:a.eval x= .agg (numF s f m)) (hy:a.eval y= .agg (numF s' f' m')):YieldsIf Tryz.prog ops S o (.bool (!sameF s s' f f' m m')) a:= .inl ⟨hw,fun w _=>by
 have h:=eq56 w s s' f f' m m'
 have hg:=eqGuard56 .neq x y (numF s f m) (numF s' f' m') w
 unfold execOp
 simp only[ho,hx,hy,binOp,Sem.run_bind,hg,h,Sem.run_pure,Result.andThen_ok]⟩
end
theorem of_int (n:Int) (w:World) (h0: -9223372036854775808≤n) (h1:n≤9223372036854775807):
 Calls Tryz.prog 77 #[.bool (decide (n<0)),.int .u64 0,.int .u64 (n.natAbs:Int),.int .i64 0] w (OfPost (decide (n<0)) (ofN n) w):=by
 have hV:n.natAbs<10 ^ 19:=by rw[show (10:Nat) ^ 19=10000000000000000000 from by decide];omega
 have hb:Hid (n.natAbs*10 ^ 48<10 ^ 96):=lay_lt (a:=19) (b:=48) hV (by decide) (by decide)
 exact of_any _ 0 _ 0 n.natAbs 48 w (by omega) (Int.natCast_nonneg _) (by omega) (by omega) (by show _=_;omega) (by omega) hb (by decide)
theorem near_int (n:Int) (w:World) (h0: -9223372036854775808≤n) (h1:n≤9223372036854775807):
 Calls Tryz.prog 78 #[.agg (numF (decide (n<0)) (dg (ofN n)) false)] w (DecPost (near (decide (n<0)) (ofN n) false) w):=nearest_any _ _ _ w (ofN_lt h0 h1)
set_option maxRecDepth 100000 in
set_option maxHeartbeats 4000000 in
theorem of_n (n:Int) (w:World) (h0: -9223372036854775808≤n) (h1:n≤9223372036854775807):
 Calls Tryz.prog 237 #[.int .i64 n] w (DecPost (ofD n) w):=by
 go_enter Tryz.func237,Tryz.ntmps237
 go_wp2_with (first
  |(go_at_call 76;refine(abs_any _ _ h0 h1).mono ?_;rintro e w1 ⟨rfl,rfl⟩)
  |(go_at_call 77;go_must (refine(of_int n _ h0 h1).mono ?_;rintro e w1 ⟨rfl,hB1⟩))
  |refine wpList_alloc56 rfl rfl ?_
  |(refine wpList_store56 rfl rfl rfl rfl (World.num_new _ _ _ _) ?_;intro w3 hn3 hg3 hz3)
  |(refine wpList_load56 rfl rfl rfl hn3 ?_))
 have d2:World.dec w1 w.heap.size 0 0:=World.dec.below (World.dec_new w 0 0 _ rfl) hB1 (by simp)
 have hB:Below w.heap.size w w1:=((Below.refl _ w).alloc (Nat.le_refl _) _).trans (hB1.mono (by simp))
 have hlt:=d2.lt
 have d2:World.dec w3 w.heap.size 0 0:=World.dec.grown (d2.alloc _) hg3 (by simp;omega)
 have hB:Below w.heap.size w w3:=(hB.alloc hB.size _).grown hg3 (by have:=hB.size;simp;omega) (fun k hk=>by cases hk;exact hB.size)
 clear hg3 hz3 hB1
 refine(near_int n _ h0 h1).mono ?_
 rintro e w4 ⟨rfl,hB1⟩
 have d2:=d2.below hB1 d2.lt
 have hn4:=hn3.below hB1 hn3.lt
 have hB:=hB.trans (hB1.mono hB.size)
 have hl2:=d2.lt
 have hl3:=hn4.lt
 clear hB1 hn3
 rcases near_two (decide (n<0)) (ofN n)with h|h
 ·obtain⟨⟨X,Y⟩,hp⟩:∃p,near (decide (n<0)) (ofN n) false=(p,0):=⟨_,Prod.ext rfl h⟩
  rw[hp]
  have hR:=near_right hp
  have HP:=Lib.hid hp
  clear hp h
  obtain⟨x0,x1,y0,y1,_⟩:=hR
  simp only at x0 x1 y0 y1
  go_wp2_with fail
  obtain⟨W,hW⟩:∃W,W=w4.alloc (.cells #[.int .i64 X,.int .i64 Y] 34):=⟨_,rfl⟩
  rw[←hW]
  obtain⟨g,hg⟩:∃g,g=w4.heap.size:=⟨_,rfl⟩
  rw[←hg]
  have d5:World.dec W g X Y:=by rw[hW];exact World.dec_new w4 X Y _ hg
  have d2:World.dec W w.heap.size 0 0:=by rw[hW];exact d2.alloc _
  have hn4:World.num W w1.heap.size (decide (n<0)) (dg (ofN n)) false:=by rw[hW];exact hn4.alloc _
  have hB:Below w.heap.size w W:=by rw[hW];exact hB.alloc hB.size _
  have hne:w.heap.size<g:=by omega
  clear hW hg
  have a0:=d5.c0
  have a1:=d5.c1
  go_cut [24] (fun v wc=>v= .bool (!ofS n (X,Y))∧World.dec wc g X Y∧World.dec wc w.heap.size 0 0∧Below w.heap.size w wc)
  case first=>
   refine wp_region_held_drew (S:=fun w'=>w'.cell? ⟨g,0,none⟩=some (.int .i64 X)∧w'.cell? ⟨g,1,none⟩=some (.int .i64 Y)∧World.num w' w1.heap.size (decide (n<0)) (dg (ofN n)) false) (by kernel_rfl) ⟨a0,a1,hn4⟩ (fun hHeld=> ?_)
   refine tk 0 ⟨some 17,_,_,_,_,_⟩ ?_ hHeld ?_ ?_
   rotate_left
   ·(intro w hSw;(try dsimp only at hSw);go_simp)
    all_goals with_reducible rfl
   try simp only[Act.put,List.setIfInBounds_toArray,List.set_cons_zero,List.set_cons_succ]
   refine tk 1 ⟨some 18,_,_,_,_,_⟩ ?_ hHeld ?_ ?_
   rotate_left
   ·(intro w hSw;(try dsimp only at hSw);go_simp)
    all_goals with_reducible rfl
   try simp only[Act.put,List.setIfInBounds_toArray,List.set_cons_zero,List.set_cons_succ]
   refine tk 2 ⟨some 19,_,_,_,_,_⟩ ?_ hHeld ?_ ?_
   rotate_left
   ·(intro w hSw;(try dsimp only at hSw);go_simp)
    all_goals with_reducible rfl
   try simp only[Act.put,List.setIfInBounds_toArray,List.set_cons_zero,List.set_cons_succ]
   refine tk 3 ⟨some 20,_,_,_,_,_⟩ ?_ hHeld ?_ ?_
   rotate_left
   ·(intro w hSw;(try dsimp only at hSw);go_simp)
    all_goals with_reducible rfl
   try simp only[Act.put,List.setIfInBounds_toArray,List.set_cons_zero,List.set_cons_succ]
   refine wpAnyH_take (i:=5) (oi:=⟨some 22,_,_,_,_,_⟩) rfl (by kernel_rfl) (by kernel_rfl) (by kernel_rfl) (fun _ _ _ h=>h) (yieldsIf_load56 (by rfl) rfl rfl (fun w h=>h.2.2)) hHeld ?_
   try simp only[Act.put,List.setIfInBounds_toArray,List.set_cons_zero,List.set_cons_succ]
   refine wpAnyH_ready (rs:= [4]) (by kernel_rfl) (by simp) ?_
   refine AllReadyH.cons (o:=⟨some 21,_,_,_,_,_⟩) rfl (fun K hK=> ?_) AllReadyH.nil
   go_simp
   refine(lay_any X Y _ x0 x1 y0 y1).mono ?_
   rintro e w5 ⟨rfl,hB1⟩
   have d5:=(World.dec.drew d5).below hB1 d5.lt
   have d2:=(World.dec.drew d2).below hB1 d2.lt
   have hn4:=(World.num.drew hn4).below hB1 hn4.lt
   have hB:=hB.drew.trans (hB1.mono hB.size)
   clear hHeld
   refine hK.out _ _ ⟨d5.c0,d5.c1,hn4⟩ (fun hHeld=> ?_)
   clear hK K
   try simp only[Act.put,List.setIfInBounds_toArray,List.set_cons_zero,List.set_cons_succ]
   refine wpAnyH_take (i:=6) (oi:=⟨some 23,_,_,_,_,_⟩) rfl (by kernel_rfl) (by kernel_rfl) (by kernel_rfl) (fun _ _ _ h=>h) (yieldsIf_neq56 (by rfl) rfl rfl rfl) hHeld ?_
   try simp only[Act.put,List.setIfInBounds_toArray,List.set_cons_zero,List.set_cons_succ]
   refine tk 7 ⟨some 24,_,_,_,_,_⟩ ?_ hHeld ?_ ?_
   rotate_left
   ·(intro w hSw;(try dsimp only at hSw);go_simp)
    all_goals with_reducible rfl
   try simp only[Act.put,List.setIfInBounds_toArray,List.set_cons_zero,List.set_cons_succ]
   refine wpAnyH_done (by kernel_rfl) ?_ _
   try simp only[Act.put,List.setIfInBounds_toArray,List.set_cons_zero,List.set_cons_succ]
   go_wp2_with fail
   go_meet
   case rel=>exact⟨rfl,d5,d2,hB⟩
  case rest=>
  obtain⟨rfl,d5,d2,hB⟩:=hcut
  clear a0 a1
  have f0:=d2.frozen 0
  have f1:=d2.frozen 1
  have b0:=d2.c0
  have b1:=d2.c1
  have a0:=d5.c0
  have a1:=d5.c1
  cases hs:ofS n (X,Y)
  ·have HS:=Lib.hid hs
   clear hs
   go_wp2_with fail
   refine bodyPost_ret (results_dec_tmp rfl _ _ _ 0 0 rfl ((d2.set0 0).set1 0)) rfl ?_
   refine⟨?_,(hB.setCell (by simp) _).setCell (by simp) _⟩
   rw[ofD_no HP.out HS.out];rfl
  ·have HS:=Lib.hid hs
   clear hs
   go_wp2_with fail
   refine bodyPost_ret (results_dec_tmp rfl _ _ _ X Y rfl ((d2.set0 X).set1 Y)) rfl ?_
   refine⟨?_,(hB.setCell (by simp) _).setCell (by simp) _⟩
   rw[ofD_yes HP.out HS.out];rfl
 ·rw[h]
  have HP:=Lib.hid h
  clear h
  go_wp2_with fail
  obtain⟨W,hW⟩:∃W,W=w4.alloc (.cells #[.int .i64 0,.int .i64 0] 34):=⟨_,rfl⟩
  rw[←hW]
  obtain⟨g,hg⟩:∃g,g=w4.heap.size:=⟨_,rfl⟩
  rw[←hg]
  have d5:World.dec W g 0 0:=by rw[hW];exact World.dec_new w4 0 0 _ hg
  have d2:World.dec W w.heap.size 0 0:=by rw[hW];exact d2.alloc _
  have hn4:World.num W w1.heap.size (decide (n<0)) (dg (ofN n)) false:=by rw[hW];exact hn4.alloc _
  have hB:Below w.heap.size w W:=by rw[hW];exact hB.alloc hB.size _
  have hne:w.heap.size<g:=by omega
  clear hW hg
  have a0:=d5.c0
  have a1:=d5.c1
  go_cut [24] (fun v wc=>v= .bool true∧World.dec wc g 0 0∧World.dec wc w.heap.size 0 0∧Below w.heap.size w wc)
  case first=>
   refine wp_region_held_drew (S:=fun w'=>w'.cell? ⟨g,0,none⟩=some (.int .i64 0)∧w'.cell? ⟨g,1,none⟩=some (.int .i64 0)∧World.num w' w1.heap.size (decide (n<0)) (dg (ofN n)) false) (by kernel_rfl) ⟨a0,a1,hn4⟩ (fun hHeld=> ?_)
   refine tk 0 ⟨some 17,_,_,_,_,_⟩ ?_ hHeld ?_ ?_
   rotate_left
   ·(intro w hSw;(try dsimp only at hSw);go_simp)
    all_goals with_reducible rfl
   try simp only[Act.put,List.setIfInBounds_toArray,List.set_cons_zero,List.set_cons_succ]
   refine tk 1 ⟨some 18,_,_,_,_,_⟩ ?_ hHeld ?_ ?_
   rotate_left
   ·(intro w hSw;(try dsimp only at hSw);go_simp)
    all_goals with_reducible rfl
   try simp only[Act.put,List.setIfInBounds_toArray,List.set_cons_zero,List.set_cons_succ]
   refine tk 2 ⟨some 19,_,_,_,_,_⟩ ?_ hHeld ?_ ?_
   rotate_left
   ·(intro w hSw;(try dsimp only at hSw);go_simp)
    all_goals with_reducible rfl
   try simp only[Act.put,List.setIfInBounds_toArray,List.set_cons_zero,List.set_cons_succ]
   refine wpAnyH_take (i:=3) (oi:=⟨some 20,_,_,_,_,_⟩) rfl (by kernel_rfl) (by kernel_rfl) (by kernel_rfl) (fun _ _ _ h=>h) (Or.inr ⟨by rfl,rfl⟩) hHeld ?_
   try simp only[Act.put,List.setIfInBounds_toArray,List.set_cons_zero,List.set_cons_succ]
   refine wpAnyH_take (i:=4) (oi:=⟨some 21,_,_,_,_,_⟩) rfl (by kernel_rfl) (by kernel_rfl) (by kernel_rfl) (fun _ _ _ h=>h) (Or.inr ⟨by rfl,rfl⟩) hHeld ?_
   try simp only[Act.put,List.setIfInBounds_toArray,List.set_cons_zero,List.set_cons_succ]
   refine wpAnyH_take (i:=5) (oi:=⟨some 22,_,_,_,_,_⟩) rfl (by kernel_rfl) (by kernel_rfl) (by kernel_rfl) (fun _ _ _ h=>h) (Or.inr ⟨by rfl,rfl⟩) hHeld ?_
   try simp only[Act.put,List.setIfInBounds_toArray,List.set_cons_zero,List.set_cons_succ]
   refine wpAnyH_take (i:=6) (oi:=⟨some 23,_,_,_,_,_⟩) rfl (by kernel_rfl) (by kernel_rfl) (by kernel_rfl) (fun _ _ _ h=>h) (Or.inr ⟨by rfl,rfl⟩) hHeld ?_
   try simp only[Act.put,List.setIfInBounds_toArray,List.set_cons_zero,List.set_cons_succ]
   refine tk 7 ⟨some 24,_,_,_,_,_⟩ ?_ hHeld ?_ ?_
   rotate_left
   ·(intro w hSw;(try dsimp only at hSw);go_simp)
    all_goals with_reducible rfl
   try simp only[Act.put,List.setIfInBounds_toArray,List.set_cons_zero,List.set_cons_succ]
   refine wpAnyH_done (by kernel_rfl) ?_ _
   try simp only[Act.put,List.setIfInBounds_toArray,List.set_cons_zero,List.set_cons_succ]
   have d5:=World.dec.drew d5
   have d2:=World.dec.drew d2
   have hB:=hB.drew
   go_wp2_with fail
   go_meet
   case rel=>exact⟨rfl,d5,d2,hB⟩
  case rest=>
  obtain⟨rfl,d5,d2,hB⟩:=hcut
  have f0:=d2.frozen 0
  have f1:=d2.frozen 1
  have b0:=d2.c0
  have b1:=d2.c1
  go_wp2_with fail
  refine bodyPost_ret (results_dec_tmp rfl _ _ _ 0 0 rfl ((d2.set0 0).set1 0)) rfl ?_
  refine⟨?_,(hB.setCell (by simp) _).setCell (by simp) _⟩
  rw[ofD_bad HP.out];rfl
end Go.Proofs.YtmhfioimgllgeaaGreatDoor
namespace Go.Proofs.YtmhfioimgllgeaaGreatDoor
open Go.RowKit Go.Shelf
set_option maxHeartbeats 1000000 in
theorem pick70 (c n:Int) (w:World) (h0: -9223372036854775808≤c) (h1:c≤9223372036854775807) (n0:0<n) (n1:n≤9223372036854775807):
 Calls Tryz.prog 70 #[.int .i64 c,.int .i64 n] w fun e w'=>e= .returned (.int .i64 (pickI c n))∧w'=w:=by
 have hn:¬n=0:=by omega
 by_cases hc:c<0
 ·have htm:(-(c+1)).tmod n=(-(c+1))%n:=Int.tmod_eq_emod_of_nonneg (by omega)
  have hb0:0≤(-(c+1))%n:=Int.emod_nonneg _ hn
  have hb1:(-(c+1))%n<n:=Int.emod_lt_of_pos _ n0
  have hw:IntKind.i64.wrap ((-(c+1))%n)=(-(c+1))%n:=IntWalk.i64_in _ (by omega)
  have HP:Hid (pickI c n=(-(c+1))%n):=by show _=_;rw[pickI,if_pos hc]
  go_enter Tryz.func70,Tryz.ntmps70
  go_wp2
  go_ret
  exact⟨ret_int (by rw[HP.out]),rfl⟩
 ·have htm:c.tmod n=c%n:=Int.tmod_eq_emod_of_nonneg (by omega)
  have hb0:0≤c%n:=Int.emod_nonneg _ hn
  have hb1:c%n<n:=Int.emod_lt_of_pos _ n0
  have hw:IntKind.i64.wrap (c%n)=c%n:=IntWalk.i64_in _ (by omega)
  have HP:Hid (pickI c n=c%n):=by show _=_;rw[pickI,if_neg hc]
  go_enter Tryz.func70,Tryz.ntmps70
  go_wp2
  go_ret
  exact⟨ret_int (by rw[HP.out]),rfl⟩
/-- Of raw numbers, a right decimal. -/
def madeP (M E:Int):Int×Int:=if rightB M E=true then(M,E)else decOf (decide (pickI M 1999999999999999-999999999999999<0)) (pickI M 1999999999999999-999999999999999).natAbs (pickI E 19-9)
theorem decOf_stop {a b:Int} (ha:a≠0) (h:¬(a%10=0∧b<9)):decOf (decide (a<0)) a.natAbs b=(a,b):=by
 unfold decOf
 rw[if_neg (by omega),strip_stop (by omega)]
 by_cases c2:a<0
 ·simp only[c2,decide_true,if_true];rw[show -((a.natAbs:Nat):Int)=a by omega]
 ·simp only[c2,decide_false,Bool.false_eq_true,if_false];rw[show ((a.natAbs:Nat):Int)=a by omega]
theorem decOf_down {x b:Int} (hb:b<9) (_hx:x≠0):decOf (decide (x*10<0)) (x*10).natAbs b=decOf (decide (x<0)) x.natAbs (b+1):=by
 rw[show decide (x*10<0)=decide (x<0) by rw[decide_eq_decide];omega,show(x*10).natAbs=x.natAbs*10 by omega,decOf_ten _ _ hb]
set_option maxRecDepth 100000 in
set_option maxHeartbeats 4000000 in
theorem made_any (M E:Int) (w:World) (h0: -9223372036854775808≤M) (h1:M≤9223372036854775807) (h2: -9223372036854775808≤E) (h3:E≤9223372036854775807):
 Calls Tryz.prog 30 #[.agg #[.int .i64 M,.int .i64 E]] w fun e w'=>e= .returned (decV (madeP M E))∧Below w.heap.size w w':=by
 go_enter Tryz.func30,Tryz.ntmps30
 go_wp2_with fail
 obtain⟨W,hW⟩:∃W,W=(w.alloc (.cells #[.int .i64 M,.int .i64 E] 34)).alloc (.cells #[.int .i64 0,.int .i64 0] 34):=⟨_,rfl⟩
 rw[←hW]
 have d0:World.dec W w.heap.size M E:=by rw[hW];exact(World.dec_new w M E _ rfl).alloc _
 have d2:World.dec W (w.heap.size+1) 0 0:=by rw[hW];exact World.dec_new _ 0 0 _ (by simp)
 have hB:Below w.heap.size w W:=by rw[hW];exact((Below.refl _ w).alloc (Nat.le_refl _) _).alloc (by simp) _
 clear hW
 refine(rright_any M E _ h0 h1).mono ?_
 rintro e w1 ⟨rfl,hB1⟩
 have d0:=d0.below hB1 d0.lt
 have d2:=d2.below hB1 d2.lt
 have hB:=hB.trans (hB1.mono hB.size)
 clear hB1
 have a0:=d0.c0
 have a1:=d0.c1
 have b0:=d2.c0
 have b1:=d2.c1
 have f0:=d2.frozen 0
 have f1:=d2.frozen 1
 by_cases hr:rightB M E=true
 ·have HM:Hid (madeP M E=(M,E)):=by show _=_;rw[madeP,if_pos hr]
  go_wp2_with fail
  refine bodyPost_ret (results_cell_row rfl _ _ _ 34 _ (0,0) _ rfl (World.dec.set1 (World.dec.set0 d2 M) E) Tryz.underlying34 rfl (by kernel_rfl)) rfl ?_
  exact⟨by rw[HM.out],(hB.setCell (by simp) _).setCell (by simp) _⟩
 ·have hrb:rightB M E=false:=by simpa using hr
  have HM:Hid (madeP M E=decOf (decide (pickI M 1999999999999999-999999999999999<0)) (pickI M 1999999999999999-999999999999999).natAbs (pickI E 19-9)):=by show _=_;rw[madeP,if_neg hr]
  clear hr
  obtain⟨p0,p1⟩:=pickI_bd M (n:=1999999999999999) (by decide)
  obtain⟨q0,q1⟩:=pickI_bd E (n:=19) (by decide)
  go_wp2_with fail
  refine(pick70 M 1999999999999999 _ h0 h1 (by decide) (by decide)).mono ?_
  rintro e w2 ⟨rfl,rfl⟩
  obtain⟨m,hm⟩:∃m,m=pickI M 1999999999999999:=⟨_,rfl⟩
  rw[←hm]at p0 p1⊢
  have Hm:=Lib.hid hm
  clear hm
  go_wp2_with fail
  refine(pick70 E 19 _ h2 h3 (by decide) (by decide)).mono ?_
  rintro e w3 ⟨rfl,rfl⟩
  obtain⟨q,hq⟩:∃q,q=pickI E 19:=⟨_,rfl⟩
  rw[←hq]at q0 q1⊢
  have Hq:=Lib.hid hq
  clear hq
  go_wp2_with fail
  obtain⟨T,hT⟩:∃T,T=madeP M E:=⟨_,rfl⟩
  have hT2:=hT
  rw[HM.out,←Hm.out,←Hq.out]at hT2
  have HT:=Lib.hid hT
  have HT2:=Lib.hid hT2
  clear hT hT2
  go_loop [3,4] (fun x y=>∃a b:Int,x= .int .i64 a∧y= .int .i64 b∧ -999999999999999≤a∧a≤999999999999999∧ -9≤b∧b≤9∧Hid (T=decOf (decide (a<0)) a.natAbs b)) (fun _ y=>(9-intOf y).toNat)
  case atStart=>exact⟨_,_,rfl,rfl,by omega,by omega,by omega,by omega,HT2⟩
  case round=>
   obtain⟨a,b,rfl,rfl,u0,u1,v0,v1,HA⟩:=hrel
   by_cases hz:a=0
   ·subst hz
    go_wp2_with fail
    refine bodyPost_ret (results_cell_row rfl _ _ _ 34 _ (0,0) _ rfl (World.dec.set1 (World.dec.set0 d2 0) 0) Tryz.underlying34 rfl (by kernel_rfl)) rfl ?_
    exact⟨by rw[←HT.out,HA.out];rfl,(hB.setCell (by simp) _).setCell (by simp) _⟩
   ·have hzb:(a != 0)=true:=by simpa using hz
    have hze:(a==0)=false:=by simpa using hz
    have hdiv:a.tmod 10=0↔a%10=0:=by rw[←Int.dvd_iff_tmod_eq_zero,Int.dvd_iff_emod_eq_zero]
    by_cases ht:a%10=0
    ·obtain⟨x,rfl⟩:∃x,a=x*10:=⟨a / 10,by omega⟩
     have hx:x≠0:=by omega
     have htm:(x*10).tmod 10=0:=hdiv.2 ht
     have htd:(x*10).tdiv 10=x:=Int.mul_tdiv_cancel _ (by decide)
     have hwx:IntKind.i64.wrap x=x:=IntWalk.i64_in _ (by omega)
     clear hdiv ht
     by_cases hb:b<9
     ·have HD:Hid (T=decOf (decide (x<0)) x.natAbs (b+1)):=by show _=_;rw[HA.out,decOf_down hb hx]
      clear hx hz
      go_wp2_with fail
      go_round
      case rel=>exact⟨x,b+1,rfl,rfl,by omega,by omega,by omega,by omega,HD⟩
      case measure=>first|(simp[intOf];done)|(simp[intOf];omega)
     ·have HD:Hid (T=(x*10,b)):=by show _=_;rw[HA.out,decOf_stop hz (by omega)]
      clear hx hz
      go_wp2_with fail
      refine bodyPost_ret (results_cell_row rfl _ _ _ 34 _ (0,0) _ rfl (World.dec.set1 (World.dec.set0 d2 (x*10)) b) Tryz.underlying34 rfl (by kernel_rfl)) rfl ?_
      exact⟨by rw[←HT.out,HD.out],(hB.setCell (by simp) _).setCell (by simp) _⟩
    ·have htm:(a.tmod 10==0)=false:=by simpa using mt hdiv.1 ht
     have HD:Hid (T=(a,b)):=by show _=_;rw[HA.out,decOf_stop hz (by omega)]
     clear hdiv hz ht
     go_wp2_with fail
     refine bodyPost_ret (results_cell_row rfl _ _ _ 34 _ (0,0) _ rfl (World.dec.set1 (World.dec.set0 d2 a) b) Tryz.underlying34 rfl (by kernel_rfl)) rfl ?_
     exact⟨by rw[←HT.out,HD.out],(hB.setCell (by simp) _).setCell (by simp) _⟩
end Go.Proofs.YtmhfioimgllgeaaGreatDoor
