/- number.plus: a sum of two numbers, place by place. -/
import Derived.Test.YtmhfioimgllgeaaGreatDoorR01
import Derived.Test.YtmhfioimgllgeaaGreatDoorR22
import Derived.Test.YtmhfioimgllgeaaGreatDoorR15
import Derived.Test.YtmhfioimgllgeaaGreatDoorR35
namespace Go.Proofs.YtmhfioimgllgeaaGreatDoor
open Go.RowKit
set_option maxRecDepth 100000 in
set_option maxHeartbeats 2000000 in
theorem plus_true (D D':Nat) (w:World) (_hD:Hid (D<10 ^ 96)) (_hD':Hid (D'<10 ^ 96)):
 Calls Tryz.prog 73 #[.agg (numF true (dg D) false),.agg (numF true (dg D') false)] w (OfPost (plusD true D true D').1 (plusD true D true D').2 w):=by
 have HP:Hid (plusD true D true D'=(true,D+D')):=by show _=_;unfold plusD;rw[if_pos rfl]
 have HS:Hid (((D+D':Nat):Int)=(D:Int)+1*(D':Int)):=by show _=_;omega
 go_enter Tryz.func73,Tryz.ntmps73
 go_wp2_with (first
  |(refine wpList_alloc56 rfl rfl ?_
    obtain⟨W,hW⟩:∃W,W=((w.alloc (.cells (numF true (dg D) false) 105)).alloc (.cells (numF true (dg D') false) 105)).alloc (.cells (numF false z96 false) 105):=⟨_,rfl⟩
    rw[←hW]
    have nX:World.num W w.heap.size true (dg D) false:=by rw[hW];exact((World.num_new _ _ _ _).alloc _).alloc _
    have nY:World.num W (w.heap.size+1) true (dg D') false:=by rw[hW];exact(World.num_new' _ _ _ _ _ (by simp)).alloc _
    have n2:World.num W (w.heap.size+1+1) false z96 false:=by rw[hW];exact World.num_new' _ _ _ _ _ (by simp)
    have hB:Below w.heap.size w W:=by rw[hW];exact(((Below.refl _ w).alloc (Nat.le_refl _) _).alloc (by simp) _).alloc (by simp;omega) _
    clear hW
    have b0:=nX.sign
    have b1:=nY.sign))
 clear b0 b1
 clear _hD _hD'
 obtain⟨S,eS⟩:∃S,S=D+D':=⟨_,rfl⟩
 rw[←eS]at HP HS
 clear eS
 go_loopw [6,24] (fun c k wr=>∃(C:Int) (K:Nat),c= .int .i8 C∧k= .int .i64 K∧K≤96∧0≤C∧C≤1∧Hid (((S / 10 ^ K:Nat):Int)=((D / 10 ^ K:Nat):Int)+1*((D' / 10 ^ K:Nat):Int)+C)∧
  World.num wr w.heap.size true (mixTo (dg S) (dg D) K) false∧World.num wr (w.heap.size+1) true (dg D') false∧World.num wr (w.heap.size+1+1) false z96 false∧Below w.heap.size w wr) (fun _ k _=>96-(intOf k).toNat)
 case atStart=>
  refine⟨0,0,rfl,rfl,by omega,by omega,by omega,?_,World.num.congr nX (fun i _=>rfl),nY,n2,hB⟩
  show _=_
  simp only[Nat.pow_zero,Nat.div_one]
  rw[HS.out];omega
 case round=>
  obtain⟨C,K,rfl,rfl,j0,c0,c1,HK,n0,n1,n3,hB1⟩:=hrel
  clear nX nY n2 hB
  by_cases c:K<96
  ·have hcx:=(World.num.at n0 K c).1
   rw[show mixTo (dg S) (dg D) K K=dg D K by unfold mixTo;rw[if_neg (by omega)]]at hcx
   have hfx:=(World.num.at n0 K c).2
   have hcy:=(World.num.at n1 K c).1
   have hkI:(K:Int)<96:=by omega
   have x0:=dg_nonneg D K
   have x1:=dg_le D K
   have y0:=dg_nonneg D' K
   have y1:=dg_le D' K
   have HP2:=Lib.hid (place S D D' K 1 C (by omega) HK.out)
   go_wp2_with fail
   go_quiet (fail)
   go_wp2_with fail
   all_goals
    go_roundw
    case rel=>
     refine⟨_,K+1,rfl,by go_num,by omega,?_,?_,?_,World.num.drewN (World.num.congr (World.num.set n0 c _) (fun i _=> ?_)) _,World.num.drewN (World.num.other n1 (by simp) _) _,World.num.drewN (World.num.other n3 (by simp;omega) _) _,below_drewN (hB1.setCell (by simp) _) _⟩
     ·omega
     ·omega
     ·show _=_
      rw[HP2.out.2];omega
     ·rw[←mixTo_succ,HP2.out.1]
      split
      ·omega
      ·rfl
    case measure=>first|(simp[intOf];done)|(simp[intOf];omega)
  ·obtain rfl:K=96:=by omega
   go_wp2_with (first|(refine wpList_load56 rfl rfl rfl n0 ?_)|(refine wpList_store56 rfl rfl rfl rfl n3 ?_;intro w9 n9 g9 z9))
   refine bodyPost_ret (results_cell_row rfl _ _ _ 105 _ (0,0) _ rfl n9 Tryz.underlying105 rfl (info56' _ _ _)) rfl ?_
   refine⟨?_,hB1.grown g9 hB1.size (fun k hk=>by cases hk;omega)⟩
   rw[HP.out]
   show Ending.returned (.agg _)=Ending.returned (.agg _)
   rw[numF_congr (fun i hi=>show mixTo (dg S) (dg D) 96 i=dg S i by unfold mixTo;rw[if_pos hi])]
set_option maxRecDepth 100000 in
set_option maxHeartbeats 2000000 in
theorem plus_true_no (D D':Nat) (w:World) (hD:Hid (D<10 ^ 96)) (hD':Hid (D'<10 ^ 96)) (hlt:Hid (decide (D<D')=false)):
 Calls Tryz.prog 73 #[.agg (numF true (dg D) false),.agg (numF false (dg D') false)] w (OfPost (plusD true D false D').1 (plusD true D false D').2 w):=by
 have HP:Hid (plusD true D false D'=(true,D-D')):=by show _=_;unfold plusD;rw[if_neg (by decide),if_neg (by simpa using hlt.out)]
 have HS:Hid (((D-D':Nat):Int)=(D:Int)+(-1)*(D':Int)):=by show _=_;have:=hlt.out;simp at this;omega
 go_enter Tryz.func73,Tryz.ntmps73
 go_wp2_with (first
  |(refine wpList_alloc56 rfl rfl ?_
    obtain⟨W,hW⟩:∃W,W=((w.alloc (.cells (numF true (dg D) false) 105)).alloc (.cells (numF false (dg D') false) 105)).alloc (.cells (numF false z96 false) 105):=⟨_,rfl⟩
    rw[←hW]
    have nX:World.num W w.heap.size true (dg D) false:=by rw[hW];exact((World.num_new _ _ _ _).alloc _).alloc _
    have nY:World.num W (w.heap.size+1) false (dg D') false:=by rw[hW];exact(World.num_new' _ _ _ _ _ (by simp)).alloc _
    have n2:World.num W (w.heap.size+1+1) false z96 false:=by rw[hW];exact World.num_new' _ _ _ _ _ (by simp)
    have hB:Below w.heap.size w W:=by rw[hW];exact(((Below.refl _ w).alloc (Nat.le_refl _) _).alloc (by simp) _).alloc (by simp;omega) _
    clear hW
    have b0:=nX.sign
    have b1:=nY.sign))
 refine(greater_any _ _ _ _ _ _ _ _ _ nY nX).mono ?_
 rintro e w1 ⟨rfl,n,rfl⟩
 rw[gtF_lt hD'.out hD.out,hlt.out]
 obtain⟨W1,hW1⟩:∃W1,W1=W.drewN n:=⟨_,rfl⟩
 rw[←hW1]
 have nX:World.num W1 w.heap.size true (dg D) false:=by rw[hW1];exact nX
 have nY:World.num W1 (w.heap.size+1) false (dg D') false:=by rw[hW1];exact nY
 have n2:World.num W1 (w.heap.size+1+1) false z96 false:=by rw[hW1];exact n2
 have hB:Below w.heap.size w W1:=by rw[hW1];exact below_drewN hB n
 clear hW1 b0 b1
 have b0:=nX.sign
 have b1:=nY.sign
 go_wp2_with fail
 clear b0 b1 hlt
 clear hD hD'
 obtain⟨S,eS⟩:∃S,S=D-D':=⟨_,rfl⟩
 rw[←eS]at HP HS
 clear eS
 go_loopw [6,24] (fun c k wr=>∃(C:Int) (K:Nat),c= .int .i8 C∧k= .int .i64 K∧K≤96∧ -1≤C∧C≤0∧Hid (((S / 10 ^ K:Nat):Int)=((D / 10 ^ K:Nat):Int)+(-1)*((D' / 10 ^ K:Nat):Int)+C)∧
  World.num wr w.heap.size true (mixTo (dg S) (dg D) K) false∧World.num wr (w.heap.size+1) false (dg D') false∧World.num wr (w.heap.size+1+1) false z96 false∧Below w.heap.size w wr) (fun _ k _=>96-(intOf k).toNat)
 case atStart=>
  refine⟨0,0,rfl,rfl,by omega,by omega,by omega,?_,World.num.congr nX (fun i _=>rfl),nY,n2,hB⟩
  show _=_
  simp only[Nat.pow_zero,Nat.div_one]
  rw[HS.out];omega
 case round=>
  obtain⟨C,K,rfl,rfl,j0,c0,c1,HK,n0,n1,n3,hB1⟩:=hrel
  clear nX nY n2 hB
  by_cases c:K<96
  ·have hcx:=(World.num.at n0 K c).1
   rw[show mixTo (dg S) (dg D) K K=dg D K by unfold mixTo;rw[if_neg (by omega)]]at hcx
   have hfx:=(World.num.at n0 K c).2
   have hcy:=(World.num.at n1 K c).1
   have hkI:(K:Int)<96:=by omega
   have x0:=dg_nonneg D K
   have x1:=dg_le D K
   have y0:=dg_nonneg D' K
   have y1:=dg_le D' K
   have HP2:=Lib.hid (place S D D' K (-1) C (by omega) HK.out)
   go_wp2_with fail
   go_quiet (fail)
   go_wp2_with fail
   all_goals
    go_roundw
    case rel=>
     refine⟨_,K+1,rfl,by go_num,by omega,?_,?_,?_,World.num.drewN (World.num.congr (World.num.set n0 c _) (fun i _=> ?_)) _,World.num.drewN (World.num.other n1 (by simp) _) _,World.num.drewN (World.num.other n3 (by simp;omega) _) _,below_drewN (hB1.setCell (by simp) _) _⟩
     ·omega
     ·omega
     ·show _=_
      rw[HP2.out.2];omega
     ·rw[←mixTo_succ,HP2.out.1]
      split
      ·omega
      ·rfl
    case measure=>first|(simp[intOf];done)|(simp[intOf];omega)
  ·obtain rfl:K=96:=by omega
   go_wp2_with (first|(refine wpList_load56 rfl rfl rfl n0 ?_)|(refine wpList_store56 rfl rfl rfl rfl n3 ?_;intro w9 n9 g9 z9))
   refine bodyPost_ret (results_cell_row rfl _ _ _ 105 _ (0,0) _ rfl n9 Tryz.underlying105 rfl (info56' _ _ _)) rfl ?_
   refine⟨?_,hB1.grown g9 hB1.size (fun k hk=>by cases hk;omega)⟩
   rw[HP.out]
   show Ending.returned (.agg _)=Ending.returned (.agg _)
   rw[numF_congr (fun i hi=>show mixTo (dg S) (dg D) 96 i=dg S i by unfold mixTo;rw[if_pos hi])]
set_option maxRecDepth 100000 in
set_option maxHeartbeats 2000000 in
theorem plus_true_swap (D D':Nat) (w:World) (hD:Hid (D<10 ^ 96)) (hD':Hid (D'<10 ^ 96)) (hlt:Hid (decide (D<D')=true)):
 Calls Tryz.prog 73 #[.agg (numF true (dg D) false),.agg (numF false (dg D') false)] w (OfPost (plusD true D false D').1 (plusD true D false D').2 w):=by
 have HP:Hid (plusD true D false D'=(false,D'-D)):=by show _=_;unfold plusD;rw[if_neg (by decide),if_pos (by simpa using hlt.out)]
 have HS:Hid (((D'-D:Nat):Int)=(D':Int)+(-1)*(D:Int)):=by show _=_;have:=hlt.out;simp at this;omega
 go_enter Tryz.func73,Tryz.ntmps73
 go_wp2_with (first
  |(refine wpList_alloc56 rfl rfl ?_
    obtain⟨W,hW⟩:∃W,W=((w.alloc (.cells (numF true (dg D) false) 105)).alloc (.cells (numF false (dg D') false) 105)).alloc (.cells (numF false z96 false) 105):=⟨_,rfl⟩
    rw[←hW]
    have nX:World.num W w.heap.size true (dg D) false:=by rw[hW];exact((World.num_new _ _ _ _).alloc _).alloc _
    have nY:World.num W (w.heap.size+1) false (dg D') false:=by rw[hW];exact(World.num_new' _ _ _ _ _ (by simp)).alloc _
    have n2:World.num W (w.heap.size+1+1) false z96 false:=by rw[hW];exact World.num_new' _ _ _ _ _ (by simp)
    have hB:Below w.heap.size w W:=by rw[hW];exact(((Below.refl _ w).alloc (Nat.le_refl _) _).alloc (by simp) _).alloc (by simp;omega) _
    clear hW
    have b0:=nX.sign
    have b1:=nY.sign))
 refine(greater_any _ _ _ _ _ _ _ _ _ nY nX).mono ?_
 rintro e w1 ⟨rfl,n,rfl⟩
 rw[gtF_lt hD'.out hD.out,hlt.out]
 obtain⟨W1,hW1⟩:∃W1,W1=W.drewN n:=⟨_,rfl⟩
 rw[←hW1]
 have nX:World.num W1 w.heap.size true (dg D) false:=by rw[hW1];exact nX
 have nY:World.num W1 (w.heap.size+1) false (dg D') false:=by rw[hW1];exact nY
 have n2:World.num W1 (w.heap.size+1+1) false z96 false:=by rw[hW1];exact n2
 have hB:Below w.heap.size w W1:=by rw[hW1];exact below_drewN hB n
 clear hW1 b0 b1
 go_wp2_with (first
  |refine wpList_load56 rfl rfl rfl nX ?_
  |refine wpList_load56 rfl rfl rfl nY ?_
  |(refine wpList_store56 rfl rfl rfl rfl nX ?_;intro W2 nX2 gX zX;have nY2:=World.num.grown nY gX (by simp);have n3:=World.num.grown n2 gX (by simp;omega);have hB2:=hB.grown gX hB.size (fun k hk=>by cases hk;exact Nat.le_refl _);clear gX zX nX nY n2 hB)
  |(refine wpList_store56 rfl rfl rfl rfl nY2 ?_;intro W3 nY gY zY;have nX:=World.num.grown nX2 gY (by simp);have n2:=World.num.grown n3 gY (by simp);have hB:=hB2.grown gY hB2.size (fun k hk=>by cases hk;omega);have b0:=nX.sign;have b1:=nY.sign;clear gY zY nX2 nY2 n3 hB2))
 clear b0 b1 hlt
 clear hD hD'
 obtain⟨S,eS⟩:∃S,S=D'-D:=⟨_,rfl⟩
 rw[←eS]at HP HS
 clear eS
 go_loopw [6,24] (fun c k wr=>∃(C:Int) (K:Nat),c= .int .i8 C∧k= .int .i64 K∧K≤96∧ -1≤C∧C≤0∧Hid (((S / 10 ^ K:Nat):Int)=((D' / 10 ^ K:Nat):Int)+(-1)*((D / 10 ^ K:Nat):Int)+C)∧
  World.num wr w.heap.size false (mixTo (dg S) (dg D') K) false∧World.num wr (w.heap.size+1) true (dg D) false∧World.num wr (w.heap.size+1+1) false z96 false∧Below w.heap.size w wr) (fun _ k _=>96-(intOf k).toNat)
 case atStart=>
  refine⟨0,0,rfl,rfl,by omega,by omega,by omega,?_,World.num.congr nX (fun i _=>rfl),nY,n2,hB⟩
  show _=_
  simp only[Nat.pow_zero,Nat.div_one]
  rw[HS.out];omega
 case round=>
  obtain⟨C,K,rfl,rfl,j0,c0,c1,HK,n0,n1,n3,hB1⟩:=hrel
  clear nX nY n2 hB
  by_cases c:K<96
  ·have hcx:=(World.num.at n0 K c).1
   rw[show mixTo (dg S) (dg D') K K=dg D' K by unfold mixTo;rw[if_neg (by omega)]]at hcx
   have hfx:=(World.num.at n0 K c).2
   have hcy:=(World.num.at n1 K c).1
   have hkI:(K:Int)<96:=by omega
   have x0:=dg_nonneg D' K
   have x1:=dg_le D' K
   have y0:=dg_nonneg D K
   have y1:=dg_le D K
   have HP2:=Lib.hid (place S D' D K (-1) C (by omega) HK.out)
   go_wp2_with fail
   go_quiet (fail)
   go_wp2_with fail
   all_goals
    go_roundw
    case rel=>
     refine⟨_,K+1,rfl,by go_num,by omega,?_,?_,?_,World.num.drewN (World.num.congr (World.num.set n0 c _) (fun i _=> ?_)) _,World.num.drewN (World.num.other n1 (by simp) _) _,World.num.drewN (World.num.other n3 (by simp;omega) _) _,below_drewN (hB1.setCell (by simp) _) _⟩
     ·omega
     ·omega
     ·show _=_
      rw[HP2.out.2];omega
     ·rw[←mixTo_succ,HP2.out.1]
      split
      ·omega
      ·rfl
    case measure=>first|(simp[intOf];done)|(simp[intOf];omega)
  ·obtain rfl:K=96:=by omega
   go_wp2_with (first|(refine wpList_load56 rfl rfl rfl n0 ?_)|(refine wpList_store56 rfl rfl rfl rfl n3 ?_;intro w9 n9 g9 z9))
   refine bodyPost_ret (results_cell_row rfl _ _ _ 105 _ (0,0) _ rfl n9 Tryz.underlying105 rfl (info56' _ _ _)) rfl ?_
   refine⟨?_,hB1.grown g9 hB1.size (fun k hk=>by cases hk;omega)⟩
   rw[HP.out]
   show Ending.returned (.agg _)=Ending.returned (.agg _)
   rw[numF_congr (fun i hi=>show mixTo (dg S) (dg D') 96 i=dg S i by unfold mixTo;rw[if_pos hi])]
set_option maxRecDepth 100000 in
set_option maxHeartbeats 2000000 in
theorem plus_false (D D':Nat) (w:World) (_hD:Hid (D<10 ^ 96)) (_hD':Hid (D'<10 ^ 96)):
 Calls Tryz.prog 73 #[.agg (numF false (dg D) false),.agg (numF false (dg D') false)] w (OfPost (plusD false D false D').1 (plusD false D false D').2 w):=by
 have HP:Hid (plusD false D false D'=(false,D+D')):=by show _=_;unfold plusD;rw[if_pos rfl]
 have HS:Hid (((D+D':Nat):Int)=(D:Int)+1*(D':Int)):=by show _=_;omega
 go_enter Tryz.func73,Tryz.ntmps73
 go_wp2_with (first
  |(refine wpList_alloc56 rfl rfl ?_
    obtain⟨W,hW⟩:∃W,W=((w.alloc (.cells (numF false (dg D) false) 105)).alloc (.cells (numF false (dg D') false) 105)).alloc (.cells (numF false z96 false) 105):=⟨_,rfl⟩
    rw[←hW]
    have nX:World.num W w.heap.size false (dg D) false:=by rw[hW];exact((World.num_new _ _ _ _).alloc _).alloc _
    have nY:World.num W (w.heap.size+1) false (dg D') false:=by rw[hW];exact(World.num_new' _ _ _ _ _ (by simp)).alloc _
    have n2:World.num W (w.heap.size+1+1) false z96 false:=by rw[hW];exact World.num_new' _ _ _ _ _ (by simp)
    have hB:Below w.heap.size w W:=by rw[hW];exact(((Below.refl _ w).alloc (Nat.le_refl _) _).alloc (by simp) _).alloc (by simp;omega) _
    clear hW
    have b0:=nX.sign
    have b1:=nY.sign))
 clear b0 b1
 clear _hD _hD'
 obtain⟨S,eS⟩:∃S,S=D+D':=⟨_,rfl⟩
 rw[←eS]at HP HS
 clear eS
 go_loopw [6,24] (fun c k wr=>∃(C:Int) (K:Nat),c= .int .i8 C∧k= .int .i64 K∧K≤96∧0≤C∧C≤1∧Hid (((S / 10 ^ K:Nat):Int)=((D / 10 ^ K:Nat):Int)+1*((D' / 10 ^ K:Nat):Int)+C)∧
  World.num wr w.heap.size false (mixTo (dg S) (dg D) K) false∧World.num wr (w.heap.size+1) false (dg D') false∧World.num wr (w.heap.size+1+1) false z96 false∧Below w.heap.size w wr) (fun _ k _=>96-(intOf k).toNat)
 case atStart=>
  refine⟨0,0,rfl,rfl,by omega,by omega,by omega,?_,World.num.congr nX (fun i _=>rfl),nY,n2,hB⟩
  show _=_
  simp only[Nat.pow_zero,Nat.div_one]
  rw[HS.out];omega
 case round=>
  obtain⟨C,K,rfl,rfl,j0,c0,c1,HK,n0,n1,n3,hB1⟩:=hrel
  clear nX nY n2 hB
  by_cases c:K<96
  ·have hcx:=(World.num.at n0 K c).1
   rw[show mixTo (dg S) (dg D) K K=dg D K by unfold mixTo;rw[if_neg (by omega)]]at hcx
   have hfx:=(World.num.at n0 K c).2
   have hcy:=(World.num.at n1 K c).1
   have hkI:(K:Int)<96:=by omega
   have x0:=dg_nonneg D K
   have x1:=dg_le D K
   have y0:=dg_nonneg D' K
   have y1:=dg_le D' K
   have HP2:=Lib.hid (place S D D' K 1 C (by omega) HK.out)
   go_wp2_with fail
   go_quiet (fail)
   go_wp2_with fail
   all_goals
    go_roundw
    case rel=>
     refine⟨_,K+1,rfl,by go_num,by omega,?_,?_,?_,World.num.drewN (World.num.congr (World.num.set n0 c _) (fun i _=> ?_)) _,World.num.drewN (World.num.other n1 (by simp) _) _,World.num.drewN (World.num.other n3 (by simp;omega) _) _,below_drewN (hB1.setCell (by simp) _) _⟩
     ·omega
     ·omega
     ·show _=_
      rw[HP2.out.2];omega
     ·rw[←mixTo_succ,HP2.out.1]
      split
      ·omega
      ·rfl
    case measure=>first|(simp[intOf];done)|(simp[intOf];omega)
  ·obtain rfl:K=96:=by omega
   go_wp2_with (first|(refine wpList_load56 rfl rfl rfl n0 ?_)|(refine wpList_store56 rfl rfl rfl rfl n3 ?_;intro w9 n9 g9 z9))
   refine bodyPost_ret (results_cell_row rfl _ _ _ 105 _ (0,0) _ rfl n9 Tryz.underlying105 rfl (info56' _ _ _)) rfl ?_
   refine⟨?_,hB1.grown g9 hB1.size (fun k hk=>by cases hk;omega)⟩
   rw[HP.out]
   show Ending.returned (.agg _)=Ending.returned (.agg _)
   rw[numF_congr (fun i hi=>show mixTo (dg S) (dg D) 96 i=dg S i by unfold mixTo;rw[if_pos hi])]
set_option maxRecDepth 100000 in
set_option maxHeartbeats 2000000 in
theorem plus_false_no (D D':Nat) (w:World) (hD:Hid (D<10 ^ 96)) (hD':Hid (D'<10 ^ 96)) (hlt:Hid (decide (D<D')=false)):
 Calls Tryz.prog 73 #[.agg (numF false (dg D) false),.agg (numF true (dg D') false)] w (OfPost (plusD false D true D').1 (plusD false D true D').2 w):=by
 have HP:Hid (plusD false D true D'=(false,D-D')):=by show _=_;unfold plusD;rw[if_neg (by decide),if_neg (by simpa using hlt.out)]
 have HS:Hid (((D-D':Nat):Int)=(D:Int)+(-1)*(D':Int)):=by show _=_;have:=hlt.out;simp at this;omega
 go_enter Tryz.func73,Tryz.ntmps73
 go_wp2_with (first
  |(refine wpList_alloc56 rfl rfl ?_
    obtain⟨W,hW⟩:∃W,W=((w.alloc (.cells (numF false (dg D) false) 105)).alloc (.cells (numF true (dg D') false) 105)).alloc (.cells (numF false z96 false) 105):=⟨_,rfl⟩
    rw[←hW]
    have nX:World.num W w.heap.size false (dg D) false:=by rw[hW];exact((World.num_new _ _ _ _).alloc _).alloc _
    have nY:World.num W (w.heap.size+1) true (dg D') false:=by rw[hW];exact(World.num_new' _ _ _ _ _ (by simp)).alloc _
    have n2:World.num W (w.heap.size+1+1) false z96 false:=by rw[hW];exact World.num_new' _ _ _ _ _ (by simp)
    have hB:Below w.heap.size w W:=by rw[hW];exact(((Below.refl _ w).alloc (Nat.le_refl _) _).alloc (by simp) _).alloc (by simp;omega) _
    clear hW
    have b0:=nX.sign
    have b1:=nY.sign))
 refine(greater_any _ _ _ _ _ _ _ _ _ nY nX).mono ?_
 rintro e w1 ⟨rfl,n,rfl⟩
 rw[gtF_lt hD'.out hD.out,hlt.out]
 obtain⟨W1,hW1⟩:∃W1,W1=W.drewN n:=⟨_,rfl⟩
 rw[←hW1]
 have nX:World.num W1 w.heap.size false (dg D) false:=by rw[hW1];exact nX
 have nY:World.num W1 (w.heap.size+1) true (dg D') false:=by rw[hW1];exact nY
 have n2:World.num W1 (w.heap.size+1+1) false z96 false:=by rw[hW1];exact n2
 have hB:Below w.heap.size w W1:=by rw[hW1];exact below_drewN hB n
 clear hW1 b0 b1
 have b0:=nX.sign
 have b1:=nY.sign
 go_wp2_with fail
 clear b0 b1 hlt
 clear hD hD'
 obtain⟨S,eS⟩:∃S,S=D-D':=⟨_,rfl⟩
 rw[←eS]at HP HS
 clear eS
 go_loopw [6,24] (fun c k wr=>∃(C:Int) (K:Nat),c= .int .i8 C∧k= .int .i64 K∧K≤96∧ -1≤C∧C≤0∧Hid (((S / 10 ^ K:Nat):Int)=((D / 10 ^ K:Nat):Int)+(-1)*((D' / 10 ^ K:Nat):Int)+C)∧
  World.num wr w.heap.size false (mixTo (dg S) (dg D) K) false∧World.num wr (w.heap.size+1) true (dg D') false∧World.num wr (w.heap.size+1+1) false z96 false∧Below w.heap.size w wr) (fun _ k _=>96-(intOf k).toNat)
 case atStart=>
  refine⟨0,0,rfl,rfl,by omega,by omega,by omega,?_,World.num.congr nX (fun i _=>rfl),nY,n2,hB⟩
  show _=_
  simp only[Nat.pow_zero,Nat.div_one]
  rw[HS.out];omega
 case round=>
  obtain⟨C,K,rfl,rfl,j0,c0,c1,HK,n0,n1,n3,hB1⟩:=hrel
  clear nX nY n2 hB
  by_cases c:K<96
  ·have hcx:=(World.num.at n0 K c).1
   rw[show mixTo (dg S) (dg D) K K=dg D K by unfold mixTo;rw[if_neg (by omega)]]at hcx
   have hfx:=(World.num.at n0 K c).2
   have hcy:=(World.num.at n1 K c).1
   have hkI:(K:Int)<96:=by omega
   have x0:=dg_nonneg D K
   have x1:=dg_le D K
   have y0:=dg_nonneg D' K
   have y1:=dg_le D' K
   have HP2:=Lib.hid (place S D D' K (-1) C (by omega) HK.out)
   go_wp2_with fail
   go_quiet (fail)
   go_wp2_with fail
   all_goals
    go_roundw
    case rel=>
     refine⟨_,K+1,rfl,by go_num,by omega,?_,?_,?_,World.num.drewN (World.num.congr (World.num.set n0 c _) (fun i _=> ?_)) _,World.num.drewN (World.num.other n1 (by simp) _) _,World.num.drewN (World.num.other n3 (by simp;omega) _) _,below_drewN (hB1.setCell (by simp) _) _⟩
     ·omega
     ·omega
     ·show _=_
      rw[HP2.out.2];omega
     ·rw[←mixTo_succ,HP2.out.1]
      split
      ·omega
      ·rfl
    case measure=>first|(simp[intOf];done)|(simp[intOf];omega)
  ·obtain rfl:K=96:=by omega
   go_wp2_with (first|(refine wpList_load56 rfl rfl rfl n0 ?_)|(refine wpList_store56 rfl rfl rfl rfl n3 ?_;intro w9 n9 g9 z9))
   refine bodyPost_ret (results_cell_row rfl _ _ _ 105 _ (0,0) _ rfl n9 Tryz.underlying105 rfl (info56' _ _ _)) rfl ?_
   refine⟨?_,hB1.grown g9 hB1.size (fun k hk=>by cases hk;omega)⟩
   rw[HP.out]
   show Ending.returned (.agg _)=Ending.returned (.agg _)
   rw[numF_congr (fun i hi=>show mixTo (dg S) (dg D) 96 i=dg S i by unfold mixTo;rw[if_pos hi])]
set_option maxRecDepth 100000 in
set_option maxHeartbeats 2000000 in
theorem plus_false_swap (D D':Nat) (w:World) (hD:Hid (D<10 ^ 96)) (hD':Hid (D'<10 ^ 96)) (hlt:Hid (decide (D<D')=true)):
 Calls Tryz.prog 73 #[.agg (numF false (dg D) false),.agg (numF true (dg D') false)] w (OfPost (plusD false D true D').1 (plusD false D true D').2 w):=by
 have HP:Hid (plusD false D true D'=(true,D'-D)):=by show _=_;unfold plusD;rw[if_neg (by decide),if_pos (by simpa using hlt.out)]
 have HS:Hid (((D'-D:Nat):Int)=(D':Int)+(-1)*(D:Int)):=by show _=_;have:=hlt.out;simp at this;omega
 go_enter Tryz.func73,Tryz.ntmps73
 go_wp2_with (first
  |(refine wpList_alloc56 rfl rfl ?_
    obtain⟨W,hW⟩:∃W,W=((w.alloc (.cells (numF false (dg D) false) 105)).alloc (.cells (numF true (dg D') false) 105)).alloc (.cells (numF false z96 false) 105):=⟨_,rfl⟩
    rw[←hW]
    have nX:World.num W w.heap.size false (dg D) false:=by rw[hW];exact((World.num_new _ _ _ _).alloc _).alloc _
    have nY:World.num W (w.heap.size+1) true (dg D') false:=by rw[hW];exact(World.num_new' _ _ _ _ _ (by simp)).alloc _
    have n2:World.num W (w.heap.size+1+1) false z96 false:=by rw[hW];exact World.num_new' _ _ _ _ _ (by simp)
    have hB:Below w.heap.size w W:=by rw[hW];exact(((Below.refl _ w).alloc (Nat.le_refl _) _).alloc (by simp) _).alloc (by simp;omega) _
    clear hW
    have b0:=nX.sign
    have b1:=nY.sign))
 refine(greater_any _ _ _ _ _ _ _ _ _ nY nX).mono ?_
 rintro e w1 ⟨rfl,n,rfl⟩
 rw[gtF_lt hD'.out hD.out,hlt.out]
 obtain⟨W1,hW1⟩:∃W1,W1=W.drewN n:=⟨_,rfl⟩
 rw[←hW1]
 have nX:World.num W1 w.heap.size false (dg D) false:=by rw[hW1];exact nX
 have nY:World.num W1 (w.heap.size+1) true (dg D') false:=by rw[hW1];exact nY
 have n2:World.num W1 (w.heap.size+1+1) false z96 false:=by rw[hW1];exact n2
 have hB:Below w.heap.size w W1:=by rw[hW1];exact below_drewN hB n
 clear hW1 b0 b1
 go_wp2_with (first
  |refine wpList_load56 rfl rfl rfl nX ?_
  |refine wpList_load56 rfl rfl rfl nY ?_
  |(refine wpList_store56 rfl rfl rfl rfl nX ?_;intro W2 nX2 gX zX;have nY2:=World.num.grown nY gX (by simp);have n3:=World.num.grown n2 gX (by simp;omega);have hB2:=hB.grown gX hB.size (fun k hk=>by cases hk;exact Nat.le_refl _);clear gX zX nX nY n2 hB)
  |(refine wpList_store56 rfl rfl rfl rfl nY2 ?_;intro W3 nY gY zY;have nX:=World.num.grown nX2 gY (by simp);have n2:=World.num.grown n3 gY (by simp);have hB:=hB2.grown gY hB2.size (fun k hk=>by cases hk;omega);have b0:=nX.sign;have b1:=nY.sign;clear gY zY nX2 nY2 n3 hB2))
 clear b0 b1 hlt
 clear hD hD'
 obtain⟨S,eS⟩:∃S,S=D'-D:=⟨_,rfl⟩
 rw[←eS]at HP HS
 clear eS
 go_loopw [6,24] (fun c k wr=>∃(C:Int) (K:Nat),c= .int .i8 C∧k= .int .i64 K∧K≤96∧ -1≤C∧C≤0∧Hid (((S / 10 ^ K:Nat):Int)=((D' / 10 ^ K:Nat):Int)+(-1)*((D / 10 ^ K:Nat):Int)+C)∧
  World.num wr w.heap.size true (mixTo (dg S) (dg D') K) false∧World.num wr (w.heap.size+1) false (dg D) false∧World.num wr (w.heap.size+1+1) false z96 false∧Below w.heap.size w wr) (fun _ k _=>96-(intOf k).toNat)
 case atStart=>
  refine⟨0,0,rfl,rfl,by omega,by omega,by omega,?_,World.num.congr nX (fun i _=>rfl),nY,n2,hB⟩
  show _=_
  simp only[Nat.pow_zero,Nat.div_one]
  rw[HS.out];omega
 case round=>
  obtain⟨C,K,rfl,rfl,j0,c0,c1,HK,n0,n1,n3,hB1⟩:=hrel
  clear nX nY n2 hB
  by_cases c:K<96
  ·have hcx:=(World.num.at n0 K c).1
   rw[show mixTo (dg S) (dg D') K K=dg D' K by unfold mixTo;rw[if_neg (by omega)]]at hcx
   have hfx:=(World.num.at n0 K c).2
   have hcy:=(World.num.at n1 K c).1
   have hkI:(K:Int)<96:=by omega
   have x0:=dg_nonneg D' K
   have x1:=dg_le D' K
   have y0:=dg_nonneg D K
   have y1:=dg_le D K
   have HP2:=Lib.hid (place S D' D K (-1) C (by omega) HK.out)
   go_wp2_with fail
   go_quiet (fail)
   go_wp2_with fail
   all_goals
    go_roundw
    case rel=>
     refine⟨_,K+1,rfl,by go_num,by omega,?_,?_,?_,World.num.drewN (World.num.congr (World.num.set n0 c _) (fun i _=> ?_)) _,World.num.drewN (World.num.other n1 (by simp) _) _,World.num.drewN (World.num.other n3 (by simp;omega) _) _,below_drewN (hB1.setCell (by simp) _) _⟩
     ·omega
     ·omega
     ·show _=_
      rw[HP2.out.2];omega
     ·rw[←mixTo_succ,HP2.out.1]
      split
      ·omega
      ·rfl
    case measure=>first|(simp[intOf];done)|(simp[intOf];omega)
  ·obtain rfl:K=96:=by omega
   go_wp2_with (first|(refine wpList_load56 rfl rfl rfl n0 ?_)|(refine wpList_store56 rfl rfl rfl rfl n3 ?_;intro w9 n9 g9 z9))
   refine bodyPost_ret (results_cell_row rfl _ _ _ 105 _ (0,0) _ rfl n9 Tryz.underlying105 rfl (info56' _ _ _)) rfl ?_
   refine⟨?_,hB1.grown g9 hB1.size (fun k hk=>by cases hk;omega)⟩
   rw[HP.out]
   show Ending.returned (.agg _)=Ending.returned (.agg _)
   rw[numF_congr (fun i hi=>show mixTo (dg S) (dg D') 96 i=dg S i by unfold mixTo;rw[if_pos hi])]
theorem plus_any (s s':Bool) (D D':Nat) (w:World) (hD:Hid (D<10 ^ 96)) (hD':Hid (D'<10 ^ 96)):
 Calls Tryz.prog 73 #[.agg (numF s (dg D) false),.agg (numF s' (dg D') false)] w (OfPost (plusD s D s' D').1 (plusD s D s' D').2 w):=by
 cases s<;>cases s'
 ·exact plus_false D D' w hD hD'
 ·cases h:decide (D<D')
  ·exact plus_false_no D D' w hD hD' h
  ·exact plus_false_swap D D' w hD hD' h
 ·cases h:decide (D<D')
  ·exact plus_true_no D D' w hD hD' h
  ·exact plus_true_swap D D' w hD hD' h
 ·exact plus_true D D' w hD hD'
end Go.Proofs.YtmhfioimgllgeaaGreatDoor
