/- The law's Val: of raw numbers, a plain value that is right. -/
import Derived.Test.YtmhfioimgllgeaaGreatDoorU18
import Derived.Test.YtmhfioimgllgeaaGreatDoorU21
import Derived.Deep.RegionHeld3
namespace Go.Proofs.YtmhfioimgllgeaaGreatDoor
open Go Go.RowKit Go.Shelf
theorem pick_at (c n q:Int) (w:World) (h0:i64R c) (n0:0<n) (n1:n≤9223372036854775807) (hq:Hid (pickI c n=q)):
 Calls Tryz.prog 67 #[.int .i64 c,.int .i64 n] w fun e w'=>e= .returned (.int .i64 q)∧w'=w:=by
 have h:=pick_any c n w h0.1 h0.2 n0 n1
 rw[hq.out]at h
 exact h
/-- A decimal of raw numbers. -/
def valN (m e:Int):Int×Int:=
 if(ofD (pickI m 2000001-1000000)).2=0∧(divD (ofD (pickI m 2000001-1000000)).1.1 (ofD (pickI m 2000001-1000000)).1.2 1 (pickI e 5)).2=0 then
  (divD (ofD (pickI m 2000001-1000000)).1.1 (ofD (pickI m 2000001-1000000)).1.2 1 (pickI e 5)).1 else(0,0)
def valP (k m e:Int) (s:ByteArray) (b:Bool):Vl:=
 if pickI k 5=1 then numV (valN m e)else if pickI k 5=2 then txtV (pureS s)else if pickI k 5=3 then trV b else if pickI k 5=4 then errV (1+pickI m 9)else {}
abbrev rawC (k m e:Int) (s:ByteArray) (b:Bool):Array Value:= #[.int .i64 k,.int .i64 m,.int .i64 e,.string s,.bool b]
set_option maxRecDepth 100000 in
set_option maxHeartbeats 4000000 in
theorem val_not1 (k m e:Int) (s:ByteArray) (b:Bool) (w:World) (hk:i64R k) (hm:i64R m) (hs:s.size≤9223372036854775807) (h1:pickI k 5≠1):
 Calls Tryz.prog 29 #[.agg (rawC k m e s b)] w (Gives (.agg (pcs (valP k m e s b))) w):=by
 obtain⟨V,hV⟩:∃V,valP k m e s b=V:=⟨_,rfl⟩
 rw[hV]
 obtain⟨q,hq⟩:∃q,pickI k 5=q:=⟨_,rfl⟩
 have hb:=pickI_bd k (n:=5) (by decide)
 unfold valP at hV
 rw[hq]at h1 hb hV
 have Hq:=Lib.hid hq
 clear hq
 rw[if_neg h1]at hV
 rcases(by omega:q=2∨q=3∨q=4∨q=0)with rfl|rfl|rfl|rfl
 ·have HV:Hid (txtV (pureS s)=V):=by show _=_;rw[←hV,if_pos rfl]
  clear hV h1 hb
  go_enter Tryz.func29,Tryz.ntmps29
  go_wp2_with (first|refine wpList_alloc34 rfl rfl ?_|refine wpList_build_txt rfl rfl (by rfl) ?_|(go_at_call 67;refine(pick_at k 5 _ _ hk (by decide) (by decide) Hq).mono ?_;rintro e' w' ⟨rfl,rfl⟩)|(go_at_call 25;refine(pure_any s _ hs).mono ?_;rintro e' w' ⟨rfl,rfl⟩)|(refine wpList_store34 rfl rfl rfl rfl (World.vb_new' _ _ _ (by simp)) (by rfl) (pcs_one _) ?_;intro w1 hn1 hg1 hz1))
  refine bodyPost_ret (results_cell_row rfl _ _ _ 39 _ (0,0) _ rfl hn1 Tryz.underlying39 rfl info34) rfl ?_
  exact⟨by rw[←HV.out],(((Below.refl _ w).alloc (Nat.le_refl _) _).alloc (by simp) _).grown hg1 (by simp;omega) (fun k hk=>by cases hk;simp)⟩
 ·have HV:Hid (trV b=V):=by show _=_;rw[←hV,if_neg (by omega),if_pos rfl]
  clear hV h1 hb
  go_enter Tryz.func29,Tryz.ntmps29
  go_wp2_with (first|refine wpList_alloc34 rfl rfl ?_|refine wpList_build_tr rfl rfl (by rfl) ?_|(go_at_call 67;refine(pick_at k 5 _ _ hk (by decide) (by decide) Hq).mono ?_;rintro e' w' ⟨rfl,rfl⟩)|(refine wpList_store34 rfl rfl rfl rfl (World.vb_new' _ _ _ (by simp)) (by rfl) (pcs_one _) ?_;intro w1 hn1 hg1 hz1))
  refine bodyPost_ret (results_cell_row rfl _ _ _ 39 _ (0,0) _ rfl hn1 Tryz.underlying39 rfl info34) rfl ?_
  exact⟨by rw[←HV.out],(((Below.refl _ w).alloc (Nat.le_refl _) _).alloc (by simp) _).grown hg1 (by simp;omega) (fun k hk=>by cases hk;simp)⟩
 ·have HV:Hid (errV (1+pickI m 9)=V):=by show _=_;rw[←hV,if_neg (by omega),if_neg (by omega),if_pos rfl]
  obtain⟨q2,hq2⟩:∃q,pickI m 9=q:=⟨_,rfl⟩
  obtain⟨b1,b2⟩:=pickI_bd m (n:=9) (by decide)
  rw[hq2]at b1 b2 HV
  have Hq2:=Lib.hid hq2
  clear hV h1 hb hq2
  go_enter Tryz.func29,Tryz.ntmps29
  go_wp2_with (refine wpList_alloc34 rfl rfl ?_)
  refine(pick_at k 5 _ _ hk (by decide) (by decide) Hq).mono ?_
  rintro e' w' ⟨rfl,rfl⟩
  go_wp2_with fail
  refine(pick_at m 9 _ _ hm (by decide) (by decide) Hq2).mono ?_
  rintro e' w' ⟨rfl,rfl⟩
  go_wp2_with (first|refine wpList_build_err rfl rfl (by rfl) ?_|(refine wpList_store34 rfl rfl rfl rfl (World.vb_new' _ _ _ (by simp)) (by rfl) (pcs_one _) ?_;intro w1 hn1 hg1 hz1))
  refine bodyPost_ret (results_cell_row rfl _ _ _ 39 _ (0,0) _ rfl hn1 Tryz.underlying39 rfl info34) rfl ?_
  exact⟨by rw[←HV.out],(((Below.refl _ w).alloc (Nat.le_refl _) _).alloc (by simp) _).grown hg1 (by simp;omega) (fun k hk=>by cases hk;simp)⟩
 ·have HV:Hid ({}=V):=by show _=_;rw[←hV,if_neg (by omega),if_neg (by omega),if_neg (by omega)]
  clear hV h1 hb
  go_enter Tryz.func29,Tryz.ntmps29
  go_wp2_with (first|refine wpList_alloc34 rfl rfl ?_|refine wpList_build_zero rfl rfl ?_|(go_at_call 67;refine(pick_at k 5 _ _ hk (by decide) (by decide) Hq).mono ?_;rintro e' w' ⟨rfl,rfl⟩)|(refine wpList_store34 rfl rfl rfl rfl (World.vb_new' _ _ _ (by simp)) (by rfl) (pcs_one _) ?_;intro w1 hn1 hg1 hz1))
  refine bodyPost_ret (results_cell_row rfl _ _ _ 39 _ (0,0) _ rfl hn1 Tryz.underlying39 rfl info34) rfl ?_
  exact⟨by rw[←HV.out],(((Below.refl _ w).alloc (Nat.le_refl _) _).alloc (by simp) _).grown hg1 (by simp;omega) (fun k hk=>by cases hk;simp)⟩
end Go.Proofs.YtmhfioimgllgeaaGreatDoor
