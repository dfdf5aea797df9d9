/- Merged: Tls, Args. -/
import Derived.Test.YtkhohjdakcchdaaGreatDoorBb
import Derived.Test.YtkhohjdakcchdaaGreatDoorLam
import Derived.Test.YtkhohjdakcchdaaGreatDoorLar
import Derived.Test.YtkhohjdakcchdaaGreatDoorCards
import Derived.Test.YtkhohjdakcchdaaGreatDoorTie
import Derived.Deep.Slices
import Derived.Deep.Fields
import Derived.ChangeSame
import Derived.Lib.SmallJoins
import Derived.Lib.LaidU8T
import Derived.ProofKit
import Derived.Carry
import Derived.ChangeMaps5
import Derived.Lay
import Derived.Deep.DeepHandedRow
import Derived.JoinedOf
import Derived.JoinedAt
import Derived.RowKit3
namespace Go.Proofs.YtkhohjdakcchdaaGreatDoor
open Go Go.RowKit Go.Shelf
/-- C is the value x, three deep at most. -/
def R3 (x:Vl) (C:Array Value) (w:World):Prop:=Rp w w.heap.size 3 x (.agg C)
theorem R3.below {x:Vl} {C:Array Value} {w W:World} (h:R3 x C w) (hb:Below w.heap.size w W):R3 x C W:=Rp.below h hb hb.size
theorem R3.one {x:Vl} {C:Array Value} {w:World} (h:R3 x C w):OneC C:=Rp.one h
theorem handsV_R {x:Vl} {w:World} {e:Ending} {w':World} (h:HandsV x w e w'):HandsR w e w':=by
 obtain⟨C,he,hA,hB⟩:=h
 exact⟨x,C,he,hA.1,hB⟩
theorem told_R {x y:Vl} {C D:Array Value} {w:World} (h:R3 x C w) (h':R3 y D w) (he:Env w):Calls Tryz.prog 15 #[.agg C,.agg D] w (Gives (.bool true) w):=told15 x y C D w h h' he
theorem wpList_load25x {ops:Array Oper} {rest:List Oper} {o:Oper} {a:Act} {w:World} {Q:Exit→Act→World→Prop} {x:Operand} {g:Nat} {z:Rw} (hgd:o.guard=none) (ho:o.op= .load 25 x) (hx:a.eval x= .pointer (some ⟨g,0,none⟩)) (hn:World.blk w g 25 z.c) (h:wpList Tryz.prog ops Q rest (a.put o.dst (.agg z.c)) w):wpList Tryz.prog ops Q (o :: rest) a w:=
 wpList_plain hgd fun K hK=>by
  have:=run_load_at w g 0 25 z.c _ hn.cell0 Tryz.underlying25 rfl info25
  unfold Oper.wp execOp
  simp only[ho,hx,Instr.loadAt,Instr.sureAddr,Sem.run_bind,Sem.run_pure,Result.andThen_ok,this]
  exact hK _ _ h
set_option maxRecDepth 100000 in
set_option maxHeartbeats 16000000 in
theorem law_tells (z0 z1:Rw) (v:Value) (zs:List Rw) (n:Int) (w:World) (hz0:RwOk z0) (hz1:RwOk z1) (hr:RawsAt w w.heap.size v zs) (hn0:i64R n) (hS:Shp w) (hT:Lib.Utf8Tabs 0 1 w):
 Calls Tryz.prog 3 #[.agg z0.c,.agg z1.c,v,.int .i64 n] w (Gives (.bool true) w):=by
 have HE:=Lib.hid (show ∀W,Below w.heap.size w W→Env W from fun W hW=>⟨tabs_below hT hW,hS.below hW⟩)
 have HR:=fun W (hW:Below w.heap.size w W)=>RawsAt.at hr hW hW.size
 have H12a:=Lib.hid (show ∀W,Calls Tryz.prog 12 #[.agg z0.c] W (HandsR W)from fun W=>(val12 hz0).mono fun _ _ h=>handsV_R h)
 have H12b:=Lib.hid (show ∀W,Calls Tryz.prog 12 #[.agg z1.c] W (HandsR W)from fun W=>(val12 hz1).mono fun _ _ h=>handsV_R h)
 have H13a:=Lib.hid (show ∀W,Below w.heap.size w W→Calls Tryz.prog 13 #[.int .i64 z0.k,.int .i64 z1.k,v] W (HandsR W)from fun W hW=>(arr13 hz0.k hz1.k (HR W hW)).mono fun _ _ h=>handsV_R h)
 have H13b:=Lib.hid (show ∀W,Below w.heap.size w W→Calls Tryz.prog 13 #[.int .i64 z1.k,.int .i64 z0.k,v] W (HandsR W)from fun W hW=>(arr13 hz1.k hz0.k (HR W hW)).mono fun _ _ h=>handsV_R h)
 have H14a:=Lib.hid (show ∀W,Below w.heap.size w W→Calls Tryz.prog 14 #[.agg z0.c,v,.int .i64 n] W (HandsR W)from fun W hW=>odd14 z0 n v zs W hz0 hn0 (HR W hW))
 obtain⟨q,hq⟩:∃q,n.tdiv 7=q:=⟨_,rfl⟩
 have hqb:i64R q:=by
  rw[←hq]
  unfold i64R at hn0⊢
  rcases Int.le_total 0 n with h|h
  ·rw[Int.tdiv_eq_ediv_of_nonneg h];omega
  ·have h1:(-n).tdiv 7= -(n.tdiv 7):=Int.neg_tdiv ..
   have h2:=Int.tdiv_eq_ediv_of_nonneg (b:=7) (show 0≤ -n by omega)
   omega
 have H14b:=Lib.hid (show ∀W,Below w.heap.size w W→Calls Tryz.prog 14 #[.agg z1.c,v,.int .i64 q] W (HandsR W)from fun W hW=>odd14 z1 q v zs W hz1 hqb (HR W hW))
 have H16:=Lib.hid (show ∀W,Below w.heap.size w W→Calls Tryz.prog 16 #[v] W (HandsR W)from fun W hW=>lam16 v zs W (HR W hW))
 have hwq:IntKind.i64.wrap q=q:=IntWalk.i64_in _ hqb
 unfold i64R at hn0
 have HZ0:=Lib.hid hz0
 have HZ1:=Lib.hid hz1
 clear hS hT hr HR hz0 hz1 hqb
 go_enter Tryz.func3,Tryz.ntmps3
 go_wp2_with fail
 obtain⟨W,hW⟩:∃W,W=(w.alloc (.cells z0.c 25)).alloc (.cells z1.c 25):=⟨_,rfl⟩
 rw[←hW]
 obtain⟨b4,hb4⟩:∃g,g=w.heap.size:=⟨_,rfl⟩
 obtain⟨b5,hb5⟩:∃g,g=w.heap.size+1:=⟨_,rfl⟩
 have r4:World.blk W b4 25 z0.c:=by rw[hW,hb4];exact(blk_new _ _ _).alloc _
 have r5:World.blk W b5 25 z1.c:=by rw[hW,hb5];exact blk_new' _ _ _ _ (by simp)
 have hB:Below w.heap.size w W:=by rw[hW];exact((Below.refl _ w).alloc (Nat.le_refl _) _).alloc (by simp) _
 rw[←hb5,←hb4]
 clear hW hb4 hb5
 refine(awk11 (HE.out _ hB)).mono ?_
 rintro e2 w2 ⟨rfl,hB2⟩
 have r4:=r4.below hB2 r4.lt
 have r5:=r5.below hB2 r5.lt
 have hB:=hB.trans (hB2.mono hB.size)
 clear hB2
 go_wp2_with (first|refine wpList_load25x rfl rfl rfl r4 ?_|refine wpList_load25x rfl rfl rfl r5 ?_)
 refine(H12a.out _).mono ?_
 rintro e3 w3 ⟨X10,C10,rfl,hx10,hB3⟩
 have hx10:R3 X10 C10 w3:=hx10
 have r4:=r4.below hB3 r4.lt
 have r5:=r5.below hB3 r5.lt
 have hB:=hB.trans (hB3.mono hB.size)
 clear hB3
 go_upto_region 3 with (first|refine wpList_alloc34 rfl rfl ?_|(refine wpList_store34 rfl rfl rfl rfl (World.vb_new w3 vz) (by rfl) hx10.one ?_;intro w4 hn10 hg4 hz4))
 have hB4:=vb_made hg4
 have r4:=r4.below hB4 r4.lt
 have r5:=r5.below hB4 r5.lt
 have hx10:=hx10.below hB4
 have hB:=hB.trans (hB4.mono hB.size)
 obtain⟨b10,hb10⟩:∃g,g=w3.heap.size:=⟨_,rfl⟩
 rw[←hb10]at hn10⊢
 clear hB4 hg4 hz4 hb10
 go_wp2_with (first|refine wpList_load25x rfl rfl rfl r4 ?_|refine wpList_load25x rfl rfl rfl r5 ?_)
 refine(H12b.out _).mono ?_
 rintro e5 w5 ⟨X11,C11,rfl,hx11,hB5⟩
 have hx11:R3 X11 C11 w5:=hx11
 have r4:=r4.below hB5 r4.lt
 have r5:=r5.below hB5 r5.lt
 have hx10:=hx10.below hB5
 have hn10:=hn10.below hB5 hn10.lt
 have hB:=hB.trans (hB5.mono hB.size)
 clear hB5
 go_upto_region 4 with (first|refine wpList_alloc34 rfl rfl ?_|(refine wpList_store34 rfl rfl rfl rfl (World.vb_new w5 vz) (by rfl) hx11.one ?_;intro w6 hn11 hg6 hz6))
 have hB6:=vb_made hg6
 have r4:=r4.below hB6 r4.lt
 have r5:=r5.below hB6 r5.lt
 have hx10:=hx10.below hB6
 have hx11:=hx11.below hB6
 have hn10:=hn10.below hB6 hn10.lt
 have hB:=hB.trans (hB6.mono hB.size)
 obtain⟨b11,hb11⟩:∃g,g=w5.heap.size:=⟨_,rfl⟩
 rw[←hb11]at hn11⊢
 clear hB6 hg6 hz6 hb11
 have c40:=r4.cell (j:=0) rfl
 have c50:=r5.cell (j:=0) rfl
 go_wp2_with (first|refine wpList_load25x rfl rfl rfl r4 ?_|refine wpList_load25x rfl rfl rfl r5 ?_)
 refine(H13a.out _ hB).mono ?_
 rintro e7 w7 ⟨X12,C12,rfl,hx12,hB7⟩
 have hx12:R3 X12 C12 w7:=hx12
 have r4:=r4.below hB7 r4.lt
 have r5:=r5.below hB7 r5.lt
 have hx10:=hx10.below hB7
 have hx11:=hx11.below hB7
 have hn10:=hn10.below hB7 hn10.lt
 have hn11:=hn11.below hB7 hn11.lt
 have hB:=hB.trans (hB7.mono hB.size)
 clear hB7
 clear c40 c50
 go_upto_region 5 with (first|refine wpList_alloc34 rfl rfl ?_|(refine wpList_store34 rfl rfl rfl rfl (World.vb_new w7 vz) (by rfl) hx12.one ?_;intro w8 hn12 hg8 hz8))
 have hB8:=vb_made hg8
 have r4:=r4.below hB8 r4.lt
 have r5:=r5.below hB8 r5.lt
 have hx10:=hx10.below hB8
 have hx11:=hx11.below hB8
 have hx12:=hx12.below hB8
 have hn10:=hn10.below hB8 hn10.lt
 have hn11:=hn11.below hB8 hn11.lt
 have hB:=hB.trans (hB8.mono hB.size)
 obtain⟨b12,hb12⟩:∃g,g=w7.heap.size:=⟨_,rfl⟩
 rw[←hb12]at hn12⊢
 clear hB8 hg8 hz8 hb12
 go_wp2_with (first|refine wpList_load25x rfl rfl rfl r4 ?_|refine wpList_load25x rfl rfl rfl r5 ?_)
 refine(H14a.out _ hB).mono ?_
 rintro e9 w9 ⟨X13,C13,rfl,hx13,hB9⟩
 have hx13:R3 X13 C13 w9:=hx13
 have r4:=r4.below hB9 r4.lt
 have r5:=r5.below hB9 r5.lt
 have hx10:=hx10.below hB9
 have hx11:=hx11.below hB9
 have hx12:=hx12.below hB9
 have hn10:=hn10.below hB9 hn10.lt
 have hn11:=hn11.below hB9 hn11.lt
 have hn12:=hn12.below hB9 hn12.lt
 have hB:=hB.trans (hB9.mono hB.size)
 clear hB9
 go_upto_region 6 with (first|refine wpList_alloc34 rfl rfl ?_|(refine wpList_store34 rfl rfl rfl rfl (World.vb_new w9 vz) (by rfl) hx13.one ?_;intro w10 hn13 hg10 hz10))
 have hB10:=vb_made hg10
 have r4:=r4.below hB10 r4.lt
 have r5:=r5.below hB10 r5.lt
 have hx10:=hx10.below hB10
 have hx11:=hx11.below hB10
 have hx12:=hx12.below hB10
 have hx13:=hx13.below hB10
 have hn10:=hn10.below hB10 hn10.lt
 have hn11:=hn11.below hB10 hn11.lt
 have hn12:=hn12.below hB10 hn12.lt
 have hB:=hB.trans (hB10.mono hB.size)
 obtain⟨b13,hb13⟩:∃g,g=w9.heap.size:=⟨_,rfl⟩
 rw[←hb13]at hn13⊢
 clear hB10 hg10 hz10 hb13
 refine wp_region_held_drew (S:=(fun w9=>World.vb w9 b10 C10∧World.vb w9 b11 C11∧World.vb w9 b12 C12∧World.vb w9 b13 C13∧World.blk w9 b4 25 z0.c∧World.blk w9 b5 25 z1.c)) (by kernel_rfl) ⟨hn10,hn11,hn12,hn13,r4,r5⟩ (fun hHeld=> ?_)
 have hBd:=World.drew_below w10
 have r4:=r4.below hBd r4.lt
 have r5:=r5.below hBd r5.lt
 have hx10:=hx10.below hBd
 have hx11:=hx11.below hBd
 have hx12:=hx12.below hBd
 have hx13:=hx13.below hBd
 have hn10:=hn10.below hBd hn10.lt
 have hn11:=hn11.below hBd hn11.lt
 have hn12:=hn12.below hBd hn12.lt
 have hn13:=hn13.below hBd hn13.lt
 have hB:=hB.trans (hBd.mono hB.size)
 clear hBd
 refine tk 0 ⟨some 29,_,_,_,_,_⟩ ?_ hHeld ?_ ?_
 rotate_left
 ·(intro w9 hSw;(try dsimp only at hSw);go_simp)
  all_goals with_reducible rfl
 try simp only[Act.put,pk1,pk2,pk3]
 refine tk 1 ⟨some 30,_,_,_,_,_⟩ ?_ hHeld ?_ ?_
 rotate_left
 ·(intro w9 hSw;(try dsimp only at hSw);go_simp)
  all_goals with_reducible rfl
 try simp only[Act.put,pk1,pk2,pk3]
 refine tk 2 ⟨some 31,_,_,_,_,_⟩ ?_ hHeld ?_ ?_
 rotate_left
 ·(intro w9 hSw;refine yields34 (x:= .tmp 10) (g:=b10) (cs:=C10) ?_ ?_ hx10.one.1 hSw.1<;>rfl)
 try simp only[Act.put,pk1,pk2,pk3]
 refine tk 3 ⟨some 32,_,_,_,_,_⟩ ?_ hHeld ?_ ?_
 rotate_left
 ·(intro w9 hSw;refine yields34 (x:= .tmp 11) (g:=b11) (cs:=C11) ?_ ?_ hx11.one.1 hSw.2.1<;>rfl)
 try simp only[Act.put,pk1,pk2,pk3]
 refine wpAnyH_ready (rs:= [4]) (by kernel_rfl) (by simp) ?_
 refine(AllReadyH.cons (o:=⟨some 33,_,_,_,_,_⟩) rfl (fun KK hK=> ?_) AllReadyH.nil)
 ·(try rw[if_pos (by rfl)])
  go_simp
  refine(told_R hx10 hx11 (HE.out _ hB)).mono ?_
  rintro e11 w11 ⟨rfl,hB11⟩
  have r4:=r4.below hB11 r4.lt
  have r5:=r5.below hB11 r5.lt
  have hx10:=hx10.below hB11
  have hx11:=hx11.below hB11
  have hx12:=hx12.below hB11
  have hx13:=hx13.below hB11
  have hn10:=hn10.below hB11 hn10.lt
  have hn11:=hn11.below hB11 hn11.lt
  have hn12:=hn12.below hB11 hn12.lt
  have hn13:=hn13.below hB11 hn13.lt
  have hB:=hB.trans (hB11.mono hB.size)
  clear hB11
  refine hK.out _ _ ⟨hn10,hn11,hn12,hn13,r4,r5⟩ ?_
  clear hK KK hHeld
  intro hHeld
  try simp only[Act.put,pk1,pk2,pk3]
  refine tk 5 ⟨some 34,_,_,_,_,_⟩ ?_ hHeld ?_ ?_
  rotate_left
  ·(intro w9 hSw;(try dsimp only at hSw);go_simp)
   all_goals with_reducible rfl
  try simp only[Act.put,pk1,pk2,pk3]
  refine tk 6 ⟨some 35,_,_,_,_,_⟩ ?_ hHeld ?_ ?_
  rotate_left
  ·(intro w9 hSw;(try dsimp only at hSw);go_simp)
   all_goals with_reducible rfl
  try simp only[Act.put,pk1,pk2,pk3]
  refine tk 7 ⟨some 36,_,_,_,_,_⟩ ?_ hHeld ?_ ?_
  rotate_left
  ·(intro w9 hSw;refine yields34 (x:= .tmp 12) (g:=b12) (cs:=C12) ?_ ?_ hx12.one.1 hSw.2.2.1<;>rfl)
  try simp only[Act.put,pk1,pk2,pk3]
  refine tk 8 ⟨some 37,_,_,_,_,_⟩ ?_ hHeld ?_ ?_
  rotate_left
  ·(intro w9 hSw;refine yields34 (x:= .tmp 10) (g:=b10) (cs:=C10) ?_ ?_ hx10.one.1 hSw.1<;>rfl)
  try simp only[Act.put,pk1,pk2,pk3]
  refine wpAnyH_ready (rs:= [9]) (by kernel_rfl) (by simp) ?_
  refine(AllReadyH.cons (o:=⟨some 38,_,_,_,_,_⟩) rfl (fun KK hK=> ?_) AllReadyH.nil)
  ·(try rw[if_pos (by rfl)])
   go_simp
   refine(told_R hx12 hx10 (HE.out _ hB)).mono ?_
   rintro e12 w12 ⟨rfl,hB12⟩
   have r4:=r4.below hB12 r4.lt
   have r5:=r5.below hB12 r5.lt
   have hx10:=hx10.below hB12
   have hx11:=hx11.below hB12
   have hx12:=hx12.below hB12
   have hx13:=hx13.below hB12
   have hn10:=hn10.below hB12 hn10.lt
   have hn11:=hn11.below hB12 hn11.lt
   have hn12:=hn12.below hB12 hn12.lt
   have hn13:=hn13.below hB12 hn13.lt
   have hB:=hB.trans (hB12.mono hB.size)
   clear hB12
   refine hK.out _ _ ⟨hn10,hn11,hn12,hn13,r4,r5⟩ ?_
   clear hK KK hHeld
   intro hHeld
   try simp only[Act.put,pk1,pk2,pk3]
   refine tk 10 ⟨some 39,_,_,_,_,_⟩ ?_ hHeld ?_ ?_
   rotate_left
   ·(intro w9 hSw;(try dsimp only at hSw);go_simp)
    all_goals with_reducible rfl
   try simp only[Act.put,pk1,pk2,pk3]
   refine tk 11 ⟨some 40,_,_,_,_,_⟩ ?_ hHeld ?_ ?_
   rotate_left
   ·(intro w9 hSw;(try dsimp only at hSw);go_simp)
    all_goals with_reducible rfl
   try simp only[Act.put,pk1,pk2,pk3]
   refine tk 12 ⟨some 41,_,_,_,_,_⟩ ?_ hHeld ?_ ?_
   rotate_left
   ·(intro w9 hSw;refine yields34 (x:= .tmp 12) (g:=b12) (cs:=C12) ?_ ?_ hx12.one.1 hSw.2.2.1<;>rfl)
   try simp only[Act.put,pk1,pk2,pk3]
   refine tk 13 ⟨some 42,_,_,_,_,_⟩ ?_ hHeld ?_ ?_
   rotate_left
   ·(intro w9 hSw;(try dsimp only at hSw);go_simp)
    all_goals with_reducible rfl
   try simp only[Act.put,pk1,pk2,pk3]
   refine tk 14 ⟨some 43,_,_,_,_,_⟩ ?_ hHeld ?_ ?_
   rotate_left
   ·(intro w9 hSw;have c40:=hSw.2.2.2.2.1.cell (j:=0) rfl;have c50:=hSw.2.2.2.2.2.cell (j:=0) rfl;clear hSw;go_simp)
    all_goals with_reducible rfl
   try simp only[Act.put,pk1,pk2,pk3]
   refine tk 15 ⟨some 44,_,_,_,_,_⟩ ?_ hHeld ?_ ?_
   rotate_left
   ·(intro w9 hSw;(try dsimp only at hSw);go_simp)
    all_goals with_reducible rfl
   try simp only[Act.put,pk1,pk2,pk3]
   refine tk 16 ⟨some 45,_,_,_,_,_⟩ ?_ hHeld ?_ ?_
   rotate_left
   ·(intro w9 hSw;have c40:=hSw.2.2.2.2.1.cell (j:=0) rfl;have c50:=hSw.2.2.2.2.2.cell (j:=0) rfl;clear hSw;go_simp)
    all_goals with_reducible rfl
   try simp only[Act.put,pk1,pk2,pk3]
   refine tk 17 ⟨some 46,_,_,_,_,_⟩ ?_ hHeld ?_ ?_
   rotate_left
   ·(intro w9 hSw;(try dsimp only at hSw);go_simp)
    all_goals with_reducible rfl
   try simp only[Act.put,pk1,pk2,pk3]
   refine wpAnyH_ready (rs:= [18]) (by kernel_rfl) (by simp) ?_
   refine(AllReadyH.cons (o:=⟨some 47,_,_,_,_,_⟩) rfl (fun KK hK=> ?_) AllReadyH.nil)
   ·(try rw[if_pos (by rfl)])
    go_simp
    refine(H13b.out _ hB).mono ?_
    rintro e13 w13 ⟨X47,C47,rfl,hx47,hB13⟩
    have hx47:R3 X47 C47 w13:=hx47
    have r4:=r4.below hB13 r4.lt
    have r5:=r5.below hB13 r5.lt
    have hx10:=hx10.below hB13
    have hx11:=hx11.below hB13
    have hx12:=hx12.below hB13
    have hx13:=hx13.below hB13
    have hn10:=hn10.below hB13 hn10.lt
    have hn11:=hn11.below hB13 hn11.lt
    have hn12:=hn12.below hB13 hn12.lt
    have hn13:=hn13.below hB13 hn13.lt
    have hB:=hB.trans (hB13.mono hB.size)
    clear hB13
    refine hK.out _ _ ⟨hn10,hn11,hn12,hn13,r4,r5⟩ ?_
    clear hK KK hHeld
    intro hHeld
    try simp only[Act.put,pk1,pk2,pk3]
    refine wpAnyH_ready (rs:= [19]) (by kernel_rfl) (by simp) ?_
    refine(AllReadyH.cons (o:=⟨some 48,_,_,_,_,_⟩) rfl (fun KK hK=> ?_) AllReadyH.nil)
    ·(try rw[if_pos (by rfl)])
     go_simp
     refine(told_R hx12 hx47 (HE.out _ hB)).mono ?_
     rintro e14 w14 ⟨rfl,hB14⟩
     have r4:=r4.below hB14 r4.lt
     have r5:=r5.below hB14 r5.lt
     have hx10:=hx10.below hB14
     have hx11:=hx11.below hB14
     have hx12:=hx12.below hB14
     have hx13:=hx13.below hB14
     have hx47:=hx47.below hB14
     have hn10:=hn10.below hB14 hn10.lt
     have hn11:=hn11.below hB14 hn11.lt
     have hn12:=hn12.below hB14 hn12.lt
     have hn13:=hn13.below hB14 hn13.lt
     have hB:=hB.trans (hB14.mono hB.size)
     clear hB14
     refine hK.out _ _ ⟨hn10,hn11,hn12,hn13,r4,r5⟩ ?_
     clear hK KK hHeld
     intro hHeld
     try simp only[Act.put,pk1,pk2,pk3]
     refine tk 20 ⟨some 49,_,_,_,_,_⟩ ?_ hHeld ?_ ?_
     rotate_left
     ·(intro w9 hSw;(try dsimp only at hSw);go_simp)
      all_goals with_reducible rfl
     try simp only[Act.put,pk1,pk2,pk3]
     refine tk 21 ⟨some 50,_,_,_,_,_⟩ ?_ hHeld ?_ ?_
     rotate_left
     ·(intro w9 hSw;(try dsimp only at hSw);go_simp)
      all_goals with_reducible rfl
     try simp only[Act.put,pk1,pk2,pk3]
     refine tk 22 ⟨some 51,_,_,_,_,_⟩ ?_ hHeld ?_ ?_
     rotate_left
     ·(intro w9 hSw;refine yields34 (x:= .tmp 13) (g:=b13) (cs:=C13) ?_ ?_ hx13.one.1 hSw.2.2.2.1<;>rfl)
     try simp only[Act.put,pk1,pk2,pk3]
     refine tk 23 ⟨some 52,_,_,_,_,_⟩ ?_ hHeld ?_ ?_
     rotate_left
     ·(intro w9 hSw;refine yields25 (x:= .tmp 5) (g:=b5) (off:=0) (cs:=z1.c) ?_ ?_ rfl hSw.2.2.2.2.2.cell0<;>rfl)
     try simp only[Act.put,pk1,pk2,pk3]
     refine tk 24 ⟨some 53,_,_,_,_,_⟩ ?_ hHeld ?_ ?_
     rotate_left
     ·(intro w9 hSw;(try dsimp only at hSw);go_simp)
      all_goals with_reducible rfl
     try simp only[Act.put,pk1,pk2,pk3]
     refine tk 25 ⟨some 54,_,_,_,_,_⟩ ?_ hHeld ?_ ?_
     rotate_left
     ·(intro w9 hSw;(try dsimp only at hSw);go_simp)
      all_goals with_reducible rfl
     try simp only[Act.put,pk1,pk2,pk3]
     refine tk 26 ⟨some 55,_,_,_,_,_⟩ ?_ hHeld ?_ ?_
     rotate_left
     ·(intro w9 hSw;go_simp;(try simp only[hq,hwq]);with_reducible rfl)
     try simp only[Act.put,pk1,pk2,pk3]
     refine wpAnyH_ready (rs:= [27]) (by kernel_rfl) (by simp) ?_
     refine(AllReadyH.cons (o:=⟨some 56,_,_,_,_,_⟩) rfl (fun KK hK=> ?_) AllReadyH.nil)
     ·(try rw[if_pos (by rfl)])
      go_simp
      refine(H14b.out _ hB).mono ?_
      rintro e15 w15 ⟨X56,C56,rfl,hx56,hB15⟩
      have hx56:R3 X56 C56 w15:=hx56
      have r4:=r4.below hB15 r4.lt
      have r5:=r5.below hB15 r5.lt
      have hx10:=hx10.below hB15
      have hx11:=hx11.below hB15
      have hx12:=hx12.below hB15
      have hx13:=hx13.below hB15
      have hx47:=hx47.below hB15
      have hn10:=hn10.below hB15 hn10.lt
      have hn11:=hn11.below hB15 hn11.lt
      have hn12:=hn12.below hB15 hn12.lt
      have hn13:=hn13.below hB15 hn13.lt
      have hB:=hB.trans (hB15.mono hB.size)
      clear hB15
      refine hK.out _ _ ⟨hn10,hn11,hn12,hn13,r4,r5⟩ ?_
      clear hK KK hHeld
      intro hHeld
      try simp only[Act.put,pk1,pk2,pk3]
      refine wpAnyH_ready (rs:= [28]) (by kernel_rfl) (by simp) ?_
      refine(AllReadyH.cons (o:=⟨some 57,_,_,_,_,_⟩) rfl (fun KK hK=> ?_) AllReadyH.nil)
      ·(try rw[if_pos (by rfl)])
       go_simp
       refine(told_R hx13 hx56 (HE.out _ hB)).mono ?_
       rintro e16 w16 ⟨rfl,hB16⟩
       have r4:=r4.below hB16 r4.lt
       have r5:=r5.below hB16 r5.lt
       have hx10:=hx10.below hB16
       have hx11:=hx11.below hB16
       have hx12:=hx12.below hB16
       have hx13:=hx13.below hB16
       have hx47:=hx47.below hB16
       have hx56:=hx56.below hB16
       have hn10:=hn10.below hB16 hn10.lt
       have hn11:=hn11.below hB16 hn11.lt
       have hn12:=hn12.below hB16 hn12.lt
       have hn13:=hn13.below hB16 hn13.lt
       have hB:=hB.trans (hB16.mono hB.size)
       clear hB16
       refine hK.out _ _ ⟨hn10,hn11,hn12,hn13,r4,r5⟩ ?_
       clear hK KK hHeld
       intro hHeld
       try simp only[Act.put,pk1,pk2,pk3]
       refine tk 29 ⟨some 58,_,_,_,_,_⟩ ?_ hHeld ?_ ?_
       rotate_left
       ·(intro w9 hSw;(try dsimp only at hSw);go_simp)
        all_goals with_reducible rfl
       try simp only[Act.put,pk1,pk2,pk3]
       refine tk 30 ⟨some 59,_,_,_,_,_⟩ ?_ hHeld ?_ ?_
       rotate_left
       ·(intro w9 hSw;(try dsimp only at hSw);go_simp)
        all_goals with_reducible rfl
       try simp only[Act.put,pk1,pk2,pk3]
       refine tk 31 ⟨some 60,_,_,_,_,_⟩ ?_ hHeld ?_ ?_
       rotate_left
       ·(intro w9 hSw;(try dsimp only at hSw);go_simp)
        all_goals with_reducible rfl
       try simp only[Act.put,pk1,pk2,pk3]
       refine tk 33 ⟨some 62,_,_,_,_,_⟩ ?_ hHeld ?_ ?_
       rotate_left
       ·(intro w9 hSw;refine yields34 (x:= .tmp 13) (g:=b13) (cs:=C13) ?_ ?_ hx13.one.1 hSw.2.2.2.1<;>rfl)
       try simp only[Act.put,pk1,pk2,pk3]
       refine wpAnyH_ready (rs:= [32]) (by kernel_rfl) (by simp) ?_
       refine(AllReadyH.cons (o:=⟨some 61,_,_,_,_,_⟩) rfl (fun KK hK=> ?_) AllReadyH.nil)
       ·(try rw[if_pos (by rfl)])
        go_simp
        refine(H16.out _ hB).mono ?_
        rintro e17 w17 ⟨X61,C61,rfl,hx61,hB17⟩
        have hx61:R3 X61 C61 w17:=hx61
        have r4:=r4.below hB17 r4.lt
        have r5:=r5.below hB17 r5.lt
        have hx10:=hx10.below hB17
        have hx11:=hx11.below hB17
        have hx12:=hx12.below hB17
        have hx13:=hx13.below hB17
        have hx47:=hx47.below hB17
        have hx56:=hx56.below hB17
        have hn10:=hn10.below hB17 hn10.lt
        have hn11:=hn11.below hB17 hn11.lt
        have hn12:=hn12.below hB17 hn12.lt
        have hn13:=hn13.below hB17 hn13.lt
        have hB:=hB.trans (hB17.mono hB.size)
        clear hB17
        refine hK.out _ _ ⟨hn10,hn11,hn12,hn13,r4,r5⟩ ?_
        clear hK KK hHeld
        intro hHeld
        try simp only[Act.put,pk1,pk2,pk3]
        refine wpAnyH_ready (rs:= [34]) (by kernel_rfl) (by simp) ?_
        refine(AllReadyH.cons (o:=⟨some 63,_,_,_,_,_⟩) rfl (fun KK hK=> ?_) AllReadyH.nil)
        ·(try rw[if_pos (by rfl)])
         go_simp
         refine(told_R hx61 hx13 (HE.out _ hB)).mono ?_
         rintro e18 w18 ⟨rfl,hB18⟩
         have r4:=r4.below hB18 r4.lt
         have r5:=r5.below hB18 r5.lt
         have hx10:=hx10.below hB18
         have hx11:=hx11.below hB18
         have hx12:=hx12.below hB18
         have hx13:=hx13.below hB18
         have hx47:=hx47.below hB18
         have hx56:=hx56.below hB18
         have hx61:=hx61.below hB18
         have hn10:=hn10.below hB18 hn10.lt
         have hn11:=hn11.below hB18 hn11.lt
         have hn12:=hn12.below hB18 hn12.lt
         have hn13:=hn13.below hB18 hn13.lt
         have hB:=hB.trans (hB18.mono hB.size)
         clear hB18
         refine hK.out _ _ ⟨hn10,hn11,hn12,hn13,r4,r5⟩ ?_
         clear hK KK hHeld
         intro hHeld
         try simp only[Act.put,pk1,pk2,pk3]
         refine tk 35 ⟨some 64,_,_,_,_,_⟩ ?_ hHeld ?_ ?_
         rotate_left
         ·(intro w9 hSw;(try dsimp only at hSw);go_simp)
          all_goals with_reducible rfl
         try simp only[Act.put,pk1,pk2,pk3]
         refine tk 36 ⟨some 65,_,_,_,_,_⟩ ?_ hHeld ?_ ?_
         rotate_left
         ·(intro w9 hSw;(try dsimp only at hSw);go_simp)
          all_goals with_reducible rfl
         try simp only[Act.put,pk1,pk2,pk3]
         refine tk 37 ⟨some 66,_,_,_,_,_⟩ ?_ hHeld ?_ ?_
         rotate_left
         ·(intro w9 hSw;refine yields34 (x:= .tmp 13) (g:=b13) (cs:=C13) ?_ ?_ hx13.one.1 hSw.2.2.2.1<;>rfl)
         try simp only[Act.put,pk1,pk2,pk3]
         refine tk 38 ⟨some 67,_,_,_,_,_⟩ ?_ hHeld ?_ ?_
         rotate_left
         ·(intro w9 hSw;(try dsimp only at hSw);go_simp)
          all_goals with_reducible rfl
         try simp only[Act.put,pk1,pk2,pk3]
         refine wpAnyH_ready (rs:= [39]) (by kernel_rfl) (by simp) ?_
         refine(AllReadyH.cons (o:=⟨some 68,_,_,_,_,_⟩) rfl (fun KK hK=> ?_) AllReadyH.nil)
         ·(try rw[if_pos (by rfl)])
          go_simp
          refine(H16.out _ hB).mono ?_
          rintro e19 w19 ⟨X68,C68,rfl,hx68,hB19⟩
          have hx68:R3 X68 C68 w19:=hx68
          have r4:=r4.below hB19 r4.lt
          have r5:=r5.below hB19 r5.lt
          have hx10:=hx10.below hB19
          have hx11:=hx11.below hB19
          have hx12:=hx12.below hB19
          have hx13:=hx13.below hB19
          have hx47:=hx47.below hB19
          have hx56:=hx56.below hB19
          have hx61:=hx61.below hB19
          have hn10:=hn10.below hB19 hn10.lt
          have hn11:=hn11.below hB19 hn11.lt
          have hn12:=hn12.below hB19 hn12.lt
          have hn13:=hn13.below hB19 hn13.lt
          have hB:=hB.trans (hB19.mono hB.size)
          clear hB19
          refine hK.out _ _ ⟨hn10,hn11,hn12,hn13,r4,r5⟩ ?_
          clear hK KK hHeld
          intro hHeld
          try simp only[Act.put,pk1,pk2,pk3]
          refine wpAnyH_ready (rs:= [40]) (by kernel_rfl) (by simp) ?_
          refine(AllReadyH.cons (o:=⟨some 69,_,_,_,_,_⟩) rfl (fun KK hK=> ?_) AllReadyH.nil)
          ·(try rw[if_pos (by rfl)])
           go_simp
           refine(told_R hx13 hx68 (HE.out _ hB)).mono ?_
           rintro e20 w20 ⟨rfl,hB20⟩
           have r4:=r4.below hB20 r4.lt
           have r5:=r5.below hB20 r5.lt
           have hx10:=hx10.below hB20
           have hx11:=hx11.below hB20
           have hx12:=hx12.below hB20
           have hx13:=hx13.below hB20
           have hx47:=hx47.below hB20
           have hx56:=hx56.below hB20
           have hx61:=hx61.below hB20
           have hx68:=hx68.below hB20
           have hn10:=hn10.below hB20 hn10.lt
           have hn11:=hn11.below hB20 hn11.lt
           have hn12:=hn12.below hB20 hn12.lt
           have hn13:=hn13.below hB20 hn13.lt
           have hB:=hB.trans (hB20.mono hB.size)
           clear hB20
           refine hK.out _ _ ⟨hn10,hn11,hn12,hn13,r4,r5⟩ ?_
           clear hK KK hHeld
           intro hHeld
           try simp only[Act.put,pk1,pk2,pk3]
           refine tk 41 ⟨some 70,_,_,_,_,_⟩ ?_ hHeld ?_ ?_
           rotate_left
           ·(intro w9 hSw;(try dsimp only at hSw);go_simp)
            all_goals with_reducible rfl
           try simp only[Act.put,pk1,pk2,pk3]
           refine tk 42 ⟨some 71,_,_,_,_,_⟩ ?_ hHeld ?_ ?_
           rotate_left
           ·(intro w9 hSw;(try dsimp only at hSw);go_simp)
            all_goals with_reducible rfl
           try simp only[Act.put,pk1,pk2,pk3]
           refine tk 43 ⟨some 72,_,_,_,_,_⟩ ?_ hHeld ?_ ?_
           rotate_left
           ·(intro w9 hSw;(try dsimp only at hSw);go_simp)
            all_goals with_reducible rfl
           try simp only[Act.put,pk1,pk2,pk3]
           refine tk 45 ⟨some 74,_,_,_,_,_⟩ ?_ hHeld ?_ ?_
           rotate_left
           ·(intro w9 hSw;(try dsimp only at hSw);go_simp)
            all_goals with_reducible rfl
           try simp only[Act.put,pk1,pk2,pk3]
           refine wpAnyH_ready (rs:= [44]) (by kernel_rfl) (by simp) ?_
           refine(AllReadyH.cons (o:=⟨some 73,_,_,_,_,_⟩) rfl (fun KK hK=> ?_) AllReadyH.nil)
           ·(try rw[if_pos (by rfl)])
            go_simp
            refine(H16.out _ hB).mono ?_
            rintro e21 w21 ⟨X73,C73,rfl,hx73,hB21⟩
            have hx73:R3 X73 C73 w21:=hx73
            have r4:=r4.below hB21 r4.lt
            have r5:=r5.below hB21 r5.lt
            have hx10:=hx10.below hB21
            have hx11:=hx11.below hB21
            have hx12:=hx12.below hB21
            have hx13:=hx13.below hB21
            have hx47:=hx47.below hB21
            have hx56:=hx56.below hB21
            have hx61:=hx61.below hB21
            have hx68:=hx68.below hB21
            have hn10:=hn10.below hB21 hn10.lt
            have hn11:=hn11.below hB21 hn11.lt
            have hn12:=hn12.below hB21 hn12.lt
            have hn13:=hn13.below hB21 hn13.lt
            have hB:=hB.trans (hB21.mono hB.size)
            clear hB21
            refine hK.out _ _ ⟨hn10,hn11,hn12,hn13,r4,r5⟩ ?_
            clear hK KK hHeld
            intro hHeld
            try simp only[Act.put,pk1,pk2,pk3]
            refine wpAnyH_ready (rs:= [46]) (by kernel_rfl) (by simp) ?_
            refine(AllReadyH.cons (o:=⟨some 75,_,_,_,_,_⟩) rfl (fun KK hK=> ?_) AllReadyH.nil)
            ·(try rw[if_pos (by rfl)])
             go_simp
             refine(H16.out _ hB).mono ?_
             rintro e22 w22 ⟨X75,C75,rfl,hx75,hB22⟩
             have hx75:R3 X75 C75 w22:=hx75
             have r4:=r4.below hB22 r4.lt
             have r5:=r5.below hB22 r5.lt
             have hx10:=hx10.below hB22
             have hx11:=hx11.below hB22
             have hx12:=hx12.below hB22
             have hx13:=hx13.below hB22
             have hx47:=hx47.below hB22
             have hx56:=hx56.below hB22
             have hx61:=hx61.below hB22
             have hx68:=hx68.below hB22
             have hx73:=hx73.below hB22
             have hn10:=hn10.below hB22 hn10.lt
             have hn11:=hn11.below hB22 hn11.lt
             have hn12:=hn12.below hB22 hn12.lt
             have hn13:=hn13.below hB22 hn13.lt
             have hB:=hB.trans (hB22.mono hB.size)
             clear hB22
             refine hK.out _ _ ⟨hn10,hn11,hn12,hn13,r4,r5⟩ ?_
             clear hK KK hHeld
             intro hHeld
             try simp only[Act.put,pk1,pk2,pk3]
             refine wpAnyH_ready (rs:= [47]) (by kernel_rfl) (by simp) ?_
             refine(AllReadyH.cons (o:=⟨some 76,_,_,_,_,_⟩) rfl (fun KK hK=> ?_) AllReadyH.nil)
             ·(try rw[if_pos (by rfl)])
              go_simp
              refine(told_R hx73 hx75 (HE.out _ hB)).mono ?_
              rintro e23 w23 ⟨rfl,hB23⟩
              have r4:=r4.below hB23 r4.lt
              have r5:=r5.below hB23 r5.lt
              have hx10:=hx10.below hB23
              have hx11:=hx11.below hB23
              have hx12:=hx12.below hB23
              have hx13:=hx13.below hB23
              have hx47:=hx47.below hB23
              have hx56:=hx56.below hB23
              have hx61:=hx61.below hB23
              have hx68:=hx68.below hB23
              have hx73:=hx73.below hB23
              have hx75:=hx75.below hB23
              have hn10:=hn10.below hB23 hn10.lt
              have hn11:=hn11.below hB23 hn11.lt
              have hn12:=hn12.below hB23 hn12.lt
              have hn13:=hn13.below hB23 hn13.lt
              have hB:=hB.trans (hB23.mono hB.size)
              clear hB23
              refine hK.out _ _ ⟨hn10,hn11,hn12,hn13,r4,r5⟩ ?_
              clear hK KK hHeld
              intro hHeld
              try simp only[Act.put,pk1,pk2,pk3]
              refine tk 48 ⟨some 77,_,_,_,_,_⟩ ?_ hHeld ?_ ?_
              rotate_left
              ·(intro w9 hSw;(try dsimp only at hSw);go_simp)
               all_goals with_reducible rfl
              try simp only[Act.put,pk1,pk2,pk3]
              refine tk 49 ⟨some 8,_,_,_,_,_⟩ ?_ hHeld ?_ ?_
              rotate_left
              ·(intro w9 hSw;(try dsimp only at hSw);go_simp)
               all_goals with_reducible rfl
              try simp only[Act.put,pk1,pk2,pk3]
              refine wpAnyH_done (by kernel_rfl) ?_ _
              try simp only[Act.put,pk1,pk2,pk3]
              clear hx10 hx11 hx12 hx13 hx47 hx56 hx61 hx68 hx73 hx75 hn10 hn11 hn12 hn13 r4 r5
              go_wp2_with fail
              go_ret
              exact⟨rfl,hB⟩
end Go.Proofs.YtkhohjdakcchdaaGreatDoor
namespace Go.Proofs.YtkhohjdakcchdaaGreatDoor
open Go Go.ChangeShapes Go.WideShapes Go.Deep Go.Joins Go.RowKit
section
variable {H : Type} {enc : TypeId × Value → H} {w : World} {base : Nat} {spare : Nat → Bool} {held : Bool}
theorem i64_of {n:Int} (h:(Lit.int .i64 n).wf=true):i64R n:=by
 have: -9223372036854775808≤n∧n≤9223372036854775807:=by simpa [Lit.wf,IntKind.min,IntKind.max,IntKind.signed,IntKind.bits]using h
 unfold i64R
 omega
theorem c3 :Tryz.prog.cellsOf 3=1:=by kernel_rfl
theorem c4 :Tryz.prog.cellsOf 4=1:=by kernel_rfl
theorem c9 :Tryz.prog.cellsOf 9=1:=by kernel_rfl
theorem c23 :Tryz.prog.cellsOf 23=2:=by kernel_rfl
theorem c25 :Tryz.prog.cellsOf 25=5:=by kernel_rfl
theorem list5 {cs:List Value} (h:cs.length=5):∃a b c d e,cs= [a,b,c,d,e]:=by
 match cs,h with
 | [a,b,c,d,e],_=>exact⟨a,b,c,d,e,rfl⟩
/-- A raw number's five cells. -/
theorem raw_cells {fuel:Nat} {cs:List Value} {x:DataW H×List MemPlace} (hl:cs.length=5) (h:DataW.trod enc Tryz.prog w base spare held fuel 25 cs=some x):∃z:Rw,RwOk z∧cs=z.c.toList:=by
 obtain⟨a,b,c,d,e,rfl⟩:=list5 hl
 obtain⟨ys,n,_,_,_,hyl,hf⟩:=DataW.trod_struct Tryz.underlying25 h
 have hyl':ys.length=4:=hyl
 match ys,hyl' with
 | [y0,y1,y2,y3],_=>
  have h0:DataW.trod enc Tryz.prog w base spare held n 3 [a]=some y0:=by
   have:=hf 0 _ rfl
   simpa [c3]using this
  have h1:DataW.trod enc Tryz.prog w base spare held n 23 [b,c]=some y1:=by
   have:=hf 1 _ rfl
   simpa [c23]using this
  have h2:DataW.trod enc Tryz.prog w base spare held n 9 [d]=some y2:=by
   have:=hf 2 _ rfl
   simpa [c9]using this
  have h3:DataW.trod enc Tryz.prog w base spare held n 4 [e]=some y3:=by
   have:=hf 3 _ rfl
   simpa [c4]using this
  obtain⟨zs,n2,_,_,_,hzl,hg⟩:=DataW.trod_struct Tryz.underlying23 h1
  have hzl':zs.length=2:=hzl
  match zs,hzl' with
  | [z0,z1],_=>
   have g0:DataW.trod enc Tryz.prog w base spare held n2 3 [b]=some z0:=by
    have:=hg 0 _ rfl
    simpa [c3]using this
   have g1:DataW.trod enc Tryz.prog w base spare held n2 3 [c]=some z1:=by
    have:=hg 1 _ rfl
    simpa [c3]using this
   obtain⟨k,e0,_,w0⟩:=DataW.trod_int Tryz.underlying3 h0
   obtain⟨m,e1,_,w1⟩:=DataW.trod_int Tryz.underlying3 g0
   obtain⟨ee,e2,_,w2⟩:=DataW.trod_int Tryz.underlying3 g1
   obtain⟨ss,e3,_,w3⟩:=DataW.trod_string Tryz.underlying9 h2
   obtain⟨bb,e4,_⟩:=DataW.trod_bool Tryz.underlying4 h3
   simp at e0 e1 e2 e3 e4
   subst e0 e1 e2 e3 e4
   exact⟨⟨k,m,ee,ss,bb⟩,⟨i64_of w0,i64_of w1,i64_of w2,by unfold maxLen at w3;show ss.size≤_;omega⟩,rfl⟩
set_option maxRecDepth 100000 in
theorem raw_open {r:Reach} {b0:Nat} {v:Value} {d:DataW H} {p:List MemPlace} (hv:Value.okWide Tryz.prog w r b0 25 v) (h:DataW.Trod enc Tryz.prog w base spare held 25 v d p):∃z:Rw,RwOk z∧v= .agg z.c:=by
 obtain⟨cs,rfl,hsz⟩:=okWide_struct Tryz.underlying25 hv
 obtain⟨fuel,hf⟩:=h
 obtain⟨z,hz,e⟩:=raw_cells (by simpa [Value.cells,c25]using hsz) hf
 refine⟨z,hz,?_⟩
 have:cs=z.c:=Array.toList_inj.1 (by simpa [Value.cells]using e)
 rw[this]
set_option maxRecDepth 100000 in
theorem raws_open {r:Reach} {b0:Nat} {v:Value} {d:DataW H} {p:List MemPlace} (hv:Value.okWide Tryz.prog w r b0 26 v) (h:DataW.Trod enc Tryz.prog w base spare held 26 v d p):∃zs,RawsAt w w.heap.size v zs:=by
 obtain⟨a0,l0,k0,rfl⟩:=okWide_slice Tryz.underlying26 hv
 obtain⟨fuel,hf⟩:=h
 rcases open_slice Tryz.underlying26 hf with ⟨hc,_⟩|⟨a,len,cap,m,n,D,Pl,hcs,hb,hl,hm,hmm,hx,hi⟩
 ·simp[Value.cells]at hc
  obtain⟨rfl,rfl,rfl⟩:=hc
  exact⟨[],none,0,rfl,by simp,fun i a h=>by simp at h⟩
 ·simp[Value.cells]at hcs
  obtain⟨rfl,rfl,rfl⟩:=hcs
  have hlm:l0≤m:=by rw[hmm];split<;>omega
  obtain⟨g,off,spot⟩:=a
  have hz:∀i:Nat,∃z:Rw,i<l0→RwOk z∧∀j u,z.c[j]? =some u→w.cell? (Addr.add ⟨g,off,spot⟩ (i*5+j))=some u:=by
   intro i
   by_cases hil:i<l0
   ·obtain⟨cs,hc,ht⟩:=hi i (by omega)
    rw[c25]at hc
    obtain⟨_,hcl,hat⟩:=World.cells?_some hc
    obtain⟨z,hz,e⟩:=raw_cells hcl ht
    refine⟨z,fun _=>⟨hz,fun j u hj=> ?_⟩⟩
    have hj5:j<5:=(Array.getElem?_eq_some_iff.1 hj).1
    have:=hat j hj5
    rw[←Go.Deep.add_add,this,e]
    simpa using hj
   ·exact⟨⟨0,0,0,⟨#[]⟩,false⟩,fun h=>absurd h hil⟩
  obtain⟨z,hz3⟩:=Classical.axiomOfChoice hz
  have hlen:l0≤9223372036854775807:=by unfold maxLen at hm;omega
  refine⟨(List.range l0).map z,some ⟨g,off,spot⟩,k0,by simp,by simpa using hlen,?_⟩
  intro i a hia
  rw[List.getElem?_map]at hia
  have hil:i<l0:=by
   rcases Nat.lt_or_ge i l0 with h|h
   ·exact h
   ·rw[List.getElem?_eq_none (by simpa using h)]at hia
    simp at hia
  rw[List.getElem?_range hil]at hia
  simp only[Option.map_some,Option.some.injEq]at hia
  subst hia
  obtain⟨hok,hcell⟩:=hz3 i hil
  have h0:=hcell 0 _ rfl
  have hspot:spot=none:=by
   have h00:=(hz3 0 (by omega)).2 0 _ rfl
   have:=World.cell?_spot h00
   unfold Addr.add at this
   rw[if_pos (by rfl)]at this
   exact this
  subst hspot
  refine⟨hok,g,off,rfl,?_,fun j u hj=> ?_⟩
  ·have:=World.block_lt_of_cell? _ _ h0
   unfold Addr.add at this
   split at this<;>exact this
  ·have:=hcell j u hj
   rw[add_at]at this
   rw[Nat.add_assoc]
   exact this
end
theorem outLaid :laidOutB Tryz.prog=true:=by kernel_rfl
theorem shp_laid {W:World} (h:W.ShapedOpen Tryz.prog):Shp W:=Go.Proofs.cell_of_shapedOpen_int (zero:= #[.int .i64 0]) (t:=3) h (of_decide_eq_true (by kernel_rfl)) (by kernel_rfl) rfl (by kernel_rfl) (by kernel_rfl) Tryz.underlying3
set_option maxRecDepth 100000 in
theorem tabs_laid {W : World} (hL : laidMet Tryz.prog [("unicode/utf8.acceptRanges", Rows.laid_unicode_utf8_acceptRanges), ("unicode/utf8.first", Rows.laid_unicode_utf8_first)] W) : Lib.Utf8Tabs 0 1 W :=
 utf8Tabs_of_readsT (U8Types.of196 Tryz.lays196) ⟨by kernel_rfl,by kernel_rfl,by kernel_rfl,by kernel_rfl,by kernel_rfl,by kernel_rfl,by kernel_rfl⟩ (Lib.laidMet.reads hL (.tail _ (.head _))) (Lib.laidMet.reads hL (.head _))
end Go.Proofs.YtkhohjdakcchdaaGreatDoor
