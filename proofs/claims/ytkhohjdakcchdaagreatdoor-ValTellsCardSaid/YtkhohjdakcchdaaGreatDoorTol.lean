/- All that is told of two values, by the program and by the document: it is one. (By genTold.py.) -/
import Derived.Test.YtkhohjdakcchdaaGreatDoorBb
import Derived.Test.YtkhohjdakcchdaaGreatDoorBu
namespace Go.Proofs.YtkhohjdakcchdaaGreatDoor
open Go Go.RowKit Go.Shelf
theorem Tells.gives {P:Prop} {w:World} {e:Ending} {w':World} {B:Bool} (hb:B=true↔P) (h:Tells P w e w'):Gives (.bool B) w e w':=by
 obtain⟨b,rfl,h1,h2⟩:=h
 have:b=B:=by cases b<;>cases B<;>simp_all
 subst this
 exact⟨rfl,h2⟩
theorem handsI_V {x:Vl} {w:World} {e:Ending} {w':World} (h:HandsI x w e w'):HandsV x w e w':=by
 obtain⟨C,he,hi,hB⟩:=h
 exact⟨C,he,hi.at,hB⟩
theorem rsame21 {x y:Vl} {C D:Array Value} {w:World} (h:At x C w) (h':At y D w) (e:x=y):Calls Tryz.prog 21 #[.agg C,.agg D] w (Gives (.bool true) w):=by
 refine(rsame_any 3 x y _ _ w h.1 h'.1).mono ?_
 rintro _ w' ⟨b,rfl,hb,hB⟩
 rw[hb.2 e];exact⟨rfl,hB⟩
set_option maxRecDepth 100000 in
set_option maxHeartbeats 16000000 in
theorem told15 (x y:Vl) (C D:Array Value) (w:World) (hx:Rp w w.heap.size 3 x (.agg C)) (hy:Rp w w.heap.size 3 y (.agg D)) (he:Env w):
 Calls Tryz.prog 15 #[.agg C,.agg D] w (Gives (.bool true) w):=by
 obtain⟨RB,hRB⟩:∃b,rightV 3 x=b:=⟨_,rfl⟩
 obtain⟨SB,hSB⟩:∃b:Bool,b=true↔x=y:=by
  by_cases h:x=y
  ·exact⟨true,by simp[h]⟩
  ·exact⟨false,by simp[h]⟩
 obtain⟨CB,hCB⟩:∃b,cmpV 3 x y=b:=⟨_,rfl⟩
 obtain⟨TS,hTS⟩:∃b,mk (textV 3 x).1=b:=⟨_,rfl⟩
 obtain⟨TE,hTE⟩:∃b,(textV 3 x).2=b:=⟨_,rfl⟩
 obtain⟨N1,hN1⟩:∃b,eachV 3 numT x=b:=⟨_,rfl⟩
 obtain⟨N2,hN2⟩:∃b,eachV 3 txtT x=b:=⟨_,rfl⟩
 obtain⟨N3,hN3⟩:∃b,eachV 3 truT x=b:=⟨_,rfl⟩
 have HO:Hid (OneC C):=Lib.hid hx.one
 have HO':Hid (OneC D):=Lib.hid hy.one
 have HX:=fun W (hW:Below w.heap.size w W) (hz:w.heap.size≤W.heap.size)=>hx.below hW hz
 have HY:=fun W (hW:Below w.heap.size w W) (hz:w.heap.size≤W.heap.size)=>hy.below hW hz
 have HT25:=Lib.hid (show ∀W,Below w.heap.size w W→w.heap.size≤W.heap.size→Calls Tryz.prog 25 #[.agg C] W (WritPost TS TE W)from fun W hW hz=>by rw[←hTS,←hTE];exact text25_all x _ W (HX W hW hz) (he.below hW))
 have HT37:=Lib.hid (show ∀W,Below w.heap.size w W→w.heap.size≤W.heap.size→Calls Tryz.prog 37 #[.agg C] W (WritPost TS TE W)from fun W hW hz=>by rw[←hTS,←hTE];exact rtext37_all x _ W (HX W hW hz))
 have HR27:=Lib.hid (show ∀W,Below w.heap.size w W→w.heap.size≤W.heap.size→Calls Tryz.prog 27 #[.agg C] W (Gives (.bool RB) W)from fun W hW hz=>by rw[←hRB];exact right27_all 3 x _ W (HX W hW hz) (he.below hW).1)
 have HR38:=Lib.hid (show ∀W,Below w.heap.size w W→w.heap.size≤W.heap.size→Calls Tryz.prog 38 #[.agg C] W (Gives (.bool RB) W)from fun W hW hz=>by rw[←hRB];exact rright38_any 3 x _ W (HX W hW hz))
 have HS26:=Lib.hid (show ∀W,Below w.heap.size w W→w.heap.size≤W.heap.size→Calls Tryz.prog 26 #[.agg C,.agg D] W (Gives (.bool SB) W)from fun W hW hz=>(same_any 3 x y _ _ W (HX W hW hz) (HY W hW hz)).mono fun _ _ h=>h.gives hSB)
 have HS21:=Lib.hid (show ∀W,Below w.heap.size w W→w.heap.size≤W.heap.size→Calls Tryz.prog 21 #[.agg C,.agg D] W (Gives (.bool SB) W)from fun W hW hz=>(rsame_any 3 x y _ _ W (HX W hW hz) (HY W hW hz)).mono fun _ _ h=>h.gives hSB)
 have HC28:=Lib.hid (show ∀W,Below w.heap.size w W→w.heap.size≤W.heap.size→Calls Tryz.prog 28 #[.agg C,.agg D] W (Gives (.int .i64 CB) W)from fun W hW hz=>by rw[←hCB];exact cmp28_all 1 x y _ _ W (HX W hW hz) (HY W hW hz) (he.below hW).1)
 have HC39:=Lib.hid (show ∀W,Below w.heap.size w W→w.heap.size≤W.heap.size→Calls Tryz.prog 39 #[.agg C,.agg D] W (Gives (.int .i64 CB) W)from fun W hW hz=>by rw[←hCB];exact rcmp39_any 2 x y _ _ W (HX W hW hz) (HY W hW hz))
 have HE29:=Lib.hid (show ∀W,Below w.heap.size w W→w.heap.size≤W.heap.size→Calls Tryz.prog 29 #[.agg C] W (HandsV N1 W)from fun W hW hz=>by rw[←hN1];exact to29_all x _ W (HX W hW hz) (he.below hW))
 have HE40:=Lib.hid (show ∀W,Below w.heap.size w W→w.heap.size≤W.heap.size→Calls Tryz.prog 40 #[.agg C] W (HandsV N1 W)from fun W hW hz=>by rw[←hN1];exact(rto40 2 x _ W (HX W hW hz)).mono fun _ _ h=>handsI_V h)
 have HE30:=Lib.hid (show ∀W,Below w.heap.size w W→w.heap.size≤W.heap.size→Calls Tryz.prog 30 #[.agg C] W (HandsV N2 W)from fun W hW hz=>by rw[←hN2];exact to30_all x _ W (HX W hW hz) (he.below hW))
 have HE41:=Lib.hid (show ∀W,Below w.heap.size w W→w.heap.size≤W.heap.size→Calls Tryz.prog 41 #[.agg C] W (HandsV N2 W)from fun W hW hz=>by rw[←hN2];exact(rto41 2 x _ W (HX W hW hz)).mono fun _ _ h=>handsI_V h)
 have HE31:=Lib.hid (show ∀W,Below w.heap.size w W→w.heap.size≤W.heap.size→Calls Tryz.prog 31 #[.agg C] W (HandsV N3 W)from fun W hW hz=>by rw[←hN3];exact to31_all x _ W (HX W hW hz) (he.below hW))
 have HE42:=Lib.hid (show ∀W,Below w.heap.size w W→w.heap.size≤W.heap.size→Calls Tryz.prog 42 #[.agg C] W (HandsV N3 W)from fun W hW hz=>by rw[←hN3];exact(rto42 2 x _ W (HX W hW hz)).mono fun _ _ h=>handsI_V h)
 clear HX HY hx hy he hRB hSB hCB hTS hTE hN1 hN2 hN3
 have hNB:(RB==RB)=true:=by simp
 have hNS:(SB==SB)=true:=by simp
 go_enter Tryz.func15,Tryz.ntmps15
 go_wp2_with (refine wpList_load34 rfl rfl rfl ((World.vb_new w C).alloc _) HO.out.1 ?_)
 obtain⟨W,hW⟩:∃W,W=(w.alloc (.cells C 34)).alloc (.cells D 34):=⟨_,rfl⟩
 rw[←hW]
 obtain⟨b2,hb2⟩:∃b,b=w.heap.size:=⟨_,rfl⟩
 obtain⟨b3,hb3⟩:∃b,b=w.heap.size+1:=⟨_,rfl⟩
 have hn2:World.vb W b2 C:=by rw[hW,hb2];exact(World.vb_new w _).alloc _
 have hn3:World.vb W b3 D:=by rw[hW,hb3];exact World.vb_new' _ _ _ (by simp)
 have hB:Below w.heap.size w W:=by rw[hW];exact((Below.refl _ w).alloc (Nat.le_refl _) _).alloc (by simp) _
 try rw[←hb3]
 try rw[←hb2]
 clear hW hb2 hb3
 refine(HT25.out _ hB hB.size).mono ?_
 rintro e2 w2 ⟨rfl,hB2⟩
 have hn2:=hn2.below hB2 hn2.lt
 have hn3:=hn3.below hB2 hn3.lt
 have hB:=hB.trans (hB2.mono hB.size)
 clear hB2
 go_wp2_with (refine wpList_load34 rfl rfl rfl hn2 HO.out.1 ?_)
 refine(HT37.out _ hB hB.size).mono ?_
 rintro e3 w3 ⟨rfl,hB3⟩
 have hn2:=hn2.below hB3 hn2.lt
 have hn3:=hn3.below hB3 hn3.lt
 have hB:=hB.trans (hB3.mono hB.size)
 clear hB3
 go_upto_region 3 with fail
 refine wp_region_held_drew (S:=(fun w9=>World.vb w9 b2 C∧World.vb w9 b3 D)) (by kernel_rfl) ⟨hn2,hn3⟩ (fun hHeld=> ?_)
 have hBd:=World.drew_below w3
 have hn2:=hn2.below hBd hn2.lt
 have hn3:=hn3.below hBd hn3.lt
 have hB:=hB.trans (hBd.mono hB.size)
 clear hBd
 refine tk 0 ⟨some 19,_,_,_,_,_⟩ ?_ hHeld ?_ ?_
 rotate_left
 ·(intro w9 hSw;refine yields34 (x:= .tmp 2) (g:=b2) (cs:=C) ?_ ?_ HO.out.1 hSw.1<;>rfl)
 try simp only[Act.put,pk1,pk2,pk3]
 refine tk 2 ⟨some 21,_,_,_,_,_⟩ ?_ hHeld ?_ ?_
 rotate_left
 ·(intro w9 hSw;refine yields34 (x:= .tmp 2) (g:=b2) (cs:=C) ?_ ?_ HO.out.1 hSw.1<;>rfl)
 try simp only[Act.put,pk1,pk2,pk3]
 refine wpAnyH_ready (rs:= [1]) (by kernel_rfl) (by simp) ?_
 refine(AllReadyH.cons (o:=⟨some 20,_,_,_,_,_⟩) rfl (fun KK hK=> ?_) AllReadyH.nil)
 ·(try rw[if_pos (by rfl)])
  go_simp
  refine(HR27.out _ hB hB.size).mono ?_
  rintro e4 w4 ⟨rfl,hB4⟩
  have hn2:=hn2.below hB4 hn2.lt
  have hn3:=hn3.below hB4 hn3.lt
  have hB:=hB.trans (hB4.mono hB.size)
  clear hB4
  refine hK.out _ _ ⟨hn2,hn3⟩ ?_
  clear hK KK hHeld
  intro hHeld
  try simp only[Act.put,pk1,pk2,pk3]
  refine wpAnyH_ready (rs:= [3]) (by kernel_rfl) (by simp) ?_
  refine(AllReadyH.cons (o:=⟨some 22,_,_,_,_,_⟩) rfl (fun KK hK=> ?_) AllReadyH.nil)
  ·(try rw[if_pos (by rfl)])
   go_simp
   refine(HR38.out _ hB hB.size).mono ?_
   rintro e5 w5 ⟨rfl,hB5⟩
   have hn2:=hn2.below hB5 hn2.lt
   have hn3:=hn3.below hB5 hn3.lt
   have hB:=hB.trans (hB5.mono hB.size)
   clear hB5
   refine hK.out _ _ ⟨hn2,hn3⟩ ?_
   clear hK KK hHeld
   intro hHeld
   try simp only[Act.put,pk1,pk2,pk3]
   refine tk 4 ⟨some 23,_,_,_,_,_⟩ ?_ hHeld ?_ ?_
   rotate_left
   ·(intro w9 hSw;(try dsimp only at hSw);go_simp)
    all_goals with_reducible rfl
   try simp only[Act.put,pk1,pk2,pk3]
   refine tk 5 ⟨some 24,_,_,_,_,_⟩ ?_ hHeld ?_ ?_
   rotate_left
   ·(intro w9 hSw;(try dsimp only at hSw);go_simp)
    all_goals with_reducible rfl
   try simp only[Act.put,pk1,pk2,pk3]
   refine tk 6 ⟨some 25,_,_,_,_,_⟩ ?_ hHeld ?_ ?_
   rotate_left
   ·(intro w9 hSw;refine yields34 (x:= .tmp 2) (g:=b2) (cs:=C) ?_ ?_ HO.out.1 hSw.1<;>rfl)
   try simp only[Act.put,pk1,pk2,pk3]
   refine tk 7 ⟨some 26,_,_,_,_,_⟩ ?_ hHeld ?_ ?_
   rotate_left
   ·(intro w9 hSw;refine yields34 (x:= .tmp 3) (g:=b3) (cs:=D) ?_ ?_ HO'.out.1 hSw.2<;>rfl)
   try simp only[Act.put,pk1,pk2,pk3]
   refine tk 9 ⟨some 28,_,_,_,_,_⟩ ?_ hHeld ?_ ?_
   rotate_left
   ·(intro w9 hSw;refine yields34 (x:= .tmp 2) (g:=b2) (cs:=C) ?_ ?_ HO.out.1 hSw.1<;>rfl)
   try simp only[Act.put,pk1,pk2,pk3]
   refine tk 10 ⟨some 29,_,_,_,_,_⟩ ?_ hHeld ?_ ?_
   rotate_left
   ·(intro w9 hSw;refine yields34 (x:= .tmp 3) (g:=b3) (cs:=D) ?_ ?_ HO'.out.1 hSw.2<;>rfl)
   try simp only[Act.put,pk1,pk2,pk3]
   refine wpAnyH_ready (rs:= [8]) (by kernel_rfl) (by simp) ?_
   refine(AllReadyH.cons (o:=⟨some 27,_,_,_,_,_⟩) rfl (fun KK hK=> ?_) AllReadyH.nil)
   ·(try rw[if_pos (by rfl)])
    go_simp
    refine(HS26.out _ hB hB.size).mono ?_
    rintro e6 w6 ⟨rfl,hB6⟩
    have hn2:=hn2.below hB6 hn2.lt
    have hn3:=hn3.below hB6 hn3.lt
    have hB:=hB.trans (hB6.mono hB.size)
    clear hB6
    refine hK.out _ _ ⟨hn2,hn3⟩ ?_
    clear hK KK hHeld
    intro hHeld
    try simp only[Act.put,pk1,pk2,pk3]
    refine wpAnyH_ready (rs:= [11]) (by kernel_rfl) (by simp) ?_
    refine(AllReadyH.cons (o:=⟨some 30,_,_,_,_,_⟩) rfl (fun KK hK=> ?_) AllReadyH.nil)
    ·(try rw[if_pos (by rfl)])
     go_simp
     refine(HS21.out _ hB hB.size).mono ?_
     rintro e7 w7 ⟨rfl,hB7⟩
     have hn2:=hn2.below hB7 hn2.lt
     have hn3:=hn3.below hB7 hn3.lt
     have hB:=hB.trans (hB7.mono hB.size)
     clear hB7
     refine hK.out _ _ ⟨hn2,hn3⟩ ?_
     clear hK KK hHeld
     intro hHeld
     try simp only[Act.put,pk1,pk2,pk3]
     refine tk 12 ⟨some 31,_,_,_,_,_⟩ ?_ hHeld ?_ ?_
     rotate_left
     ·(intro w9 hSw;(try dsimp only at hSw);go_simp)
      all_goals with_reducible rfl
     try simp only[Act.put,pk1,pk2,pk3]
     refine tk 13 ⟨some 32,_,_,_,_,_⟩ ?_ hHeld ?_ ?_
     rotate_left
     ·(intro w9 hSw;(try dsimp only at hSw);go_simp)
      all_goals with_reducible rfl
     try simp only[Act.put,pk1,pk2,pk3]
     refine tk 14 ⟨some 33,_,_,_,_,_⟩ ?_ hHeld ?_ ?_
     rotate_left
     ·(intro w9 hSw;(try dsimp only at hSw);go_simp)
      all_goals with_reducible rfl
     try simp only[Act.put,pk1,pk2,pk3]
     refine tk 15 ⟨some 34,_,_,_,_,_⟩ ?_ hHeld ?_ ?_
     rotate_left
     ·(intro w9 hSw;refine yields34 (x:= .tmp 2) (g:=b2) (cs:=C) ?_ ?_ HO.out.1 hSw.1<;>rfl)
     try simp only[Act.put,pk1,pk2,pk3]
     refine tk 16 ⟨some 35,_,_,_,_,_⟩ ?_ hHeld ?_ ?_
     rotate_left
     ·(intro w9 hSw;refine yields34 (x:= .tmp 3) (g:=b3) (cs:=D) ?_ ?_ HO'.out.1 hSw.2<;>rfl)
     try simp only[Act.put,pk1,pk2,pk3]
     refine tk 18 ⟨some 37,_,_,_,_,_⟩ ?_ hHeld ?_ ?_
     rotate_left
     ·(intro w9 hSw;refine yields34 (x:= .tmp 2) (g:=b2) (cs:=C) ?_ ?_ HO.out.1 hSw.1<;>rfl)
     try simp only[Act.put,pk1,pk2,pk3]
     refine tk 19 ⟨some 38,_,_,_,_,_⟩ ?_ hHeld ?_ ?_
     rotate_left
     ·(intro w9 hSw;refine yields34 (x:= .tmp 3) (g:=b3) (cs:=D) ?_ ?_ HO'.out.1 hSw.2<;>rfl)
     try simp only[Act.put,pk1,pk2,pk3]
     refine wpAnyH_ready (rs:= [17]) (by kernel_rfl) (by simp) ?_
     refine(AllReadyH.cons (o:=⟨some 36,_,_,_,_,_⟩) rfl (fun KK hK=> ?_) AllReadyH.nil)
     ·(try rw[if_pos (by rfl)])
      go_simp
      refine(HC28.out _ hB hB.size).mono ?_
      rintro e8 w8 ⟨rfl,hB8⟩
      have hn2:=hn2.below hB8 hn2.lt
      have hn3:=hn3.below hB8 hn3.lt
      have hB:=hB.trans (hB8.mono hB.size)
      clear hB8
      refine hK.out _ _ ⟨hn2,hn3⟩ ?_
      clear hK KK hHeld
      intro hHeld
      try simp only[Act.put,pk1,pk2,pk3]
      refine wpAnyH_ready (rs:= [20]) (by kernel_rfl) (by simp) ?_
      refine(AllReadyH.cons (o:=⟨some 39,_,_,_,_,_⟩) rfl (fun KK hK=> ?_) AllReadyH.nil)
      ·(try rw[if_pos (by rfl)])
       go_simp
       refine(HC39.out _ hB hB.size).mono ?_
       rintro e9 w9 ⟨rfl,hB9⟩
       have hn2:=hn2.below hB9 hn2.lt
       have hn3:=hn3.below hB9 hn3.lt
       have hB:=hB.trans (hB9.mono hB.size)
       clear hB9
       refine hK.out _ _ ⟨hn2,hn3⟩ ?_
       clear hK KK hHeld
       intro hHeld
       try simp only[Act.put,pk1,pk2,pk3]
       refine tk 21 ⟨some 40,_,_,_,_,_⟩ ?_ hHeld ?_ ?_
       rotate_left
       ·(intro w9 hSw;(try dsimp only at hSw);go_simp)
        all_goals with_reducible rfl
       try simp only[Act.put,pk1,pk2,pk3]
       refine tk 22 ⟨some 41,_,_,_,_,_⟩ ?_ hHeld ?_ ?_
       rotate_left
       ·(intro w9 hSw;(try dsimp only at hSw);go_simp)
        all_goals with_reducible rfl
       try simp only[Act.put,pk1,pk2,pk3]
       refine tk 23 ⟨some 42,_,_,_,_,_⟩ ?_ hHeld ?_ ?_
       rotate_left
       ·(intro w9 hSw;(try dsimp only at hSw);go_simp)
        all_goals with_reducible rfl
       try simp only[Act.put,pk1,pk2,pk3]
       refine tk 24 ⟨some 43,_,_,_,_,_⟩ ?_ hHeld ?_ ?_
       rotate_left
       ·(intro w9 hSw;(try dsimp only at hSw);go_simp)
        all_goals with_reducible rfl
       try simp only[Act.put,pk1,pk2,pk3]
       refine tk 25 ⟨some 44,_,_,_,_,_⟩ ?_ hHeld ?_ ?_
       rotate_left
       ·(intro w9 hSw;(try dsimp only at hSw);go_simp)
        all_goals with_reducible rfl
       try simp only[Act.put,pk1,pk2,pk3]
       refine tk 26 ⟨some 45,_,_,_,_,_⟩ ?_ hHeld ?_ ?_
       rotate_left
       ·(intro w9 hSw;(try dsimp only at hSw);go_simp)
        all_goals with_reducible rfl
       try simp only[Act.put,pk1,pk2,pk3]
       refine tk 27 ⟨some 46,_,_,_,_,_⟩ ?_ hHeld ?_ ?_
       rotate_left
       ·(intro w9 hSw;(try dsimp only at hSw);go_simp)
        all_goals with_reducible rfl
       try simp only[Act.put,pk1,pk2,pk3]
       refine tk 28 ⟨some 47,_,_,_,_,_⟩ ?_ hHeld ?_ ?_
       rotate_left
       ·(intro w9 hSw;(try dsimp only at hSw);go_simp)
        all_goals with_reducible rfl
       try simp only[Act.put,pk1,pk2,pk3]
       refine tk 29 ⟨some 48,_,_,_,_,_⟩ ?_ hHeld ?_ ?_
       rotate_left
       ·(intro w9 hSw;(try dsimp only at hSw);go_simp)
        all_goals with_reducible rfl
       try simp only[Act.put,pk1,pk2,pk3]
       refine tk 30 ⟨some 49,_,_,_,_,_⟩ ?_ hHeld ?_ ?_
       rotate_left
       ·(intro w9 hSw;(try dsimp only at hSw);go_simp)
        all_goals with_reducible rfl
       try simp only[Act.put,pk1,pk2,pk3]
       refine tk 31 ⟨some 50,_,_,_,_,_⟩ ?_ hHeld ?_ ?_
       rotate_left
       ·(intro w9 hSw;(try dsimp only at hSw);go_simp)
        all_goals with_reducible rfl
       try simp only[Act.put,pk1,pk2,pk3]
       refine tk 32 ⟨some 51,_,_,_,_,_⟩ ?_ hHeld ?_ ?_
       rotate_left
       ·(intro w9 hSw;(try dsimp only at hSw);go_simp)
        all_goals with_reducible rfl
       try simp only[Act.put,pk1,pk2,pk3]
       refine wpAnyH_done (by kernel_rfl) ?_ _
       try simp only[Act.put,pk1,pk2,pk3]
       go_upto_region 5 with fail
       refine wp_region_held_drew (S:=(fun w9=>World.vb w9 b2 C∧World.vb w9 b3 D)) (by kernel_rfl) ⟨hn2,hn3⟩ (fun hHeld=> ?_)
       have hBd:=World.drew_below w9
       have hn2:=hn2.below hBd hn2.lt
       have hn3:=hn3.below hBd hn3.lt
       have hB:=hB.trans (hBd.mono hB.size)
       clear hBd
       refine tk 0 ⟨some 52,_,_,_,_,_⟩ ?_ hHeld ?_ ?_
       rotate_left
       ·(intro w9 hSw;refine yields34 (x:= .tmp 2) (g:=b2) (cs:=C) ?_ ?_ HO.out.1 hSw.1<;>rfl)
       try simp only[Act.put,pk1,pk2,pk3]
       refine tk 2 ⟨some 54,_,_,_,_,_⟩ ?_ hHeld ?_ ?_
       rotate_left
       ·(intro w9 hSw;refine yields34 (x:= .tmp 2) (g:=b2) (cs:=C) ?_ ?_ HO.out.1 hSw.1<;>rfl)
       try simp only[Act.put,pk1,pk2,pk3]
       refine wpAnyH_ready (rs:= [1]) (by kernel_rfl) (by simp) ?_
       refine(AllReadyH.cons (o:=⟨some 53,_,_,_,_,_⟩) rfl (fun KK hK=> ?_) AllReadyH.nil)
       ·(try rw[if_pos (by rfl)])
        go_simp
        refine(HE29.out _ hB hB.size).mono ?_
        rintro e10 w10 ⟨C53,rfl,hg53,hB10⟩
        have hn2:=hn2.below hB10 hn2.lt
        have hn3:=hn3.below hB10 hn3.lt
        have hB:=hB.trans (hB10.mono hB.size)
        clear hB10
        refine hK.out _ _ ⟨hn2,hn3⟩ ?_
        clear hK KK hHeld
        intro hHeld
        try simp only[Act.put,pk1,pk2,pk3]
        refine wpAnyH_ready (rs:= [3]) (by kernel_rfl) (by simp) ?_
        refine(AllReadyH.cons (o:=⟨some 55,_,_,_,_,_⟩) rfl (fun KK hK=> ?_) AllReadyH.nil)
        ·(try rw[if_pos (by rfl)])
         go_simp
         refine(HE40.out _ hB hB.size).mono ?_
         rintro e11 w11 ⟨C55,rfl,hg55,hB11⟩
         have hn2:=hn2.below hB11 hn2.lt
         have hn3:=hn3.below hB11 hn3.lt
         have hg53:=hg53.below hB11
         have hB:=hB.trans (hB11.mono hB.size)
         clear hB11
         refine hK.out _ _ ⟨hn2,hn3⟩ ?_
         clear hK KK hHeld
         intro hHeld
         try simp only[Act.put,pk1,pk2,pk3]
         refine wpAnyH_ready (rs:= [4]) (by kernel_rfl) (by simp) ?_
         refine(AllReadyH.cons (o:=⟨some 56,_,_,_,_,_⟩) rfl (fun KK hK=> ?_) AllReadyH.nil)
         ·(try rw[if_pos (by rfl)])
          go_simp
          refine(rsame21 hg53 hg55 rfl).mono ?_
          rintro e12 w12 ⟨rfl,hB12⟩
          have hn2:=hn2.below hB12 hn2.lt
          have hn3:=hn3.below hB12 hn3.lt
          have hg53:=hg53.below hB12
          have hg55:=hg55.below hB12
          have hB:=hB.trans (hB12.mono hB.size)
          clear hB12
          refine hK.out _ _ ⟨hn2,hn3⟩ ?_
          clear hK KK hHeld
          intro hHeld
          try simp only[Act.put,pk1,pk2,pk3]
          refine tk 5 ⟨some 57,_,_,_,_,_⟩ ?_ hHeld ?_ ?_
          rotate_left
          ·(intro w9 hSw;(try dsimp only at hSw);go_simp)
           all_goals with_reducible rfl
          try simp only[Act.put,pk1,pk2,pk3]
          refine tk 6 ⟨some 58,_,_,_,_,_⟩ ?_ hHeld ?_ ?_
          rotate_left
          ·(intro w9 hSw;refine yields34 (x:= .tmp 2) (g:=b2) (cs:=C) ?_ ?_ HO.out.1 hSw.1<;>rfl)
          try simp only[Act.put,pk1,pk2,pk3]
          refine tk 8 ⟨some 60,_,_,_,_,_⟩ ?_ hHeld ?_ ?_
          rotate_left
          ·(intro w9 hSw;refine yields34 (x:= .tmp 2) (g:=b2) (cs:=C) ?_ ?_ HO.out.1 hSw.1<;>rfl)
          try simp only[Act.put,pk1,pk2,pk3]
          refine wpAnyH_ready (rs:= [7]) (by kernel_rfl) (by simp) ?_
          refine(AllReadyH.cons (o:=⟨some 59,_,_,_,_,_⟩) rfl (fun KK hK=> ?_) AllReadyH.nil)
          ·(try rw[if_pos (by rfl)])
           go_simp
           refine(HE30.out _ hB hB.size).mono ?_
           rintro e13 w13 ⟨C59,rfl,hg59,hB13⟩
           have hn2:=hn2.below hB13 hn2.lt
           have hn3:=hn3.below hB13 hn3.lt
           have hg53:=hg53.below hB13
           have hg55:=hg55.below hB13
           have hB:=hB.trans (hB13.mono hB.size)
           clear hB13
           refine hK.out _ _ ⟨hn2,hn3⟩ ?_
           clear hK KK hHeld
           intro hHeld
           try simp only[Act.put,pk1,pk2,pk3]
           refine wpAnyH_ready (rs:= [9]) (by kernel_rfl) (by simp) ?_
           refine(AllReadyH.cons (o:=⟨some 61,_,_,_,_,_⟩) rfl (fun KK hK=> ?_) AllReadyH.nil)
           ·(try rw[if_pos (by rfl)])
            go_simp
            refine(HE41.out _ hB hB.size).mono ?_
            rintro e14 w14 ⟨C61,rfl,hg61,hB14⟩
            have hn2:=hn2.below hB14 hn2.lt
            have hn3:=hn3.below hB14 hn3.lt
            have hg53:=hg53.below hB14
            have hg55:=hg55.below hB14
            have hg59:=hg59.below hB14
            have hB:=hB.trans (hB14.mono hB.size)
            clear hB14
            refine hK.out _ _ ⟨hn2,hn3⟩ ?_
            clear hK KK hHeld
            intro hHeld
            try simp only[Act.put,pk1,pk2,pk3]
            refine wpAnyH_ready (rs:= [10]) (by kernel_rfl) (by simp) ?_
            refine(AllReadyH.cons (o:=⟨some 62,_,_,_,_,_⟩) rfl (fun KK hK=> ?_) AllReadyH.nil)
            ·(try rw[if_pos (by rfl)])
             go_simp
             refine(rsame21 hg59 hg61 rfl).mono ?_
             rintro e15 w15 ⟨rfl,hB15⟩
             have hn2:=hn2.below hB15 hn2.lt
             have hn3:=hn3.below hB15 hn3.lt
             have hg53:=hg53.below hB15
             have hg55:=hg55.below hB15
             have hg59:=hg59.below hB15
             have hg61:=hg61.below hB15
             have hB:=hB.trans (hB15.mono hB.size)
             clear hB15
             refine hK.out _ _ ⟨hn2,hn3⟩ ?_
             clear hK KK hHeld
             intro hHeld
             try simp only[Act.put,pk1,pk2,pk3]
             refine tk 11 ⟨some 63,_,_,_,_,_⟩ ?_ hHeld ?_ ?_
             rotate_left
             ·(intro w9 hSw;(try dsimp only at hSw);go_simp)
              all_goals with_reducible rfl
             try simp only[Act.put,pk1,pk2,pk3]
             refine tk 12 ⟨some 64,_,_,_,_,_⟩ ?_ hHeld ?_ ?_
             rotate_left
             ·(intro w9 hSw;(try dsimp only at hSw);go_simp)
              all_goals with_reducible rfl
             try simp only[Act.put,pk1,pk2,pk3]
             refine tk 13 ⟨some 65,_,_,_,_,_⟩ ?_ hHeld ?_ ?_
             rotate_left
             ·(intro w9 hSw;refine yields34 (x:= .tmp 2) (g:=b2) (cs:=C) ?_ ?_ HO.out.1 hSw.1<;>rfl)
             try simp only[Act.put,pk1,pk2,pk3]
             refine tk 15 ⟨some 67,_,_,_,_,_⟩ ?_ hHeld ?_ ?_
             rotate_left
             ·(intro w9 hSw;refine yields34 (x:= .tmp 2) (g:=b2) (cs:=C) ?_ ?_ HO.out.1 hSw.1<;>rfl)
             try simp only[Act.put,pk1,pk2,pk3]
             refine wpAnyH_ready (rs:= [14]) (by kernel_rfl) (by simp) ?_
             refine(AllReadyH.cons (o:=⟨some 66,_,_,_,_,_⟩) rfl (fun KK hK=> ?_) AllReadyH.nil)
             ·(try rw[if_pos (by rfl)])
              go_simp
              refine(HE31.out _ hB hB.size).mono ?_
              rintro e16 w16 ⟨C66,rfl,hg66,hB16⟩
              have hn2:=hn2.below hB16 hn2.lt
              have hn3:=hn3.below hB16 hn3.lt
              have hg53:=hg53.below hB16
              have hg55:=hg55.below hB16
              have hg59:=hg59.below hB16
              have hg61:=hg61.below hB16
              have hB:=hB.trans (hB16.mono hB.size)
              clear hB16
              refine hK.out _ _ ⟨hn2,hn3⟩ ?_
              clear hK KK hHeld
              intro hHeld
              try simp only[Act.put,pk1,pk2,pk3]
              refine wpAnyH_ready (rs:= [16]) (by kernel_rfl) (by simp) ?_
              refine(AllReadyH.cons (o:=⟨some 68,_,_,_,_,_⟩) rfl (fun KK hK=> ?_) AllReadyH.nil)
              ·(try rw[if_pos (by rfl)])
               go_simp
               refine(HE42.out _ hB hB.size).mono ?_
               rintro e17 w17 ⟨C68,rfl,hg68,hB17⟩
               have hn2:=hn2.below hB17 hn2.lt
               have hn3:=hn3.below hB17 hn3.lt
               have hg53:=hg53.below hB17
               have hg55:=hg55.below hB17
               have hg59:=hg59.below hB17
               have hg61:=hg61.below hB17
               have hg66:=hg66.below hB17
               have hB:=hB.trans (hB17.mono hB.size)
               clear hB17
               refine hK.out _ _ ⟨hn2,hn3⟩ ?_
               clear hK KK hHeld
               intro hHeld
               try simp only[Act.put,pk1,pk2,pk3]
               refine wpAnyH_ready (rs:= [17]) (by kernel_rfl) (by simp) ?_
               refine(AllReadyH.cons (o:=⟨some 69,_,_,_,_,_⟩) rfl (fun KK hK=> ?_) AllReadyH.nil)
               ·(try rw[if_pos (by rfl)])
                go_simp
                refine(rsame21 hg66 hg68 rfl).mono ?_
                rintro e18 w18 ⟨rfl,hB18⟩
                have hn2:=hn2.below hB18 hn2.lt
                have hn3:=hn3.below hB18 hn3.lt
                have hg53:=hg53.below hB18
                have hg55:=hg55.below hB18
                have hg59:=hg59.below hB18
                have hg61:=hg61.below hB18
                have hg66:=hg66.below hB18
                have hg68:=hg68.below hB18
                have hB:=hB.trans (hB18.mono hB.size)
                clear hB18
                refine hK.out _ _ ⟨hn2,hn3⟩ ?_
                clear hK KK hHeld
                intro hHeld
                try simp only[Act.put,pk1,pk2,pk3]
                refine tk 18 ⟨some 70,_,_,_,_,_⟩ ?_ hHeld ?_ ?_
                rotate_left
                ·(intro w9 hSw;(try dsimp only at hSw);go_simp)
                 all_goals with_reducible rfl
                try simp only[Act.put,pk1,pk2,pk3]
                refine tk 19 ⟨some 4,_,_,_,_,_⟩ ?_ hHeld ?_ ?_
                rotate_left
                ·(intro w9 hSw;(try dsimp only at hSw);go_simp)
                 all_goals with_reducible rfl
                try simp only[Act.put,pk1,pk2,pk3]
                refine wpAnyH_done (by kernel_rfl) ?_ _
                try simp only[Act.put,pk1,pk2,pk3]
                clear hn2 hn3 hg53 hg55 hg59 hg61 hg66 hg68
                go_wp2_with fail
                go_ret
                exact⟨rfl,hB⟩
end Go.Proofs.YtkhohjdakcchdaaGreatDoor
