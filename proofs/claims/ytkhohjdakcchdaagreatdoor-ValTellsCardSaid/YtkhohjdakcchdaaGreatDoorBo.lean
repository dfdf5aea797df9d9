/- Merged: Each, Ton. -/
import Derived.Test.YtkhohjdakcchdaaGreatDoorBb
import Derived.Test.YtkhohjdakcchdaaGreatDoorBm
import Derived.Test.YtkhohjdakcchdaaGreatDoorBn
namespace Go.Proofs.YtkhohjdakcchdaaGreatDoor
open Go Go.RowKit Go.Shelf
theorem grownBy_setCell (w:World) (a:Addr) (v:Value):w.grownBy (w.setCell a v) (some a.block):=
 ⟨rfl,rfl,rfl,Nat.le_of_eq (by simp),fun k _ hk=>heap_setCell_other w a k v (fun e=>hk (by rw[e]))⟩
theorem build_arr0 (r c:Int) (l:List Vl) (w:World):(Instr.build 34 #[(0,.int .i64 5),(5,.int .i64 r),(6,.int .i64 c)]).run Tryz.prog w= .ok (.agg (vcs (arrV r c l) nilS nilS nilS)) w:=by kernel_rfl
theorem wpList_build_arr0 {ops:Array Oper} {rest:List Oper} {o:Oper} {a:Act} {w:World} {Q:Exit→Act→World→Prop} {x y:Operand} {r c:Int} (l:List Vl) (hgd:o.guard=none) (ho:o.op= .build 34 #[(0,.const (.int .i64 5)),(5,x),(6,y)]) (hx:a.eval x= .int .i64 r) (hy:a.eval y= .int .i64 c)
 (h:wpList Tryz.prog ops Q rest (a.put o.dst (.agg (vcs (arrV r c l) nilS nilS nilS))) w):wpList Tryz.prog ops Q (o :: rest) a w:=
 wpList_plain hgd fun K hK=>by
  have hb:=build_arr0 r c l w
  have he:a.eval (.const (.int .i64 5))= .int .i64 5:=rfl
  unfold Oper.wp execOp
  simp[ho,hx,hy,he,hb]
  exact hK _ _ h
set_option maxRecDepth 100000 in
set_option maxHeartbeats 4000000 in
theorem each_one (g:Nat) (eg:∀args w,(callFunc g args).run Tryz.prog w= .ok (.enter g args) w) (f:Vl→Vl) (x:Vl) (w:World) (hp:plainV x=true) (hT:Lib.Utf8Tabs 0 1 w)
 (hg:∀W,Below w.heap.size w W→Calls Tryz.prog g #[.agg (pcs x)] W (Gives (.agg (pcs (f x))) W)):
 Calls Tryz.prog 75 #[.agg (pcs x),.func (.func g) #[] #[]] w (Gives (.agg (pcs (f x))) w):=by
 have HR:=Lib.hid (show ∀W,Below w.heap.size w W→Calls Tryz.prog 27 #[.agg (pcs x)] W (Gives (.bool true) W)from fun W hW=>right_plain_any 0 x _ W (rp_plain hp) hp (tabs_below hT hW))
 have HG:=Lib.hid hg
 have hO:=pcs_one x
 have h5:=(plain_kind hp).1
 have h6:=(plain_kind hp).2
 obtain⟨C,hC⟩:∃C,pcs x=C:=⟨_,rfl⟩
 have x0:C[0]? =some (.int .i64 x.k):=by rw[←hC];rfl
 rw[hC]at HR HG hO⊢
 have HO:=Lib.hid hO
 have X0:=Lib.hid x0
 clear hC hO hp hT hg x0
 generalize x.k=k at X0 h5 h6
 have f6:(k==6)=false:=by simpa using h6
 have f5:(k != 5)=true:=by simpa using h5
 clear h5 h6
 go_enter Tryz.func75,Tryz.ntmps75
 go_wp2_with (first|refine wpList_alloc34 rfl rfl ?_|refine wpList_load34 rfl rfl rfl ((World.vb_new w C).alloc _) HO.out.1 ?_)
 obtain⟨W,hW⟩:∃W,W=(w.alloc (.cells C 34)).alloc (.cells vz 34):=⟨_,rfl⟩
 rw[←hW]
 have hvx:World.vb W w.heap.size C:=by rw[hW];exact(World.vb_new w C).alloc _
 have hvy:World.vb W (w.heap.size+1) vz:=by rw[hW];exact World.vb_new' _ _ _ (by simp)
 have hB:Below w.heap.size w W:=by rw[hW];exact((Below.refl _ w).alloc (Nat.le_refl _) _).alloc (by simp) _
 clear hW
 refine(HR.out _ hB).mono ?_
 rintro e2 w2 ⟨rfl,hB2⟩
 have hvx:=hvx.below hB2 hvx.lt
 have hvy:=hvy.below hB2 hvy.lt
 have hB:=hB.trans (hB2.mono hB.size)
 clear hB2
 have c0:=hvx.cell X0.out
 have HGB:=HG.out _ hB
 have HGB:=Lib.hid HGB
 go_wp2_with (first|refine wpList_load34 rfl rfl rfl hvx HO.out.1 ?_|(go_at_fn g;refine HGB.out.mono ?_;rintro e3 w3 ⟨rfl,hB3⟩;have hvy:=hvy.below hB3 hvy.lt;have hB:=hB.trans (hB3.mono hB.size))|(refine wpList_store34 rfl rfl rfl rfl hvy (by rfl) (pcs_one _) ?_;intro w9 hn9 hg9 hz9))
 refine bodyPost_ret (results_cell_row rfl _ _ _ 34 _ (0,0) _ rfl hn9 Tryz.underlying34 rfl info34) rfl ?_
 exact⟨rfl,hB.grown hg9 hB.size (fun k9 hk9=>by cases hk9;omega)⟩
set_option maxRecDepth 100000 in
set_option maxHeartbeats 8000000 in
theorem each_many (n g:Nat) (eg:∀args w,(callFunc g args).run Tryz.prog w= .ok (.enter g args) w) (f:Vl→Vl) (r c:Int) (l:List Vl) (v:Value) (w:World) (hx:Rp w w.heap.size (n+2) (arrV r c l) v) (hr:rightV (n+2) (arrV r c l)=true) (hT:Lib.Utf8Tabs 0 1 w)
 (hg:∀x W,plainV x=true→Below w.heap.size w W→Calls Tryz.prog g #[.agg (pcs x)] W (Gives (.agg (pcs (f x))) W)):
 Calls Tryz.prog 75 #[v,.func (.func g) #[] #[]] w (HandsA r c (l.map f) w):=by
 have hpl:=(right_arr.1 hr).2
 have hdim:=(right_arr.1 hr).1
 have HR:=Lib.hid (show ∀W,Below w.heap.size w W→w.heap.size≤W.heap.size→Calls Tryz.prog 27 #[v] W (Gives (.bool true) W)from fun W hW hz=>by
  have:=right27_any n _ v W (hx.below hW hz) (.arr hpl) (tabs_below hT hW)
  rw[hr]at this;exact this)
 obtain⟨p,k,rfl,hl,hok⟩:=arr_cells hx
 have hlen:l.length≤400:=by omega
 have HL:Hid (∀i y,l[i]? =some y→plainV y=true∧∃g0 off,p=some ⟨g0,off,none⟩∧g0<w.heap.size∧∀j u,(pcs y)[j]? =some u→w.cell? ⟨g0,off+i*12+j,none⟩=some u):=Lib.hid fun i y hi=>by
  obtain⟨p',c',e,_,_,_,_,H⟩:=hl
  injection e with e1 _ _
  obtain⟨g0,off,cs,e2,hg0,hs,hr0,hc0⟩:=H i y hi
  have hyp:=hpl y (List.mem_of_getElem? hi)
  have:=plain_cells hr0 hyp
  injection this with this
  subst this
  exact⟨hyp,g0,off,e1.trans e2,hg0,hc0⟩
 have HG:=Lib.hid hg
 obtain⟨CA,hCA⟩:∃C,vcs (arrV r c l) (.slice p l.length k) nilS nilS=C:=⟨_,rfl⟩
 have hO:OneC CA:=by rw[←hCA];exact vcs_one _ _ _ _ _ _ _ _ _ _
 have x0:CA[0]? =some (.int .i64 5):=by rw[←hCA];rfl
 have x6:CA[6]? =some (.int .i64 r):=by rw[←hCA];rfl
 have x7:CA[7]? =some (.int .i64 c):=by rw[←hCA];rfl
 have x8:CA[8]? =some (.slice p l.length k):=by rw[←hCA];rfl
 rw[hCA]at HR⊢
 have HO:=Lib.hid hO
 have XS:=Lib.hid (And.intro x0 (And.intro x6 (And.intro x7 x8)))
 clear hCA hO x0 x6 x7 x8 hx hr hT hg hpl hdim hl hok
 go_enter Tryz.func75,Tryz.ntmps75
 go_wp2_with (first|refine wpList_alloc34 rfl rfl ?_|refine wpList_load34 rfl rfl rfl ((World.vb_new w CA).alloc _) HO.out.1 ?_)
 obtain⟨W,hW⟩:∃W,W=(w.alloc (.cells CA 34)).alloc (.cells vz 34):=⟨_,rfl⟩
 rw[←hW]
 have hvx:World.vb W w.heap.size CA:=by rw[hW];exact(World.vb_new w CA).alloc _
 have hvy:World.vb W (w.heap.size+1) vz:=by rw[hW];exact World.vb_new' _ _ _ (by simp)
 have hB:Below w.heap.size w W:=by rw[hW];exact((Below.refl _ w).alloc (Nat.le_refl _) _).alloc (by simp) _
 clear hW
 refine(HR.out _ hB hB.size).mono ?_
 rintro e2 W0 ⟨rfl,hB2⟩
 have hvx:=hvx.below hB2 hvx.lt
 have hvy:=hvy.below hB2 hvy.lt
 have hBW:=hB.trans (hB2.mono hB.size)
 clear hB2 hB
 have c0:=hvx.cell XS.out.1
 have c6:=hvx.cell XS.out.2.1
 have c7:=hvx.cell XS.out.2.2.1
 have c8:=hvx.cell XS.out.2.2.2
 obtain⟨bo,hbo⟩:∃bo,bo=W0.heap.size:=⟨_,rfl⟩
 have hbx:=hvx.lt
 have hby:=hvy.lt
 rw[←hbo]at hbx hby
 have hbz:bo≤W0.heap.size:=by omega
 go_wp2_with (first|refine wpList_build_arr0 l rfl rfl rfl rfl ?_|refine wpList_alloc34 rfl rfl ?_|(refine wpList_store34 rfl rfl rfl rfl (World.vb_new _ vz) (by rfl) (vcs_one _ none none none 0 0 0 0 0 0) ?_;intro w1 hn1 hg1 hz1;have hB1:Below bo W0 w1:=(by rw[hbo];exact((Below.refl _ W0).alloc (Nat.le_refl _) (.cells vz 34)).grown hg1 (by simp) (fun k9 hk9=>by cases hk9;exact Nat.le_refl _));have c8:=(hvx.below hB1 (by omega)).cell XS.out.2.2.2))
 have hvo0:World.vb w1 bo (vcs (arrV r c l) nilS nilS nilS):=by rw[hbo];exact hn1
 rw[←hbo]
 clear hbo
 clear c0 c6 c7 hn1 hg1 hz1 HR
 go_loopw [33] (fun i wr=>∃(K:Nat) (sv:Value),K≤l.length∧i= .int .i64 (K:Int)∧Below bo W0 wr∧World.vb wr bo (vcs (arrV r c l) sv nilS nilS)∧World.vr wr (bo+1) sv ((l.take K).map f)) (fun i _=>l.length-(intOf i).toNat)
 case atStart=>exact⟨0,nilS,Nat.zero_le _,rfl,hB1,hvo0,World.vr_nil⟩
 case round=>
  clear c8 hvo0
  obtain⟨K,sv,hK,rfl,hBr,hvo,hown⟩:=hrel
  by_cases hlt:K<l.length
  ·have hKI:(K:Int)<(l.length:Int):=by omega
   obtain⟨x,hx⟩:∃x,l[K]? =some x:=⟨_,List.getElem?_eq_getElem hlt⟩
   obtain⟨hxp,g0,off,rfl,hg0,hxc⟩:=HL.out K x hx
   have HX:=Lib.hid (show ∀W,Below bo W0 W→Calls Tryz.prog g #[.agg (pcs x)] W (Gives (.agg (pcs (f x))) W)from fun W hW=>HG.out x W hxp (hBW.trans (hW.mono (by omega))))
   have HC:=Lib.hid (show ∀j u,(pcs x)[j]? =some u→wr.cell? ⟨g0,off+K*12+j,none⟩=some u from fun j u hj=>((hBW.trans (hBr.mono (by omega))).cell (p:=⟨g0,_,none⟩) hg0).trans (hxc j u hj))
   have hO7:=pcs_one x
   have HT:Hid ((l.take (K+1)).map f=(l.take K).map f++ [f x]):=Lib.hid (by rw[List.take_add_one,hx];simp)
   have HLen:Hid (((l.take K).map f).length≤2000):=Lib.hid (by rw[List.length_map,List.length_take];omega)
   obtain⟨C,hC⟩:∃C,pcs x=C:=⟨_,rfl⟩
   rw[hC]at HX HC hO7
   have HO7:=Lib.hid hO7
   have HS:Hid (∀k,sv.ownBlock=some k→bo+1≤k∧k<wr.heap.size):=Lib.hid fun k hk=>World.ownsRow.lt hown k hk
   clear hx hxp hxc hC hO7
   obtain⟨Co,hCo⟩:∃Co,vcs (arrV r c l) sv nilS nilS=Co:=⟨_,rfl⟩
   have xo8:Co[8]? =some sv:=by rw[←hCo];rfl
   rw[hCo]at hvo
   have HCo:=Lib.hid hCo
   have XO8:=Lib.hid xo8
   clear hCo xo8
   obtain⟨g7,hg7⟩:∃g7,g7=wr.heap.size:=⟨_,rfl⟩
   have hbo7:bo<g7:=by rw[hg7];exact hvo.lt
   go_wp2_with (first|refine wpList_load34at rfl rfl rfl HO7.out.1 HC.out ?_|refine wpList_alloc34 rfl rfl ?_|(refine wpList_store34 rfl rfl rfl rfl (World.vb_new _ vz) (by rfl) HO7.out ?_;intro w1 hn1 hg1 hz1))
   rw[←hg7]at HS hn1 hg1⊢
   have HG7:=Lib.hid hg7
   clear hg7
   have hB:Below bo W0 w1:=(hBr.alloc (Nat.le_trans hbz hBr.size) (.cells vz 34)).grown hg1 (by have:=hBr.size;have:=HG7.out;simp;omega) (fun k9 hk9=>by cases hk9;omega)
   have hvo:World.vb w1 bo Co:=(hvo.alloc _).grown hg1 (by intro e9;injection e9 with e9;omega)
   have hown:World.vr w1 (bo+1) sv ((l.take K).map f):=World.ownsRow.kept (World.ownsRow.alloc hown _) hg1 (by
    cases hv9:sv.ownBlock with
    |none=>exact .inl rfl
    |some k=>exact .inr (by intro e9;injection e9 with e9;have:=(HS.out k hv9).2;omega))
   have hv7:=hn1
   clear hn1 hg1 hz1 hBr HC
   refine wp_region_held_drew (S:=fun w9=>World.vb w9 g7 C) (by kernel_rfl) hv7 (fun hHeld=> ?_)
   refine wpAnyH_take (i:=0) (v:= ?_) rfl (by kernel_rfl) (by kernel_rfl) (by kernel_rfl) (fun _ _ _ h=>h) (Or.inl ⟨by rfl,?_⟩) hHeld ?_
   rotate_left
   ·(intro w9 hSw;(try dsimp only at hSw);go_simp)
    all_goals with_reducible rfl
   try simp only[Act.put,pk1,pk2,pk3]
   refine wpAnyH_take (i:=2) (v:= ?_) rfl (by kernel_rfl) (by kernel_rfl) (by kernel_rfl) (fun _ _ _ h=>h) (Or.inl ⟨by rfl,?_⟩) hHeld ?_
   rotate_left
   ·(intro w9 hSw;(try dsimp only at hSw);go_simp)
    all_goals with_reducible rfl
   try simp only[Act.put]
   refine wpAnyH_take (i:=3) (v:= ?_) rfl (by kernel_rfl) (by kernel_rfl) (by kernel_rfl) (fun _ _ _ h=>h) (Or.inl ⟨by rfl,?_⟩) hHeld ?_
   rotate_left
   ·(intro w9 hSw;refine yields34 (x:= .tmp 7) (g:=g7) (cs:=C) ?_ ?_ HO7.out.1 hSw<;>rfl)
   try simp only[Act.put]
   have hv7:=hv7.drew
   have hvo:=hvo.drew
   have hown:=hown.drew
   have hB:=hB.drew
   clear hHeld
   refine wpAnyH_ready (rs:= [1,4]) (by kernel_rfl) (by simp) ?_
   refine(AllReadyH.cons (o:=⟨some 38,_,_,_,_,_⟩) rfl (fun KK hK=> ?_) (AllReadyH.cons (o:=⟨some 41,_,_,_,_,_⟩) rfl (fun KK hK=> ?_) AllReadyH.nil))
   ·have c8:=hvo.cell XO8.out
    rw[if_pos (by rfl)]
    go_simp
    clear c8
    refine hK.out _ _ hv7 (fun hHeld=> ?_)
    clear hK KK hHeld
    try simp only[Act.put,pk1,pk2,pk3]
    refine wpAnyH_ready (rs:= [4]) (by kernel_rfl) (by simp) ?_
    refine(AllReadyH.cons (o:=⟨some 41,_,_,_,_,_⟩) rfl (fun KK hK=> ?_) AllReadyH.nil)
    ·go_simp
     refine(HX.out _ hB).mono ?_
     rintro e2 w2 ⟨rfl,hB2⟩
     have hv7:=hv7.below hB2 hv7.lt
     have hvo:=hvo.below hB2 hvo.lt
     have hown:=hown.below hB2
     have hB:=hB.trans (hB2.mono (Nat.le_trans hbz hB.size))
     have hq2:=hB2.size
     clear hB2
     refine hK.out _ _ hv7 (fun hHeld=> ?_)
     clear hK KK hHeld
     try simp only[Act.put,pk1,pk2,pk3]
     refine wpAnyH_ready (rs:= [5]) (by kernel_rfl) (by simp) ?_
     refine(AllReadyH.cons (o:=⟨some 42,_,_,_,_,_⟩) rfl (fun KK hK=> ?_) AllReadyH.nil)
     ·rw[if_pos (by rfl)]
      refine op_bslice34 rfl rfl ?_
      obtain⟨gn,hgn⟩:∃gn,gn=w2.heap.size:=⟨_,rfl⟩
      obtain⟨w3,hw3⟩:∃w3,w3=w2.alloc (.cells (pcs (f x)) 34):=⟨_,rfl⟩
      rw[←hw3,←hgn]
      have hvn:World.vb w3 gn (pcs (f x)):=by rw[hw3,hgn];exact World.vb_new _ _
      have hv7:World.vb w3 g7 C:=by rw[hw3];exact hv7.alloc _
      have hvo:World.vb w3 bo Co:=by rw[hw3];exact hvo.alloc _
      have hown:World.vr w3 (bo+1) sv ((l.take K).map f):=by rw[hw3];exact hown.alloc _
      have hB:Below bo W0 w3:=by rw[hw3];exact hB.alloc (Nat.le_trans hbz hB.size) _
      have hgb:bo+1≤w3.heap.size:=hvo.lt
      clear hw3 hgn
      refine hK.out _ _ hv7 (fun hHeld=> ?_)
      clear hK KK hHeld
      try simp only[Act.put,pk1,pk2,pk3]
      refine wpAnyH_ready (rs:= [6]) (by kernel_rfl) (by simp) ?_
      refine(AllReadyH.cons (o:=⟨some 43,_,_,_,_,_⟩) rfl (fun KK hK=> ?_) AllReadyH.nil)
      ·rw[if_pos (by rfl)]
       refine op_pushv _ _ rfl (bo+1) sv ((l.take K).map f) (f x) gn hown HLen.out rfl rfl hvn hgb ?_
       intro v4 w4 hown4 hg4
       obtain⟨pv,nv,cv,rfl⟩:=hown4.shape2
       have hv7:=hv7.grown hg4 (fun e=>by have:=HS.out _ e.symm;omega)
       have hvo:=hvo.grown hg4 (fun e=>by have:=HS.out _ e.symm;omega)
       have hB:=hB.grown hg4 (Nat.le_trans hbz hB.size) (fun k9 hk9=>by have:=HS.out _ hk9;omega)
       clear hown hvn hg4
       refine hK.out _ _ hv7 (fun hHeld=> ?_)
       clear hK KK hHeld
       try simp only[Act.put,pk1,pk2,pk3]
       refine wpAnyH_ready (rs:= [7]) (by kernel_rfl) (by simp) ?_
       refine(AllReadyH.cons (o:=⟨some 44,_,_,_,_,_⟩) rfl (fun KK hK=> ?_) AllReadyH.nil)
       ·rw[if_pos (by rfl)]
        go_simp
        refine hK.out _ _ hv7 (fun hHeld=> ?_)
        clear hK KK hHeld
        try simp only[Act.put,pk1,pk2,pk3]
        refine wpAnyH_ready (rs:= [8]) (by kernel_rfl) (by simp) ?_
        refine(AllReadyH.cons (o:=⟨none,_,_,_,_,_⟩) rfl (fun KK hK=> ?_) AllReadyH.nil)
        ·have c8:=hvo.cell XO8.out
         have f8:=hvo.frozen 8
         rw[if_pos (by rfl)]
         go_simp
         clear c8 f8
         refine hK.out _ _ (hv7.other (a:=⟨bo,8,none⟩) (show g7≠bo by omega) _) (fun hHeld=> ?_)
         clear hK KK hHeld
         try simp only[Act.put,pk1,pk2,pk3]
         refine wpAnyH_done (by kernel_rfl) ?_ _
         try simp only[Act.put,pk1,pk2,pk3]
         obtain⟨w5,hw5⟩:∃w5,w5=w4.setCell ⟨bo,8,none⟩ (.slice pv nv cv):=⟨_,rfl⟩
         rw[←hw5]
         have hvo5:World.vb w5 bo (vcs (arrV r c l) (.slice pv nv cv) nilS nilS):=by
          rw[hw5]
          have:=hvo.set 8 (.slice pv nv cv)
          rw[←HCo.out]at this
          exact this
         have hown5:World.vr w5 (bo+1) (.slice pv nv cv) ((l.take (K+1)).map f):=by
          rw[HT.out,hw5]
          exact hown4.grown (g:=bo) (grownBy_setCell _ _ _) (Nat.lt_succ_self _)
         have hB5:Below bo W0 w5:=by rw[hw5];exact hB.setCell (Nat.le_refl _) _
         clear hw5 hvo hown4 hB hv7
         go_wp2_with fail
         go_roundw
         case rel=>exact⟨K+1,_,by omega,by go_num,hB5,hvo5,hown5⟩
         case measure=>simp[intOf];omega
   ·go_simp
    refine(HX.out _ hB).mono ?_
    rintro e2 w2 ⟨rfl,hB2⟩
    have hv7:=hv7.below hB2 hv7.lt
    have hvo:=hvo.below hB2 hvo.lt
    have hown:=hown.below hB2
    have hB:=hB.trans (hB2.mono (Nat.le_trans hbz hB.size))
    have hq2:=hB2.size
    clear hB2
    refine hK.out _ _ hv7 (fun hHeld=> ?_)
    clear hK KK hHeld
    try simp only[Act.put,pk1,pk2,pk3]
    refine wpAnyH_ready (rs:= [1,5]) (by kernel_rfl) (by simp) ?_
    refine(AllReadyH.cons (o:=⟨some 38,_,_,_,_,_⟩) rfl (fun KK hK=> ?_) (AllReadyH.cons (o:=⟨some 42,_,_,_,_,_⟩) rfl (fun KK hK=> ?_) AllReadyH.nil))
    ·have c8:=hvo.cell XO8.out
     rw[if_pos (by rfl)]
     go_simp
     clear c8
     refine hK.out _ _ hv7 (fun hHeld=> ?_)
     clear hK KK hHeld
     try simp only[Act.put,pk1,pk2,pk3]
     refine wpAnyH_ready (rs:= [5]) (by kernel_rfl) (by simp) ?_
     refine(AllReadyH.cons (o:=⟨some 42,_,_,_,_,_⟩) rfl (fun KK hK=> ?_) AllReadyH.nil)
     ·rw[if_pos (by rfl)]
      refine op_bslice34 rfl rfl ?_
      obtain⟨gn,hgn⟩:∃gn,gn=w2.heap.size:=⟨_,rfl⟩
      obtain⟨w3,hw3⟩:∃w3,w3=w2.alloc (.cells (pcs (f x)) 34):=⟨_,rfl⟩
      rw[←hw3,←hgn]
      have hvn:World.vb w3 gn (pcs (f x)):=by rw[hw3,hgn];exact World.vb_new _ _
      have hv7:World.vb w3 g7 C:=by rw[hw3];exact hv7.alloc _
      have hvo:World.vb w3 bo Co:=by rw[hw3];exact hvo.alloc _
      have hown:World.vr w3 (bo+1) sv ((l.take K).map f):=by rw[hw3];exact hown.alloc _
      have hB:Below bo W0 w3:=by rw[hw3];exact hB.alloc (Nat.le_trans hbz hB.size) _
      have hgb:bo+1≤w3.heap.size:=hvo.lt
      clear hw3 hgn
      refine hK.out _ _ hv7 (fun hHeld=> ?_)
      clear hK KK hHeld
      try simp only[Act.put,pk1,pk2,pk3]
      refine wpAnyH_ready (rs:= [6]) (by kernel_rfl) (by simp) ?_
      refine(AllReadyH.cons (o:=⟨some 43,_,_,_,_,_⟩) rfl (fun KK hK=> ?_) AllReadyH.nil)
      ·rw[if_pos (by rfl)]
       refine op_pushv _ _ rfl (bo+1) sv ((l.take K).map f) (f x) gn hown HLen.out rfl rfl hvn hgb ?_
       intro v4 w4 hown4 hg4
       obtain⟨pv,nv,cv,rfl⟩:=hown4.shape2
       have hv7:=hv7.grown hg4 (fun e=>by have:=HS.out _ e.symm;omega)
       have hvo:=hvo.grown hg4 (fun e=>by have:=HS.out _ e.symm;omega)
       have hB:=hB.grown hg4 (Nat.le_trans hbz hB.size) (fun k9 hk9=>by have:=HS.out _ hk9;omega)
       clear hown hvn hg4
       refine hK.out _ _ hv7 (fun hHeld=> ?_)
       clear hK KK hHeld
       try simp only[Act.put,pk1,pk2,pk3]
       refine wpAnyH_ready (rs:= [7]) (by kernel_rfl) (by simp) ?_
       refine(AllReadyH.cons (o:=⟨some 44,_,_,_,_,_⟩) rfl (fun KK hK=> ?_) AllReadyH.nil)
       ·rw[if_pos (by rfl)]
        go_simp
        refine hK.out _ _ hv7 (fun hHeld=> ?_)
        clear hK KK hHeld
        try simp only[Act.put,pk1,pk2,pk3]
        refine wpAnyH_ready (rs:= [8]) (by kernel_rfl) (by simp) ?_
        refine(AllReadyH.cons (o:=⟨none,_,_,_,_,_⟩) rfl (fun KK hK=> ?_) AllReadyH.nil)
        ·have c8:=hvo.cell XO8.out
         have f8:=hvo.frozen 8
         rw[if_pos (by rfl)]
         go_simp
         clear c8 f8
         refine hK.out _ _ (hv7.other (a:=⟨bo,8,none⟩) (show g7≠bo by omega) _) (fun hHeld=> ?_)
         clear hK KK hHeld
         try simp only[Act.put,pk1,pk2,pk3]
         refine wpAnyH_done (by kernel_rfl) ?_ _
         try simp only[Act.put,pk1,pk2,pk3]
         obtain⟨w5,hw5⟩:∃w5,w5=w4.setCell ⟨bo,8,none⟩ (.slice pv nv cv):=⟨_,rfl⟩
         rw[←hw5]
         have hvo5:World.vb w5 bo (vcs (arrV r c l) (.slice pv nv cv) nilS nilS):=by
          rw[hw5]
          have:=hvo.set 8 (.slice pv nv cv)
          rw[←HCo.out]at this
          exact this
         have hown5:World.vr w5 (bo+1) (.slice pv nv cv) ((l.take (K+1)).map f):=by
          rw[HT.out,hw5]
          exact hown4.grown (g:=bo) (grownBy_setCell _ _ _) (Nat.lt_succ_self _)
         have hB5:Below bo W0 w5:=by rw[hw5];exact hB.setCell (Nat.le_refl _) _
         clear hw5 hvo hown4 hB hv7
         go_wp2_with fail
         go_roundw
         case rel=>exact⟨K+1,_,by omega,by go_num,hB5,hvo5,hown5⟩
         case measure=>simp[intOf];omega
    ·rw[if_pos (by rfl)]
     refine op_bslice34 rfl rfl ?_
     obtain⟨gn,hgn⟩:∃gn,gn=w2.heap.size:=⟨_,rfl⟩
     obtain⟨w3,hw3⟩:∃w3,w3=w2.alloc (.cells (pcs (f x)) 34):=⟨_,rfl⟩
     rw[←hw3,←hgn]
     have hvn:World.vb w3 gn (pcs (f x)):=by rw[hw3,hgn];exact World.vb_new _ _
     have hv7:World.vb w3 g7 C:=by rw[hw3];exact hv7.alloc _
     have hvo:World.vb w3 bo Co:=by rw[hw3];exact hvo.alloc _
     have hown:World.vr w3 (bo+1) sv ((l.take K).map f):=by rw[hw3];exact hown.alloc _
     have hB:Below bo W0 w3:=by rw[hw3];exact hB.alloc (Nat.le_trans hbz hB.size) _
     have hgb:bo+1≤w3.heap.size:=hvo.lt
     clear hw3 hgn
     refine hK.out _ _ hv7 (fun hHeld=> ?_)
     clear hK KK hHeld
     try simp only[Act.put,pk1,pk2,pk3]
     refine wpAnyH_ready (rs:= [1]) (by kernel_rfl) (by simp) ?_
     refine(AllReadyH.cons (o:=⟨some 38,_,_,_,_,_⟩) rfl (fun KK hK=> ?_) AllReadyH.nil)
     ·have c8:=hvo.cell XO8.out
      rw[if_pos (by rfl)]
      go_simp
      clear c8
      refine hK.out _ _ hv7 (fun hHeld=> ?_)
      clear hK KK hHeld
      try simp only[Act.put,pk1,pk2,pk3]
      refine wpAnyH_ready (rs:= [6]) (by kernel_rfl) (by simp) ?_
      refine(AllReadyH.cons (o:=⟨some 43,_,_,_,_,_⟩) rfl (fun KK hK=> ?_) AllReadyH.nil)
      ·rw[if_pos (by rfl)]
       refine op_pushv _ _ rfl (bo+1) sv ((l.take K).map f) (f x) gn hown HLen.out rfl rfl hvn hgb ?_
       intro v4 w4 hown4 hg4
       obtain⟨pv,nv,cv,rfl⟩:=hown4.shape2
       have hv7:=hv7.grown hg4 (fun e=>by have:=HS.out _ e.symm;omega)
       have hvo:=hvo.grown hg4 (fun e=>by have:=HS.out _ e.symm;omega)
       have hB:=hB.grown hg4 (Nat.le_trans hbz hB.size) (fun k9 hk9=>by have:=HS.out _ hk9;omega)
       clear hown hvn hg4
       refine hK.out _ _ hv7 (fun hHeld=> ?_)
       clear hK KK hHeld
       try simp only[Act.put,pk1,pk2,pk3]
       refine wpAnyH_ready (rs:= [7]) (by kernel_rfl) (by simp) ?_
       refine(AllReadyH.cons (o:=⟨some 44,_,_,_,_,_⟩) rfl (fun KK hK=> ?_) AllReadyH.nil)
       ·rw[if_pos (by rfl)]
        go_simp
        refine hK.out _ _ hv7 (fun hHeld=> ?_)
        clear hK KK hHeld
        try simp only[Act.put,pk1,pk2,pk3]
        refine wpAnyH_ready (rs:= [8]) (by kernel_rfl) (by simp) ?_
        refine(AllReadyH.cons (o:=⟨none,_,_,_,_,_⟩) rfl (fun KK hK=> ?_) AllReadyH.nil)
        ·have c8:=hvo.cell XO8.out
         have f8:=hvo.frozen 8
         rw[if_pos (by rfl)]
         go_simp
         clear c8 f8
         refine hK.out _ _ (hv7.other (a:=⟨bo,8,none⟩) (show g7≠bo by omega) _) (fun hHeld=> ?_)
         clear hK KK hHeld
         try simp only[Act.put,pk1,pk2,pk3]
         refine wpAnyH_done (by kernel_rfl) ?_ _
         try simp only[Act.put,pk1,pk2,pk3]
         obtain⟨w5,hw5⟩:∃w5,w5=w4.setCell ⟨bo,8,none⟩ (.slice pv nv cv):=⟨_,rfl⟩
         rw[←hw5]
         have hvo5:World.vb w5 bo (vcs (arrV r c l) (.slice pv nv cv) nilS nilS):=by
          rw[hw5]
          have:=hvo.set 8 (.slice pv nv cv)
          rw[←HCo.out]at this
          exact this
         have hown5:World.vr w5 (bo+1) (.slice pv nv cv) ((l.take (K+1)).map f):=by
          rw[HT.out,hw5]
          exact hown4.grown (g:=bo) (grownBy_setCell _ _ _) (Nat.lt_succ_self _)
         have hB5:Below bo W0 w5:=by rw[hw5];exact hB.setCell (Nat.le_refl _) _
         clear hw5 hvo hown4 hB hv7
         go_wp2_with fail
         go_roundw
         case rel=>exact⟨K+1,_,by omega,by go_num,hB5,hvo5,hown5⟩
         case measure=>simp[intOf];omega
  ·obtain rfl:K=l.length:=by omega
   rw[List.take_length]at hown
   have hKI:¬((l.length:Int)<(l.length:Int)):=by omega
   obtain⟨Co,hCo⟩:∃Co,vcs (arrV r c l) sv nilS nilS=Co:=⟨_,rfl⟩
   rw[hCo]at hvo
   have hoC:OneC Co:=by
    obtain⟨p',c',e⟩:=hown.shape
    rw[←hCo,e];exact vcs_one _ _ _ _ _ _ _ _ _ _
   have HCo:=Lib.hid hCo
   have HOC:=Lib.hid hoC
   clear hCo hoC
   have hvr:=hvy.below hBr (by omega)
   go_wp2_with (first|refine wpList_load34 rfl rfl rfl hvo HOC.out.1 ?_|(refine wpList_store34 rfl rfl rfl rfl hvr (by rfl) HOC.out ?_;intro w9 hn9 hg9 hz9))
   refine bodyPost_ret (results_cell_row rfl _ _ _ 34 _ (0,0) _ rfl hn9 Tryz.underlying34 rfl (by rw[HOC.out.1];exact info34)) rfl ?_
   have hown9:World.vr w9 (bo+1) sv (l.map f):=hown.grown hg9 (by omega)
   have hB9:=(hBW.trans (hBr.mono (by omega))).grown hg9 (by have:=hBr.size;omega) (fun k9 hk9=>by cases hk9;omega)
   refine⟨sv,by rw[←HCo.out];rfl,hown9.mono (by omega),hB9⟩
end Go.Proofs.YtkhohjdakcchdaaGreatDoor
namespace Go.Proofs.YtkhohjdakcchdaaGreatDoor
open Go Go.RowKit Go.Shelf
theorem enters76 :∀args w,(callFunc 76 args).run Tryz.prog w= .ok (.enter 76 args) w:=enters_of Tryz.func76 (by kernel_rfl) rfl
set_option maxRecDepth 100000 in
set_option maxHeartbeats 4000000 in
theorem tonum_one (x:Vl) (w:World) (hx:plainV x=true) (hT:Lib.Utf8Tabs 0 1 w) (hS:Shp w):Calls Tryz.prog 29 #[.agg (pcs x)] w (Gives (.agg (pcs (numT x))) w):=by
 have HE:=Lib.hid (show ∀W,Below w.heap.size w W→Calls Tryz.prog 75 #[.agg (pcs x),.func (.func 76) #[] #[]] W (Gives (.agg (pcs (numT x))) W)from fun W hW=>
  each_one 76 enters76 numT x W hx (tabs_below hT hW) (fun W2 hW2=>by
   have hW:=hW.trans (hW2.mono hW.size)
   clear hW2
   revert hW
   intro hW
   exact(fun W (hW:Below w.heap.size w W)=>num76_any x W hx (hS.below hW)) W2 hW))
 clear hT hx hS
 obtain⟨C,hC⟩:∃C,pcs x=C:=⟨_,rfl⟩
 obtain⟨C',hC'⟩:∃C,pcs (numT x)=C:=⟨_,rfl⟩
 have hO':=pcs_one (numT x)
 have HO:Hid (OneC C):=Lib.hid (by rw[←hC];exact pcs_one x)
 rw[hC,hC']at HE
 rw[hC']at hO'
 rw[hC,hC']
 have HO':=Lib.hid hO'
 clear hC hC' hO'
 go_enter Tryz.func29,Tryz.ntmps29
 go_wp2_with (first|refine wpList_alloc34 rfl rfl ?_|refine wpList_load34 rfl rfl rfl ((World.vb_new w C).alloc _) HO.out.1 ?_)
 obtain⟨W,hW⟩:∃W,W=(w.alloc (.cells C 34)).alloc (.cells vz 34):=⟨_,rfl⟩
 rw[←hW]
 have hvy:World.vb W (w.heap.size+1) vz:=by rw[hW];exact World.vb_new' _ _ _ (by simp)
 have hB:Below w.heap.size w W:=by rw[hW];exact((Below.refl _ w).alloc (Nat.le_refl _) _).alloc (by simp) _
 clear hW
 refine(HE.out _ hB).mono ?_
 rintro e2 w2 ⟨rfl,hB2⟩
 have hvy:=hvy.below hB2 hvy.lt
 have hB:=hB.trans (hB2.mono hB.size)
 clear hB2
 go_wp2_with (refine wpList_store34 rfl rfl rfl rfl hvy (by rfl) HO'.out ?_;intro w9 hn9 hg9 hz9)
 refine bodyPost_ret (results_cell_row rfl _ _ _ 34 _ (0,0) _ rfl hn9 Tryz.underlying34 rfl (by rw[HO'.out.1];exact info34)) rfl ?_
 exact⟨rfl,hB.grown hg9 hB.size (fun k9 hk9=>by cases hk9;omega)⟩
set_option maxRecDepth 100000 in
set_option maxHeartbeats 4000000 in
theorem tonum_many (n:Nat) (r c:Int) (l:List Vl) (v:Value) (w:World) (hv:Rp w w.heap.size (n+2) (arrV r c l) v) (hr:rightV (n+2) (arrV r c l)=true) (hT:Lib.Utf8Tabs 0 1 w) (hS:Shp w):
 Calls Tryz.prog 29 #[v] w (HandsA r c (l.map numT) w):=by
 have HE:=Lib.hid (show ∀W,Below w.heap.size w W→w.heap.size≤W.heap.size→Calls Tryz.prog 75 #[v,.func (.func 76) #[] #[]] W (HandsA r c (l.map numT) W)from fun W hW hz=>
  each_many n 76 enters76 numT r c l v W (hv.below hW hz) hr (tabs_below hT hW) (fun x W2 hx hW2=>by
   have hW:=hW.trans (hW2.mono hW.size)
   exact(fun W (hW:Below w.heap.size w W)=>num76_any x W hx (hS.below hW)) W2 hW))
 clear hT hr hS
 obtain⟨C,rfl⟩:∃C,v= .agg C:=by obtain⟨_,_,_,e,_⟩:=hv;exact⟨_,e⟩
 have HO:=Lib.hid hv.one
 clear hv
 go_enter Tryz.func29,Tryz.ntmps29
 go_wp2_with (first|refine wpList_alloc34 rfl rfl ?_|refine wpList_load34 rfl rfl rfl ((World.vb_new w C).alloc _) HO.out.1 ?_)
 obtain⟨W,hW⟩:∃W,W=(w.alloc (.cells C 34)).alloc (.cells vz 34):=⟨_,rfl⟩
 rw[←hW]
 have hvy:World.vb W (w.heap.size+1) vz:=by rw[hW];exact World.vb_new' _ _ _ (by simp)
 have hB:Below w.heap.size w W:=by rw[hW];exact((Below.refl _ w).alloc (Nat.le_refl _) _).alloc (by simp) _
 have hz:w.heap.size+2≤W.heap.size:=by rw[hW];simp
 clear hW
 refine(HE.out _ hB hB.size).mono ?_
 rintro e2 w2 ⟨L,rfl,hown,hB2⟩
 have hvy:=hvy.below hB2 hvy.lt
 have hB:=hB.trans (hB2.mono hB.size)
 have HO':=Lib.hid (vr_one (r:=r) (c:=c) hown)
 clear hB2
 obtain⟨C',hC'⟩:∃C',vcs (arrV r c (l.map numT)) L nilS nilS=C':=⟨_,rfl⟩
 rw[hC']at HO'⊢
 have HC':=Lib.hid hC'
 clear hC'
 go_wp2_with (refine wpList_store34 rfl rfl rfl rfl hvy (by rfl) HO'.out ?_;intro w9 hn9 hg9 hz9)
 refine bodyPost_ret (results_cell_row rfl _ _ _ 34 _ (0,0) _ rfl hn9 Tryz.underlying34 rfl (by rw[HO'.out.1];exact info34)) rfl ?_
 exact⟨L,by rw[←HC'.out],(hown.grown hg9 (by omega)).mono (by omega),hB.grown hg9 hB.size (fun k9 hk9=>by cases hk9;omega)⟩
theorem enters77 :∀args w,(callFunc 77 args).run Tryz.prog w= .ok (.enter 77 args) w:=enters_of Tryz.func77 (by kernel_rfl) rfl
set_option maxRecDepth 100000 in
set_option maxHeartbeats 4000000 in
theorem totxt_one (x:Vl) (w:World) (hx:plainV x=true) (hT:Lib.Utf8Tabs 0 1 w):Calls Tryz.prog 30 #[.agg (pcs x)] w (Gives (.agg (pcs (txtT x))) w):=by
 have HE:=Lib.hid (show ∀W,Below w.heap.size w W→Calls Tryz.prog 75 #[.agg (pcs x),.func (.func 77) #[] #[]] W (Gives (.agg (pcs (txtT x))) W)from fun W hW=>
  each_one 77 enters77 txtT x W hx (tabs_below hT hW) (fun W2 hW2=>by
   have hW:=hW.trans (hW2.mono hW.size)
   clear hW2
   revert hW
   intro hW
   exact(fun W (hW:Below w.heap.size w W)=>txt77_any x W hx) W2 hW))
 clear hT hx
 obtain⟨C,hC⟩:∃C,pcs x=C:=⟨_,rfl⟩
 obtain⟨C',hC'⟩:∃C,pcs (txtT x)=C:=⟨_,rfl⟩
 have hO':=pcs_one (txtT x)
 have HO:Hid (OneC C):=Lib.hid (by rw[←hC];exact pcs_one x)
 rw[hC,hC']at HE
 rw[hC']at hO'
 rw[hC,hC']
 have HO':=Lib.hid hO'
 clear hC hC' hO'
 go_enter Tryz.func30,Tryz.ntmps30
 go_wp2_with (first|refine wpList_alloc34 rfl rfl ?_|refine wpList_load34 rfl rfl rfl ((World.vb_new w C).alloc _) HO.out.1 ?_)
 obtain⟨W,hW⟩:∃W,W=(w.alloc (.cells C 34)).alloc (.cells vz 34):=⟨_,rfl⟩
 rw[←hW]
 have hvy:World.vb W (w.heap.size+1) vz:=by rw[hW];exact World.vb_new' _ _ _ (by simp)
 have hB:Below w.heap.size w W:=by rw[hW];exact((Below.refl _ w).alloc (Nat.le_refl _) _).alloc (by simp) _
 clear hW
 refine(HE.out _ hB).mono ?_
 rintro e2 w2 ⟨rfl,hB2⟩
 have hvy:=hvy.below hB2 hvy.lt
 have hB:=hB.trans (hB2.mono hB.size)
 clear hB2
 go_wp2_with (refine wpList_store34 rfl rfl rfl rfl hvy (by rfl) HO'.out ?_;intro w9 hn9 hg9 hz9)
 refine bodyPost_ret (results_cell_row rfl _ _ _ 34 _ (0,0) _ rfl hn9 Tryz.underlying34 rfl (by rw[HO'.out.1];exact info34)) rfl ?_
 exact⟨rfl,hB.grown hg9 hB.size (fun k9 hk9=>by cases hk9;omega)⟩
set_option maxRecDepth 100000 in
set_option maxHeartbeats 4000000 in
theorem totxt_many (n:Nat) (r c:Int) (l:List Vl) (v:Value) (w:World) (hv:Rp w w.heap.size (n+2) (arrV r c l) v) (hr:rightV (n+2) (arrV r c l)=true) (hT:Lib.Utf8Tabs 0 1 w):
 Calls Tryz.prog 30 #[v] w (HandsA r c (l.map txtT) w):=by
 have HE:=Lib.hid (show ∀W,Below w.heap.size w W→w.heap.size≤W.heap.size→Calls Tryz.prog 75 #[v,.func (.func 77) #[] #[]] W (HandsA r c (l.map txtT) W)from fun W hW hz=>
  each_many n 77 enters77 txtT r c l v W (hv.below hW hz) hr (tabs_below hT hW) (fun x W2 hx hW2=>by
   have hW:=hW.trans (hW2.mono hW.size)
   exact(fun W (hW:Below w.heap.size w W)=>txt77_any x W hx) W2 hW))
 clear hT hr
 obtain⟨C,rfl⟩:∃C,v= .agg C:=by obtain⟨_,_,_,e,_⟩:=hv;exact⟨_,e⟩
 have HO:=Lib.hid hv.one
 clear hv
 go_enter Tryz.func30,Tryz.ntmps30
 go_wp2_with (first|refine wpList_alloc34 rfl rfl ?_|refine wpList_load34 rfl rfl rfl ((World.vb_new w C).alloc _) HO.out.1 ?_)
 obtain⟨W,hW⟩:∃W,W=(w.alloc (.cells C 34)).alloc (.cells vz 34):=⟨_,rfl⟩
 rw[←hW]
 have hvy:World.vb W (w.heap.size+1) vz:=by rw[hW];exact World.vb_new' _ _ _ (by simp)
 have hB:Below w.heap.size w W:=by rw[hW];exact((Below.refl _ w).alloc (Nat.le_refl _) _).alloc (by simp) _
 have hz:w.heap.size+2≤W.heap.size:=by rw[hW];simp
 clear hW
 refine(HE.out _ hB hB.size).mono ?_
 rintro e2 w2 ⟨L,rfl,hown,hB2⟩
 have hvy:=hvy.below hB2 hvy.lt
 have hB:=hB.trans (hB2.mono hB.size)
 have HO':=Lib.hid (vr_one (r:=r) (c:=c) hown)
 clear hB2
 obtain⟨C',hC'⟩:∃C',vcs (arrV r c (l.map txtT)) L nilS nilS=C':=⟨_,rfl⟩
 rw[hC']at HO'⊢
 have HC':=Lib.hid hC'
 clear hC'
 go_wp2_with (refine wpList_store34 rfl rfl rfl rfl hvy (by rfl) HO'.out ?_;intro w9 hn9 hg9 hz9)
 refine bodyPost_ret (results_cell_row rfl _ _ _ 34 _ (0,0) _ rfl hn9 Tryz.underlying34 rfl (by rw[HO'.out.1];exact info34)) rfl ?_
 exact⟨L,by rw[←HC'.out],(hown.grown hg9 (by omega)).mono (by omega),hB.grown hg9 hB.size (fun k9 hk9=>by cases hk9;omega)⟩
theorem enters78 :∀args w,(callFunc 78 args).run Tryz.prog w= .ok (.enter 78 args) w:=enters_of Tryz.func78 (by kernel_rfl) rfl
set_option maxRecDepth 100000 in
set_option maxHeartbeats 4000000 in
theorem totru_one (x:Vl) (w:World) (hx:plainV x=true) (hT:Lib.Utf8Tabs 0 1 w):Calls Tryz.prog 31 #[.agg (pcs x)] w (Gives (.agg (pcs (truT x))) w):=by
 have HE:=Lib.hid (show ∀W,Below w.heap.size w W→Calls Tryz.prog 75 #[.agg (pcs x),.func (.func 78) #[] #[]] W (Gives (.agg (pcs (truT x))) W)from fun W hW=>
  each_one 78 enters78 truT x W hx (tabs_below hT hW) (fun W2 hW2=>by
   have hW:=hW.trans (hW2.mono hW.size)
   clear hW2
   revert hW
   intro hW
   exact(fun W (hW:Below w.heap.size w W)=>tru78_any x W hx) W2 hW))
 clear hT hx
 obtain⟨C,hC⟩:∃C,pcs x=C:=⟨_,rfl⟩
 obtain⟨C',hC'⟩:∃C,pcs (truT x)=C:=⟨_,rfl⟩
 have hO':=pcs_one (truT x)
 have HO:Hid (OneC C):=Lib.hid (by rw[←hC];exact pcs_one x)
 rw[hC,hC']at HE
 rw[hC']at hO'
 rw[hC,hC']
 have HO':=Lib.hid hO'
 clear hC hC' hO'
 go_enter Tryz.func31,Tryz.ntmps31
 go_wp2_with (first|refine wpList_alloc34 rfl rfl ?_|refine wpList_load34 rfl rfl rfl ((World.vb_new w C).alloc _) HO.out.1 ?_)
 obtain⟨W,hW⟩:∃W,W=(w.alloc (.cells C 34)).alloc (.cells vz 34):=⟨_,rfl⟩
 rw[←hW]
 have hvy:World.vb W (w.heap.size+1) vz:=by rw[hW];exact World.vb_new' _ _ _ (by simp)
 have hB:Below w.heap.size w W:=by rw[hW];exact((Below.refl _ w).alloc (Nat.le_refl _) _).alloc (by simp) _
 clear hW
 refine(HE.out _ hB).mono ?_
 rintro e2 w2 ⟨rfl,hB2⟩
 have hvy:=hvy.below hB2 hvy.lt
 have hB:=hB.trans (hB2.mono hB.size)
 clear hB2
 go_wp2_with (refine wpList_store34 rfl rfl rfl rfl hvy (by rfl) HO'.out ?_;intro w9 hn9 hg9 hz9)
 refine bodyPost_ret (results_cell_row rfl _ _ _ 34 _ (0,0) _ rfl hn9 Tryz.underlying34 rfl (by rw[HO'.out.1];exact info34)) rfl ?_
 exact⟨rfl,hB.grown hg9 hB.size (fun k9 hk9=>by cases hk9;omega)⟩
set_option maxRecDepth 100000 in
set_option maxHeartbeats 4000000 in
theorem totru_many (n:Nat) (r c:Int) (l:List Vl) (v:Value) (w:World) (hv:Rp w w.heap.size (n+2) (arrV r c l) v) (hr:rightV (n+2) (arrV r c l)=true) (hT:Lib.Utf8Tabs 0 1 w):
 Calls Tryz.prog 31 #[v] w (HandsA r c (l.map truT) w):=by
 have HE:=Lib.hid (show ∀W,Below w.heap.size w W→w.heap.size≤W.heap.size→Calls Tryz.prog 75 #[v,.func (.func 78) #[] #[]] W (HandsA r c (l.map truT) W)from fun W hW hz=>
  each_many n 78 enters78 truT r c l v W (hv.below hW hz) hr (tabs_below hT hW) (fun x W2 hx hW2=>by
   have hW:=hW.trans (hW2.mono hW.size)
   exact(fun W (hW:Below w.heap.size w W)=>tru78_any x W hx) W2 hW))
 clear hT hr
 obtain⟨C,rfl⟩:∃C,v= .agg C:=by obtain⟨_,_,_,e,_⟩:=hv;exact⟨_,e⟩
 have HO:=Lib.hid hv.one
 clear hv
 go_enter Tryz.func31,Tryz.ntmps31
 go_wp2_with (first|refine wpList_alloc34 rfl rfl ?_|refine wpList_load34 rfl rfl rfl ((World.vb_new w C).alloc _) HO.out.1 ?_)
 obtain⟨W,hW⟩:∃W,W=(w.alloc (.cells C 34)).alloc (.cells vz 34):=⟨_,rfl⟩
 rw[←hW]
 have hvy:World.vb W (w.heap.size+1) vz:=by rw[hW];exact World.vb_new' _ _ _ (by simp)
 have hB:Below w.heap.size w W:=by rw[hW];exact((Below.refl _ w).alloc (Nat.le_refl _) _).alloc (by simp) _
 have hz:w.heap.size+2≤W.heap.size:=by rw[hW];simp
 clear hW
 refine(HE.out _ hB hB.size).mono ?_
 rintro e2 w2 ⟨L,rfl,hown,hB2⟩
 have hvy:=hvy.below hB2 hvy.lt
 have hB:=hB.trans (hB2.mono hB.size)
 have HO':=Lib.hid (vr_one (r:=r) (c:=c) hown)
 clear hB2
 obtain⟨C',hC'⟩:∃C',vcs (arrV r c (l.map truT)) L nilS nilS=C':=⟨_,rfl⟩
 rw[hC']at HO'⊢
 have HC':=Lib.hid hC'
 clear hC'
 go_wp2_with (refine wpList_store34 rfl rfl rfl rfl hvy (by rfl) HO'.out ?_;intro w9 hn9 hg9 hz9)
 refine bodyPost_ret (results_cell_row rfl _ _ _ 34 _ (0,0) _ rfl hn9 Tryz.underlying34 rfl (by rw[HO'.out.1];exact info34)) rfl ?_
 exact⟨L,by rw[←HC'.out],(hown.grown hg9 (by omega)).mono (by omega),hB.grown hg9 hB.size (fun k9 hk9=>by cases hk9;omega)⟩
end Go.Proofs.YtkhohjdakcchdaaGreatDoor
