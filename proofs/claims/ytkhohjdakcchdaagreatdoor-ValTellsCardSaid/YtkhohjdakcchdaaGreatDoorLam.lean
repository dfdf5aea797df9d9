/- A function that holds values. (By genLam.py.) -/
import Derived.Test.YtkhohjdakcchdaaGreatDoorBb
import Derived.Test.YtkhohjdakcchdaaGreatDoorOdd
namespace Go.Proofs.YtkhohjdakcchdaaGreatDoor
open Go Go.RowKit Go.Shelf
theorem build71 (w:World):(Instr.build 71 #[(0,.int .i64 7)]).run Tryz.prog w= .ok (.agg insC) w:=by kernel_rfl
theorem build_lam (p p':Option Addr) (a b c d:Nat) (w:World):(Instr.build 34 #[(0,.int .i64 6),(2,.string ⟨#[97]⟩),(9,.agg #[.slice p a b,.slice p' c d])]).run Tryz.prog w= .ok (.agg (vcs {k:=6,s:=⟨#[97]⟩} nilS (.slice p a b) (.slice p' c d))) w:=by kernel_rfl
theorem blk_new' (w:World) (cs:Array Value) (t n:Nat) (hn:n=w.heap.size):World.blk (w.alloc (.cells cs t)) n t cs:=by subst hn;exact blk_new _ _ _
theorem rp_lam {w:World} {l:List Vl} {L:Value} {gI gB gP:Nat} (hl:VsAt (Rp w w.heap.size 2) w w.heap.size L l) (kI:World.blk w gI 71 insC) (kB:World.blk w gB 72 #[.slice (some ⟨gI,0,none⟩) 1 1]) (kP:World.blk w gP 9 #[.string ⟨#[]⟩]):
 Rp w w.heap.size 3 {k:=6,s:=⟨#[97]⟩,bl:= [true],ps:= [⟨#[]⟩],l:=l} (.agg (vcs {k:=6,s:=⟨#[97]⟩} L (.slice (some ⟨gB,0,none⟩) 1 1) (.slice (some ⟨gP,0,none⟩) 1 1))):=by
 refine⟨L,_,_,rfl,⟨(show i64R 6 from i64_one (by decide) (by decide)),i64_zero,i64_zero,(show(⟨#[97]⟩:ByteArray).size≤1000 by decide),i64_zero,i64_zero,i64_zero,i64_zero⟩,hl,⟨_,1,rfl,Nat.le_refl _,by unfold maxLen;omega,(show [true].length≤100 by decide),fun i b hi=> ?_⟩,⟨_,1,rfl,Nat.le_refl _,by unfold maxLen;omega,(show [(⟨#[]⟩:ByteArray)].length≤100 by decide),fun i t hi=> ?_⟩,fun h=>absurd rfl h⟩
 ·match i,hi with
  |0,hi=>
   injection hi with hi
   subst hi
   exact⟨gB,0,_,rfl,kB.lt,by
    unfold InAt
    rw[if_pos rfl]
    exact⟨gI,0,1,rfl,Nat.le_refl _,by unfold maxLen;omega,kI.lt,kI.cell0⟩,kB.cell (j:=0) rfl⟩
 ·match i,hi with
  |0,hi=>
   injection hi with hi
   subst hi
   exact⟨by decide,gP,0,rfl,kP.lt,kP.cell (j:=0) rfl⟩
theorem take_map {zs:List Rw} {K:Nat} {z:Rw} (h:zs[K]? =some z):(zs.take (K+1)).map Rw.v=(zs.take K).map Rw.v++ [z.v]:=by
 rw[List.take_add_one,h];simp
set_option maxRecDepth 100000 in
set_option maxHeartbeats 16000000 in
theorem lam16 (v:Value) (zs:List Rw) (w:World) (hr:RawsAt w w.heap.size v zs):Calls Tryz.prog 16 #[v] w (HandsR w):=by
 have HB71:=Lib.hid build71
 have HBL:=Lib.hid build_lam
 go_enter Tryz.func16,Tryz.ntmps16
 go_upto_region 2 with (first|refine wpList_alloc34 rfl rfl ?_|(refine wpList_store34 (cs':=vcs {k:=6,s:=⟨#[97]⟩} nilS (.slice (some ⟨w.heap.size+1+1,0,none⟩) 1 1) (.slice (some ⟨w.heap.size+1+1+1,0,none⟩) 1 1)) rfl rfl rfl (by rfl) (World.vb_new' _ _ _ (by simp)) (by rfl) (vcs_one _ _ _ _ _ _ _ _ _ _) ?_;intro w1 hvo hg1 hz1))
 obtain⟨g3,hg3⟩:∃g,g=((((w.alloc (.cells vz 34)).alloc (.cells #[.int .i64 7,.int .i64 0,.int .i64 0,.string ⟨#[]⟩,.int .i64 0,.int .i64 0,.string ⟨#[]⟩,.int .i64 0,.int .i64 0,.bool false,.bool false,.bool false,.string ⟨#[]⟩,.int .i64 0,.int .i64 0,.bool false,.bool false,.bool false] 71)).alloc (.cells #[.slice (some ⟨w.heap.size+1,0,none⟩) 1 1] 72)).alloc (.cells #[.string ⟨#[]⟩] 9)).heap.size:=⟨_,rfl⟩
 rw[←hg3]at hvo hg1⊢
 replace hg3:g3=w.heap.size+4:=by rw[hg3];simp
 have kI:=((((blk_new' (w.alloc (.cells vz 34)) insC 71 (w.heap.size+1) (by simp)).alloc (.cells #[.slice (some ⟨w.heap.size+1,0,none⟩) 1 1] 72)).alloc (.cells #[.string ⟨#[]⟩] 9)).alloc (.cells vz 34)).grown hg1 (by intro e9;injection e9 with e9;omega)
 have kB:=(((blk_new' ((w.alloc (.cells vz 34)).alloc (.cells insC 71)) #[.slice (some ⟨w.heap.size+1,0,none⟩) 1 1] 72 (w.heap.size+1+1) (by simp)).alloc (.cells #[.string ⟨#[]⟩] 9)).alloc (.cells vz 34)).grown hg1 (by intro e9;injection e9 with e9;omega)
 have kP:=((blk_new' (((w.alloc (.cells vz 34)).alloc (.cells insC 71)).alloc (.cells #[.slice (some ⟨w.heap.size+1,0,none⟩) 1 1] 72)) #[.string ⟨#[]⟩] 9 (w.heap.size+1+1+1) (by simp)).alloc (.cells vz 34)).grown hg1 (by intro e9;injection e9 with e9;omega)
 have hn2:=(((((World.vb_new w vz).alloc (.cells insC 71)).alloc (.cells #[.slice (some ⟨w.heap.size+1,0,none⟩) 1 1] 72)).alloc (.cells #[.string ⟨#[]⟩] 9)).alloc (.cells vz 34)).grown hg1 (by intro e9;injection e9 with e9;omega)
 have hBW:Below w.heap.size w w1:=((((((Below.refl _ w).alloc (Nat.le_refl _) (.cells vz 34)).alloc (by simp) (.cells insC 71)).alloc (by simp;omega) (.cells #[.slice (some ⟨w.heap.size+1,0,none⟩) 1 1] 72)).alloc (by simp;omega) (.cells #[.string ⟨#[]⟩] 9)).alloc (by simp;omega) (.cells vz 34)).grown hg1 (by simp;omega) (fun k9 hk9=>by cases hk9;omega)
 obtain⟨gI,hgI⟩:∃g,g=w.heap.size+1:=⟨_,rfl⟩
 obtain⟨gB,hgB⟩:∃g,g=w.heap.size+1+1:=⟨_,rfl⟩
 obtain⟨gP,hgP⟩:∃g,g=w.heap.size+1+1+1:=⟨_,rfl⟩
 obtain⟨b2,hb2⟩:∃g,g=w.heap.size:=⟨_,rfl⟩
 rw[←hgP]at kP hvo
 rw[←hgB]at kB hvo
 rw[←hgI]at kI kB
 obtain⟨w0,hw0⟩:∃w0,w0=w1:=⟨_,rfl⟩
 have HBw:Hid (b2<gI∧gI<gB∧gB<gP∧gP<g3∧b2=w.heap.size):=Lib.hid (by omega)
 have HR:=Lib.hid hr
 have hlen:=len_raws hr
 have hB0:Below g3 w0 w1:=by rw[hw0];exact Below.refl _ _
 have hbz:g3≤w0.heap.size:=by rw[hw0];exact Nat.le_of_lt hvo.lt
 have kI0:World.blk w0 gI 71 insC:=by rw[hw0];exact kI
 have kB0:World.blk w0 gB 72 #[.slice (some ⟨gI,0,none⟩) 1 1]:=by rw[hw0];exact kB
 have kP0:World.blk w0 gP 9 #[.string ⟨#[]⟩]:=by rw[hw0];exact kP
 have hn20:World.vb w0 b2 vz:=by rw[hw0,hb2];exact hn2
 have hBW0:Below w.heap.size w w0:=by rw[hw0];exact hBW
 have hv3:World.vr w1 (g3+1) nilS []:=World.vr_nil
 rw[←hgP,←hgB,←hgI,←hb2]
 clear hg1 hz1 hg3 kI kB kP hn2 hBW hgI hgB hgP hr hw0 HB71 HBL
 clear hb2
 go_wp2_with fail
 go_loopw [4] (fun i wr=>∃(K:Nat) (sv:Value),K≤zs.length∧K≤3∧i= .int .i64 (K:Int)∧Below g3 w0 wr∧World.vb wr g3 (vcs {k:=6,s:=⟨#[97]⟩} sv (.slice (some ⟨gB,0,none⟩) 1 1) (.slice (some ⟨gP,0,none⟩) 1 1))∧World.vr wr (g3+1) sv ((zs.take K).map Rw.v)∧(K=0→sv=nilS)) (fun i _=>3-(intOf i).toNat)
 case atStart=>exact⟨0,nilS,Nat.zero_le _,Nat.zero_le _,rfl,hB0,hvo,hv3,fun _=>rfl⟩
 case round=>
  obtain⟨K,sv,hK,hK3,rfl,hB,hvo,hown,hnil⟩:=hrel
  by_cases hex:K<zs.length∧K<3
  ·obtain⟨hlt,hl3⟩:=hex
   have hKI:(K:Int)<(zs.length:Int):=by omega
   have hK3I:(K:Int)<3:=by omega
   obtain⟨z,hz⟩:∃z,zs[K]? =some z:=⟨_,List.getElem?_eq_getElem hlt⟩
   obtain⟨p,cp,hv,_,H⟩:=HR.out
   obtain⟨hok,g0,off,hp,hg0,hcz⟩:=H K z hz
   subst hp
   have HBo:=HBw.out
   have HSRC:=Lib.hid (show ∀W,Below g3 w0 W→∀j u,z.c[j]? =some u→W.cell? ⟨g0,off+K*5+j,none⟩=some u from fun W hW j u hj=>(hW.cell (p:=⟨g0,_,none⟩) (show g0<g3 by omega)).trans ((hBW0.cell (p:=⟨g0,_,none⟩) hg0).trans (hcz j u hj)))
   clear HBo
   have HTK:=Lib.hid (take_map hz)
   have HX:=Lib.hid (show ∀W,Calls Tryz.prog 12 #[.agg z.c] W (Gives (.agg (pcs z.v)) W)from fun W=>val12p hok)
   have HLen:Hid (((zs.take K).map Rw.v).length≤2000):=Lib.hid (by rw[List.length_map,List.length_take];omega)
   obtain⟨RC,hRC⟩:∃RC,z.c=RC:=⟨_,rfl⟩
   have HRC:Hid (RC.size=5):=Lib.hid (by rw[←hRC];rfl)
   rw[hRC]at HSRC HX
   obtain⟨y,hy⟩:∃y,z.v=y:=⟨_,rfl⟩
   rw[hy]at HX HTK
   generalize (zs.take K).map Rw.v=lk at hown HTK HLen
   obtain⟨Co,hCo⟩:∃Co,vcs {k:=6,s:=⟨#[97]⟩} sv (.slice (some ⟨gB,0,none⟩) 1 1) (.slice (some ⟨gP,0,none⟩) 1 1)=Co:=⟨_,rfl⟩
   have XO8:Hid (Co[8]? =some sv):=Lib.hid (by rw[←hCo];rfl)
   have HCo:=Lib.hid hCo
   rw[hCo]at hvo
   clear hz H hok hcz hRC hy hCo hnil
   subst hv
   clear hlen
   go_upto_region 5 with fail
   refine wp_region_held_drew (S:=fun w9=>∀j u,RC[j]? =some u→w9.cell? ⟨g0,off+K*5+j,none⟩=some u) (by kernel_rfl) (HSRC.out _ hB.drew) (fun hHeld=> ?_)
   have hvo:=hvo.drew
   have hown:=hown.drew
   have hB:=hB.drew
   refine tk 0 ⟨some 21,_,_,_,_,_⟩ ?_ hHeld ?_ ?_
   rotate_left
   ·(intro w9 hSw;(try dsimp only at hSw);go_simp)
    all_goals with_reducible rfl
   try simp only[Act.put,pk1,pk2,pk3]
   refine tk 2 ⟨some 23,_,_,_,_,_⟩ ?_ hHeld ?_ ?_
   rotate_left
   ·(intro w9 hSw;(try dsimp only at hSw);go_simp)
    all_goals with_reducible rfl
   try simp only[Act.put,pk1,pk2,pk3]
   refine tk 3 ⟨some 24,_,_,_,_,_⟩ ?_ hHeld ?_ ?_
   rotate_left
   ·(intro w9 hSw;(try dsimp only at hSw);go_simp)
    all_goals with_reducible rfl
   try simp only[Act.put,pk1,pk2,pk3]
   refine tk 4 ⟨some 25,_,_,_,_,_⟩ ?_ hHeld ?_ ?_
   rotate_left
   ·(intro w9 hSw;(try dsimp only at hSw);go_simp)
    all_goals with_reducible rfl
   try simp only[Act.put,pk1,pk2,pk3]
   refine tk 5 ⟨some 26,_,_,_,_,_⟩ ?_ hHeld ?_ ?_
   rotate_left
   ·(intro w9 hSw;refine yields25 (x:= .tmp 25) (g:=g0) (off:=off+K*5) (cs:=RC) ?_ ?_ HRC.out hSw<;>rfl)
   try simp only[Act.put,pk1,pk2,pk3]
   refine wpAnyH_ready (rs:= [1,6]) (by kernel_rfl) (by simp) ?_
   refine(AllReadyH.cons (o:=⟨some 22,_,_,_,_,_⟩) rfl (fun KK hK=> ?_) (AllReadyH.cons (o:=⟨some 27,_,_,_,_,_⟩) rfl (fun KK hK=> ?_) AllReadyH.nil))
   ·(try rw[if_pos (by rfl)])
    have c8:=hvo.cell XO8.out
    go_simp
    clear c8
    refine hK.out _ _ (HSRC.out _ hB) ?_
    clear hK KK hHeld
    intro hHeld
    try simp only[Act.put,pk1,pk2,pk3]
    refine wpAnyH_ready (rs:= [6]) (by kernel_rfl) (by simp) ?_
    refine(AllReadyH.cons (o:=⟨some 27,_,_,_,_,_⟩) rfl (fun KK hK=> ?_) AllReadyH.nil)
    ·(try rw[if_pos (by rfl)])
     go_simp
     refine(HX.out _).mono ?_
     rintro e2 w2 ⟨rfl,hB2⟩
     have hvo:=hvo.below hB2 hvo.lt
     have hown:=hown.below hB2
     have hB:=hB.trans (hB2.mono (Nat.le_trans hbz hB.size))
     clear hB2
     refine hK.out _ _ (HSRC.out _ hB) ?_
     clear hK KK hHeld
     intro hHeld
     try simp only[Act.put,pk1,pk2,pk3]
     refine wpAnyH_ready (rs:= [7]) (by kernel_rfl) (by simp) ?_
     refine(AllReadyH.cons (o:=⟨some 28,_,_,_,_,_⟩) rfl (fun KK hK=> ?_) AllReadyH.nil)
     ·(try rw[if_pos (by rfl)])
      obtain⟨gn,hgn⟩:∃gn,gn=w2.heap.size:=⟨_,rfl⟩
      refine op_bslice34 (y:=y) rfl (by rfl) ?_
      obtain⟨w3,hw3⟩:∃w3,w3=w2.alloc (.cells (pcs y) 34):=⟨_,rfl⟩
      rw[←hw3,←hgn]
      have hvn:World.vb w3 gn (pcs y):=by rw[hw3,hgn];exact World.vb_new _ _
      have hvo:World.vb w3 g3 Co:=by rw[hw3];exact hvo.alloc _
      have hown:World.vr w3 (g3+1) sv lk:=by rw[hw3];exact hown.alloc _
      have hB:Below g3 w0 w3:=by rw[hw3];exact hB.alloc (Nat.le_trans hbz hB.size) _
      have hgb:g3+1≤w3.heap.size:=hvo.lt
      clear hw3 hgn
      refine hK.out _ _ (HSRC.out _ hB) ?_
      clear hK KK hHeld
      intro hHeld
      try simp only[Act.put,pk1,pk2,pk3]
      refine wpAnyH_ready (rs:= [8]) (by kernel_rfl) (by simp) ?_
      refine(AllReadyH.cons (o:=⟨some 29,_,_,_,_,_⟩) rfl (fun KK hK=> ?_) AllReadyH.nil)
      ·(try rw[if_pos (by rfl)])
       have HS:=World.ownsRow.lt hown
       refine op_pushv _ _ rfl (g3+1) sv lk y gn hown HLen.out (by rfl) (by rfl) hvn hgb ?_
       intro v4 w4 hown4 hg4
       obtain⟨pv,nv,cv,rfl⟩:=hown4.shape2
       have hvo:=hvo.grown hg4 (fun e=>by have:=HS _ e.symm;omega)
       have hB:=hB.grown hg4 (Nat.le_trans hbz hB.size) (fun k9 hk9=>by have:=HS _ hk9;omega)
       clear hown hvn hg4 HS
       refine hK.out _ _ (HSRC.out _ hB) ?_
       clear hK KK hHeld
       intro hHeld
       try simp only[Act.put,pk1,pk2,pk3]
       refine tk 9 ⟨some 30,_,_,_,_,_⟩ ?_ hHeld ?_ ?_
       rotate_left
       ·(intro w9 hSw;(try dsimp only at hSw);go_simp)
        all_goals with_reducible rfl
       try simp only[Act.put,pk1,pk2,pk3]
       refine wpAnyH_ready (rs:= [10]) (by kernel_rfl) (by simp) ?_
       refine(AllReadyH.cons (o:=⟨none,_,_,_,_,_⟩) rfl (fun KK hK=> ?_) AllReadyH.nil)
       ·(try rw[if_pos (by rfl)])
        have c8:=hvo.cell XO8.out
        have f8:=hvo.frozen 8
        go_simp
        clear c8 f8
        refine hK.out _ _ (HSRC.out (w4.setCell ⟨g3,8,none⟩ (.slice pv nv cv)) (hB.setCell (Nat.le_refl _) _)) ?_
        clear hK KK hHeld
        intro hHeld
        try simp only[Act.put,pk1,pk2,pk3]
        refine wpAnyH_done (by kernel_rfl) ?_ _
        try simp only[Act.put,pk1,pk2,pk3]
        obtain⟨w5,hw5⟩:∃w5,w5=w4.setCell ⟨g3,8,none⟩ (.slice pv nv cv):=⟨_,rfl⟩
        rw[←hw5]
        have hvo5:World.vb w5 g3 (vcs {k:=6,s:=⟨#[97]⟩} (.slice pv nv cv) (.slice (some ⟨gB,0,none⟩) 1 1) (.slice (some ⟨gP,0,none⟩) 1 1)):=by
         rw[hw5]
         have:=hvo.set 8 (.slice pv nv cv)
         rw[←HCo.out]at this
         exact this
        have hown5:World.vr w5 (g3+1) (.slice pv nv cv) ((zs.take (K+1)).map Rw.v):=by
         rw[HTK.out,hw5]
         exact hown4.grown (g:=g3) (grownBy_setCell _ _ _) (Nat.lt_succ_self _)
        have hB5:Below g3 w0 w5:=by rw[hw5];exact hB.setCell (Nat.le_refl _) _
        clear hw5 hvo hown4 hB
        go_wp2_with fail
        go_roundw
        case rel=>exact⟨K+1,_,by omega,by omega,by go_num,hB5,hvo5,hown5,fun h=>absurd h (by omega)⟩
        case measure=>simp[intOf];omega
   ·(try rw[if_pos (by rfl)])
    go_simp
    refine(HX.out _).mono ?_
    rintro e2 w2 ⟨rfl,hB2⟩
    have hvo:=hvo.below hB2 hvo.lt
    have hown:=hown.below hB2
    have hB:=hB.trans (hB2.mono (Nat.le_trans hbz hB.size))
    clear hB2
    refine hK.out _ _ (HSRC.out _ hB) ?_
    clear hK KK hHeld
    intro hHeld
    try simp only[Act.put,pk1,pk2,pk3]
    refine wpAnyH_ready (rs:= [1,7]) (by kernel_rfl) (by simp) ?_
    refine(AllReadyH.cons (o:=⟨some 22,_,_,_,_,_⟩) rfl (fun KK hK=> ?_) (AllReadyH.cons (o:=⟨some 28,_,_,_,_,_⟩) rfl (fun KK hK=> ?_) AllReadyH.nil))
    ·(try rw[if_pos (by rfl)])
     have c8:=hvo.cell XO8.out
     go_simp
     clear c8
     refine hK.out _ _ (HSRC.out _ hB) ?_
     clear hK KK hHeld
     intro hHeld
     try simp only[Act.put,pk1,pk2,pk3]
     refine wpAnyH_ready (rs:= [7]) (by kernel_rfl) (by simp) ?_
     refine(AllReadyH.cons (o:=⟨some 28,_,_,_,_,_⟩) rfl (fun KK hK=> ?_) AllReadyH.nil)
     ·(try rw[if_pos (by rfl)])
      obtain⟨gn,hgn⟩:∃gn,gn=w2.heap.size:=⟨_,rfl⟩
      refine op_bslice34 (y:=y) rfl (by rfl) ?_
      obtain⟨w3,hw3⟩:∃w3,w3=w2.alloc (.cells (pcs y) 34):=⟨_,rfl⟩
      rw[←hw3,←hgn]
      have hvn:World.vb w3 gn (pcs y):=by rw[hw3,hgn];exact World.vb_new _ _
      have hvo:World.vb w3 g3 Co:=by rw[hw3];exact hvo.alloc _
      have hown:World.vr w3 (g3+1) sv lk:=by rw[hw3];exact hown.alloc _
      have hB:Below g3 w0 w3:=by rw[hw3];exact hB.alloc (Nat.le_trans hbz hB.size) _
      have hgb:g3+1≤w3.heap.size:=hvo.lt
      clear hw3 hgn
      refine hK.out _ _ (HSRC.out _ hB) ?_
      clear hK KK hHeld
      intro hHeld
      try simp only[Act.put,pk1,pk2,pk3]
      refine wpAnyH_ready (rs:= [8]) (by kernel_rfl) (by simp) ?_
      refine(AllReadyH.cons (o:=⟨some 29,_,_,_,_,_⟩) rfl (fun KK hK=> ?_) AllReadyH.nil)
      ·(try rw[if_pos (by rfl)])
       have HS:=World.ownsRow.lt hown
       refine op_pushv _ _ rfl (g3+1) sv lk y gn hown HLen.out (by rfl) (by rfl) hvn hgb ?_
       intro v4 w4 hown4 hg4
       obtain⟨pv,nv,cv,rfl⟩:=hown4.shape2
       have hvo:=hvo.grown hg4 (fun e=>by have:=HS _ e.symm;omega)
       have hB:=hB.grown hg4 (Nat.le_trans hbz hB.size) (fun k9 hk9=>by have:=HS _ hk9;omega)
       clear hown hvn hg4 HS
       refine hK.out _ _ (HSRC.out _ hB) ?_
       clear hK KK hHeld
       intro hHeld
       try simp only[Act.put,pk1,pk2,pk3]
       refine tk 9 ⟨some 30,_,_,_,_,_⟩ ?_ hHeld ?_ ?_
       rotate_left
       ·(intro w9 hSw;(try dsimp only at hSw);go_simp)
        all_goals with_reducible rfl
       try simp only[Act.put,pk1,pk2,pk3]
       refine wpAnyH_ready (rs:= [10]) (by kernel_rfl) (by simp) ?_
       refine(AllReadyH.cons (o:=⟨none,_,_,_,_,_⟩) rfl (fun KK hK=> ?_) AllReadyH.nil)
       ·(try rw[if_pos (by rfl)])
        have c8:=hvo.cell XO8.out
        have f8:=hvo.frozen 8
        go_simp
        clear c8 f8
        refine hK.out _ _ (HSRC.out (w4.setCell ⟨g3,8,none⟩ (.slice pv nv cv)) (hB.setCell (Nat.le_refl _) _)) ?_
        clear hK KK hHeld
        intro hHeld
        try simp only[Act.put,pk1,pk2,pk3]
        refine wpAnyH_done (by kernel_rfl) ?_ _
        try simp only[Act.put,pk1,pk2,pk3]
        obtain⟨w5,hw5⟩:∃w5,w5=w4.setCell ⟨g3,8,none⟩ (.slice pv nv cv):=⟨_,rfl⟩
        rw[←hw5]
        have hvo5:World.vb w5 g3 (vcs {k:=6,s:=⟨#[97]⟩} (.slice pv nv cv) (.slice (some ⟨gB,0,none⟩) 1 1) (.slice (some ⟨gP,0,none⟩) 1 1)):=by
         rw[hw5]
         have:=hvo.set 8 (.slice pv nv cv)
         rw[←HCo.out]at this
         exact this
        have hown5:World.vr w5 (g3+1) (.slice pv nv cv) ((zs.take (K+1)).map Rw.v):=by
         rw[HTK.out,hw5]
         exact hown4.grown (g:=g3) (grownBy_setCell _ _ _) (Nat.lt_succ_self _)
        have hB5:Below g3 w0 w5:=by rw[hw5];exact hB.setCell (Nat.le_refl _) _
        clear hw5 hvo hown4 hB
        go_wp2_with fail
        go_roundw
        case rel=>exact⟨K+1,_,by omega,by omega,by go_num,hB5,hvo5,hown5,fun h=>absurd h (by omega)⟩
        case measure=>simp[intOf];omega
    ·(try rw[if_pos (by rfl)])
     obtain⟨gn,hgn⟩:∃gn,gn=w2.heap.size:=⟨_,rfl⟩
     refine op_bslice34 (y:=y) rfl (by rfl) ?_
     obtain⟨w3,hw3⟩:∃w3,w3=w2.alloc (.cells (pcs y) 34):=⟨_,rfl⟩
     rw[←hw3,←hgn]
     have hvn:World.vb w3 gn (pcs y):=by rw[hw3,hgn];exact World.vb_new _ _
     have hvo:World.vb w3 g3 Co:=by rw[hw3];exact hvo.alloc _
     have hown:World.vr w3 (g3+1) sv lk:=by rw[hw3];exact hown.alloc _
     have hB:Below g3 w0 w3:=by rw[hw3];exact hB.alloc (Nat.le_trans hbz hB.size) _
     have hgb:g3+1≤w3.heap.size:=hvo.lt
     clear hw3 hgn
     refine hK.out _ _ (HSRC.out _ hB) ?_
     clear hK KK hHeld
     intro hHeld
     try simp only[Act.put,pk1,pk2,pk3]
     refine wpAnyH_ready (rs:= [1]) (by kernel_rfl) (by simp) ?_
     refine(AllReadyH.cons (o:=⟨some 22,_,_,_,_,_⟩) rfl (fun KK hK=> ?_) AllReadyH.nil)
     ·(try rw[if_pos (by rfl)])
      have c8:=hvo.cell XO8.out
      go_simp
      clear c8
      refine hK.out _ _ (HSRC.out _ hB) ?_
      clear hK KK hHeld
      intro hHeld
      try simp only[Act.put,pk1,pk2,pk3]
      refine wpAnyH_ready (rs:= [8]) (by kernel_rfl) (by simp) ?_
      refine(AllReadyH.cons (o:=⟨some 29,_,_,_,_,_⟩) rfl (fun KK hK=> ?_) AllReadyH.nil)
      ·(try rw[if_pos (by rfl)])
       have HS:=World.ownsRow.lt hown
       refine op_pushv _ _ rfl (g3+1) sv lk y gn hown HLen.out (by rfl) (by rfl) hvn hgb ?_
       intro v4 w4 hown4 hg4
       obtain⟨pv,nv,cv,rfl⟩:=hown4.shape2
       have hvo:=hvo.grown hg4 (fun e=>by have:=HS _ e.symm;omega)
       have hB:=hB.grown hg4 (Nat.le_trans hbz hB.size) (fun k9 hk9=>by have:=HS _ hk9;omega)
       clear hown hvn hg4 HS
       refine hK.out _ _ (HSRC.out _ hB) ?_
       clear hK KK hHeld
       intro hHeld
       try simp only[Act.put,pk1,pk2,pk3]
       refine tk 9 ⟨some 30,_,_,_,_,_⟩ ?_ hHeld ?_ ?_
       rotate_left
       ·(intro w9 hSw;(try dsimp only at hSw);go_simp)
        all_goals with_reducible rfl
       try simp only[Act.put,pk1,pk2,pk3]
       refine wpAnyH_ready (rs:= [10]) (by kernel_rfl) (by simp) ?_
       refine(AllReadyH.cons (o:=⟨none,_,_,_,_,_⟩) rfl (fun KK hK=> ?_) AllReadyH.nil)
       ·(try rw[if_pos (by rfl)])
        have c8:=hvo.cell XO8.out
        have f8:=hvo.frozen 8
        go_simp
        clear c8 f8
        refine hK.out _ _ (HSRC.out (w4.setCell ⟨g3,8,none⟩ (.slice pv nv cv)) (hB.setCell (Nat.le_refl _) _)) ?_
        clear hK KK hHeld
        intro hHeld
        try simp only[Act.put,pk1,pk2,pk3]
        refine wpAnyH_done (by kernel_rfl) ?_ _
        try simp only[Act.put,pk1,pk2,pk3]
        obtain⟨w5,hw5⟩:∃w5,w5=w4.setCell ⟨g3,8,none⟩ (.slice pv nv cv):=⟨_,rfl⟩
        rw[←hw5]
        have hvo5:World.vb w5 g3 (vcs {k:=6,s:=⟨#[97]⟩} (.slice pv nv cv) (.slice (some ⟨gB,0,none⟩) 1 1) (.slice (some ⟨gP,0,none⟩) 1 1)):=by
         rw[hw5]
         have:=hvo.set 8 (.slice pv nv cv)
         rw[←HCo.out]at this
         exact this
        have hown5:World.vr w5 (g3+1) (.slice pv nv cv) ((zs.take (K+1)).map Rw.v):=by
         rw[HTK.out,hw5]
         exact hown4.grown (g:=g3) (grownBy_setCell _ _ _) (Nat.lt_succ_self _)
        have hB5:Below g3 w0 w5:=by rw[hw5];exact hB.setCell (Nat.le_refl _) _
        clear hw5 hvo hown4 hB
        go_wp2_with fail
        go_roundw
        case rel=>exact⟨K+1,_,by omega,by omega,by go_num,hB5,hvo5,hown5,fun h=>absurd h (by omega)⟩
        case measure=>simp[intOf];omega
  ·obtain⟨p,n,cc,rfl⟩:=hown.shape2
   have HPL:Hid (∀x∈(zs.take K).map Rw.v,plainV x=true):=Lib.hid fun x hx=>by
    obtain⟨z,_,rfl⟩:=List.mem_map.1 hx
    exact valP_plain _ _ _ _ _
   have HLN:Hid (((zs.take K).map Rw.v).length≤1000):=Lib.hid (by rw[List.length_map,List.length_take];omega)
   have HNE:Hid ((zs.take K).map Rw.v= []→ .slice p n cc=nilS):=Lib.hid fun e=>hnil (by
    have:=congrArg List.length e
    rw[List.length_map,List.length_take,List.length_nil]at this
    omega)
   generalize (zs.take K).map Rw.v=lk at hown HPL HLN HNE
   have HBo:=HBw.out
   have hn2:=hn20.below hB (show b2<g3 by omega)
   have kI:=kI0.below hB (show gI<g3 by omega)
   have kB:=kB0.below hB (show gB<g3 by omega)
   have kP:=kP0.below hB (show gP<g3 by omega)
   have hBB:=hBW0.trans (hB.mono (show w.heap.size≤g3 by omega))
   obtain⟨pp,cp,hv,_,_⟩:=HR.out
   subst hv
   clear hnil HBo hlen
   by_cases hlt:K<zs.length
   ·have h3:K=3:=by omega
    subst h3
    have hKI:((3:Nat):Int)<(zs.length:Int):=by omega
    clear hex
    go_wp2_with (first|refine wpList_load34 rfl rfl rfl hvo rfl ?_|(refine wpList_store34 rfl rfl rfl (by rfl) hn2 (by rfl) (vcs_one _ _ _ _ _ _ _ _ _ _) ?_;intro w9 hn9 hg9 hz9))
    refine bodyPost_ret (results_cell_row rfl _ _ _ 34 _ (0,0) _ rfl hn9 Tryz.underlying34 rfl info34) rfl ?_
    have HBo:=HBw.out
    have kI:=kI.grown hg9 (by intro e9;injection e9 with e9;omega)
    have kB:=kB.grown hg9 (by intro e9;injection e9 with e9;omega)
    have kP:=kP.grown hg9 (by intro e9;injection e9 with e9;omega)
    have hown:=hown.grown hg9 (by omega)
    exact⟨{k:=6,s:=⟨#[97]⟩,bl:= [true],ps:= [⟨#[]⟩],l:=lk},_,rfl,rp_lam (hown.vsAt HPL.out HLN.out (Nat.le_refl _) HNE.out) kI kB kP,hBB.grown hg9 hBB.size (fun k9 hk9=>by cases hk9;omega)⟩
   ·have hKI:¬(K:Int)<(zs.length:Int):=by omega
    clear hex
    go_wp2_with (first|refine wpList_load34 rfl rfl rfl hvo rfl ?_|(refine wpList_store34 rfl rfl rfl (by rfl) hn2 (by rfl) (vcs_one _ _ _ _ _ _ _ _ _ _) ?_;intro w9 hn9 hg9 hz9))
    refine bodyPost_ret (results_cell_row rfl _ _ _ 34 _ (0,0) _ rfl hn9 Tryz.underlying34 rfl info34) rfl ?_
    have HBo:=HBw.out
    have kI:=kI.grown hg9 (by intro e9;injection e9 with e9;omega)
    have kB:=kB.grown hg9 (by intro e9;injection e9 with e9;omega)
    have kP:=kP.grown hg9 (by intro e9;injection e9 with e9;omega)
    have hown:=hown.grown hg9 (by omega)
    exact⟨{k:=6,s:=⟨#[97]⟩,bl:= [true],ps:= [⟨#[]⟩],l:=lk},_,rfl,rp_lam (hown.vsAt HPL.out HLN.out (Nat.le_refl _) HNE.out) kI kB kP,hBB.grown hg9 hBB.size (fun k9 hk9=>by cases hk9;omega)⟩
end Go.Proofs.YtkhohjdakcchdaaGreatDoor
