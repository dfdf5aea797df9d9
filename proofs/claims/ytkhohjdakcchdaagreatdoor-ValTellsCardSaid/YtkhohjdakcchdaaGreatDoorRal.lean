/- tabularef03.as, all, ToNum, ToText, ToBool at any value. (By genRal.py.) -/
import Derived.Test.YtkhohjdakcchdaaGreatDoorBb
import Derived.Test.YtkhohjdakcchdaaGreatDoorRnt
import Derived.Test.YtkhohjdakcchdaaGreatDoorBq
import Derived.Test.YtkhohjdakcchdaaGreatDoorThr
namespace Go.Proofs.YtkhohjdakcchdaaGreatDoor
open Go Go.RowKit Go.Shelf
set_option maxRecDepth 100000 in
set_option maxHeartbeats 4000000 in
theorem ras_0 (x:Vl) (w:World) (h:plainV x=true):Calls Tryz.prog 131 #[.agg (pcs x),.int .i64 0] w (Gives (.agg (pcs (numT x))) w):=by
 have HF:=Lib.hid (fun W=>rnum_any x W h)
 have HO:Hid (OneC (pcs x)):=Lib.hid (pcs_one _)
 generalize pcs x=CX at HF HO⊢
 generalize numT x=y at HF⊢
 clear h
 obtain⟨W,hW⟩:∃W,W=(w.alloc (.cells CX 34)).alloc (.cells vz 34):=⟨_,rfl⟩
 have hvx:World.vb W w.heap.size CX:=by rw[hW];exact(World.vb_new w _).alloc _
 have hvy:World.vb W (w.heap.size+1) vz:=by rw[hW];exact World.vb_new' _ _ _ (by simp)
 have hB:Below w.heap.size w W:=by rw[hW];exact((Below.refl _ w).alloc (Nat.le_refl _) _).alloc (by simp) _
 go_enter Tryz.func131,Tryz.ntmps131
 go_upto_region 1 with (refine wpList_alloc34 rfl rfl ?_)
 go_simp
 rw[←hW]
 clear hW
 go_wp2_with (refine wpList_load34 rfl rfl rfl hvx HO.out.1 ?_)
 refine(HF.out _).mono ?_
 rintro e3 w3 ⟨rfl,hB3⟩
 have hvy:=hvy.below hB3 hvy.lt
 have hB:=hB.trans (hB3.mono hB.size)
 clear hB3 hvx
 go_wp2_with (refine wpList_store34 rfl rfl rfl rfl hvy (by rfl) (pcs_one _) ?_;intro w9 hn9 hg9 hz9)
 refine bodyPost_ret (results_cell_row rfl _ _ _ 34 _ (0,0) _ rfl hn9 Tryz.underlying34 rfl info34) rfl ?_
 exact⟨rfl,hB.grown hg9 hB.size (fun k9 hk9=>by cases hk9;omega)⟩
set_option maxRecDepth 100000 in
set_option maxHeartbeats 4000000 in
theorem ras_1 (x:Vl) (w:World) (h:plainV x=true):Calls Tryz.prog 131 #[.agg (pcs x),.int .i64 1] w (Gives (.agg (pcs (txtT x))) w):=by
 have HF:=Lib.hid (fun W=>rtold_any x W h)
 have HO:Hid (OneC (pcs x)):=Lib.hid (pcs_one _)
 generalize pcs x=CX at HF HO⊢
 generalize txtT x=y at HF⊢
 clear h
 obtain⟨W,hW⟩:∃W,W=(w.alloc (.cells CX 34)).alloc (.cells vz 34):=⟨_,rfl⟩
 have hvx:World.vb W w.heap.size CX:=by rw[hW];exact(World.vb_new w _).alloc _
 have hvy:World.vb W (w.heap.size+1) vz:=by rw[hW];exact World.vb_new' _ _ _ (by simp)
 have hB:Below w.heap.size w W:=by rw[hW];exact((Below.refl _ w).alloc (Nat.le_refl _) _).alloc (by simp) _
 go_enter Tryz.func131,Tryz.ntmps131
 go_upto_region 1 with (refine wpList_alloc34 rfl rfl ?_)
 go_simp
 rw[←hW]
 clear hW
 go_wp2_with (refine wpList_load34 rfl rfl rfl hvx HO.out.1 ?_)
 refine(HF.out _).mono ?_
 rintro e3 w3 ⟨rfl,hB3⟩
 have hvy:=hvy.below hB3 hvy.lt
 have hB:=hB.trans (hB3.mono hB.size)
 clear hB3 hvx
 go_wp2_with (refine wpList_store34 rfl rfl rfl rfl hvy (by rfl) (pcs_one _) ?_;intro w9 hn9 hg9 hz9)
 refine bodyPost_ret (results_cell_row rfl _ _ _ 34 _ (0,0) _ rfl hn9 Tryz.underlying34 rfl info34) rfl ?_
 exact⟨rfl,hB.grown hg9 hB.size (fun k9 hk9=>by cases hk9;omega)⟩
set_option maxRecDepth 100000 in
set_option maxHeartbeats 4000000 in
theorem ras_2 (x:Vl) (w:World) (h:plainV x=true):Calls Tryz.prog 131 #[.agg (pcs x),.int .i64 2] w (Gives (.agg (pcs (truT x))) w):=by
 have HF:=Lib.hid (fun W=>ris_any x W h)
 have HO:Hid (OneC (pcs x)):=Lib.hid (pcs_one _)
 generalize pcs x=CX at HF HO⊢
 generalize truT x=y at HF⊢
 clear h
 obtain⟨W,hW⟩:∃W,W=(w.alloc (.cells CX 34)).alloc (.cells vz 34):=⟨_,rfl⟩
 have hvx:World.vb W w.heap.size CX:=by rw[hW];exact(World.vb_new w _).alloc _
 have hvy:World.vb W (w.heap.size+1) vz:=by rw[hW];exact World.vb_new' _ _ _ (by simp)
 have hB:Below w.heap.size w W:=by rw[hW];exact((Below.refl _ w).alloc (Nat.le_refl _) _).alloc (by simp) _
 go_enter Tryz.func131,Tryz.ntmps131
 go_upto_region 1 with (refine wpList_alloc34 rfl rfl ?_)
 go_simp
 rw[←hW]
 clear hW
 go_wp2_with (refine wpList_load34 rfl rfl rfl hvx HO.out.1 ?_)
 refine(HF.out _).mono ?_
 rintro e3 w3 ⟨rfl,hB3⟩
 have hvy:=hvy.below hB3 hvy.lt
 have hB:=hB.trans (hB3.mono hB.size)
 clear hB3 hvx
 go_wp2_with (refine wpList_store34 rfl rfl rfl rfl hvy (by rfl) (pcs_one _) ?_;intro w9 hn9 hg9 hz9)
 refine bodyPost_ret (results_cell_row rfl _ _ _ 34 _ (0,0) _ rfl hn9 Tryz.underlying34 rfl info34) rfl ?_
 exact⟨rfl,hB.grown hg9 hB.size (fun k9 hk9=>by cases hk9;omega)⟩
/-- A value is handed back: plain, or an array in new memory. -/
def HandsI (y:Vl) (w:World) (e:Ending) (w':World):Prop:=∃C,e= .returned (.agg C)∧In3 w' w.heap.size y C∧Below w.heap.size w w'
theorem handsI_plain {x:Vl} {w:World} (h:plainV x=true) {e:Ending} {w':World} (hg:Gives (.agg (pcs x)) w e w'):HandsI x w e w':=⟨_,hg.1,.inl ⟨h,rfl⟩,hg.2⟩
theorem handsI_arr {r c:Int} {l:List Vl} {w:World} (hr:rightV 1 (arrV r c l)=true) {e:Ending} {w':World} (hg:HandsA r c l w e w'):HandsI (arrV r c l) w e w':=by
 obtain⟨L,he,hv,hB⟩:=hg
 exact⟨_,he,.inr ⟨r,c,l,L,rfl,hr,rfl,hv⟩,hB⟩
theorem In3.mono {w:World} {base base':Nat} {x:Vl} {C:Array Value} (h:In3 w base x C) (hb:base'≤base):In3 w base' x C:=by
 rcases h with h|⟨r,c,l,L,h1,h2,h3,h4⟩
 ·exact .inl h
 ·exact .inr ⟨r,c,l,L,h1,h2,h3,h4.mono hb⟩
theorem take_mapf {f:Vl→Vl} {l:List Vl} {K:Nat} {z:Vl} (h:l[K]? =some z):(l.take (K+1)).map f=(l.take K).map f++ [f z]:=by
 rw[List.take_add_one,h];simp
set_option maxRecDepth 100000 in
set_option maxHeartbeats 16000000 in
theorem rall_any (n:Nat) (h:Int) (f:Vl→Vl) (hf:∀x,plainV x=true→plainV (f x)=true) (HF0:∀(y:Vl) (W:World),plainV y=true→Calls Tryz.prog 131 #[.agg (pcs y),.int .i64 h] W (Gives (.agg (pcs (f y))) W))
 (x:Vl) (v:Value) (w:World) (hx:Rp w w.heap.size (n+1) x v):Calls Tryz.prog 97 #[v,.int .i64 h] w (HandsI (eachV (n+1) f x) w):=by
 have HR:=Lib.hid (show ∀W,Below w.heap.size w W→w.heap.size≤W.heap.size→Calls Tryz.prog 38 #[v] W (Gives (.bool (rightV (n+1) x)) W)from fun W hW hz=>rright38_any (n+1) x v W (hx.below hW hz))
 have HF:=Lib.hid HF0
 have HPC:=Lib.hid (show plainV x=true→v= .agg (pcs x)from fun hp=>plain_cells hx hp)
 have hx0:=hx
 obtain⟨L,Bs,Ps,rfl,hok,⟨p,c,rfl,l1,l2,l3,_,HL⟩,⟨p2,c2,rfl,_⟩,⟨p3,c3,rfl,_⟩,_⟩:=hx
 have HLL:=Lib.hid HL
 obtain⟨C,hC⟩:∃C,vcs x (.slice p x.l.length c) (.slice p2 x.bl.length c2) (.slice p3 x.ps.length c3)=C:=⟨_,rfl⟩
 have HO:Hid (OneC C):=Lib.hid (by rw[←hC];exact vcs_one _ _ _ _ _ _ _ _ _ _)
 have X0:Hid (C[0]? =some (.int .i64 x.k)):=Lib.hid (by rw[←hC];rfl)
 have X6:Hid (C[6]? =some (.int .i64 x.rows)):=Lib.hid (by rw[←hC];rfl)
 have X7:Hid (C[7]? =some (.int .i64 x.cols)):=Lib.hid (by rw[←hC];rfl)
 have X8:Hid (C[8]? =some (.slice p x.l.length c)):=Lib.hid (by rw[←hC];rfl)
 rw[hC]at HR HPC⊢
 clear hC HL hok hx0
 unfold maxLen at l2
 obtain⟨W,hW⟩:∃W,W=(w.alloc (.cells C 34)).alloc (.cells vz 34):=⟨_,rfl⟩
 have hvx:World.vb W w.heap.size C:=by rw[hW];exact(World.vb_new w _).alloc _
 have hvy:World.vb W (w.heap.size+1) vz:=by rw[hW];exact World.vb_new' _ _ _ (by simp)
 have hB:Below w.heap.size w W:=by rw[hW];exact((Below.refl _ w).alloc (Nat.le_refl _) _).alloc (by simp) _
 obtain⟨ra,hra⟩:∃b,rightV (n+1) x=b:=⟨_,rfl⟩
 rw[hra]at HR
 have HRA:=Lib.hid hra
 obtain⟨Y,hY⟩:∃Y,eachV (n+1) f x=Y:=⟨_,rfl⟩
 rw[hY]
 have HY:=Lib.hid hY
 clear hra hY
 have HE3:plainV (errV 3)=true:=plain_err (by decide) (by decide)
 have HE3:=Lib.hid HE3
 go_enter Tryz.func97,Tryz.ntmps97
 go_upto_region 1 with (refine wpList_alloc34 rfl rfl ?_)
 go_simp
 rw[←hW]
 clear hW
 go_wp2_with (refine wpList_load34 rfl rfl rfl hvx HO.out.1 ?_)
 refine(HR.out _ hB hB.size).mono ?_
 rintro e2 w2 ⟨rfl,hB2⟩
 have hvx:=hvx.below hB2 hvx.lt
 have hvy:=hvy.below hB2 hvy.lt
 have hB:=hB.trans (hB2.mono hB.size)
 clear hB2 HR
 have c0:=hvx.cell X0.out
 cases ra with
 |false=>
  have HN:Hid (Y=errV 3):=Lib.hid (by rw[←HY.out];unfold eachV;rw[if_neg (by rw[HRA.out];simp)])
  go_wp2_with fail
  refine(rerr_any 3 _).mono ?_
  rintro e3 w3 ⟨rfl,hB3⟩
  have hvy:=hvy.below hB3 hvy.lt
  have hB:=hB.trans (hB3.mono hB.size)
  clear hB3
  go_wp2_with (refine wpList_store34 rfl rfl rfl rfl hvy (by rfl) (pcs_one _) ?_;intro w9 hn9 hg9 hz9)
  refine bodyPost_ret (results_cell_row rfl _ _ _ 34 _ (0,0) _ rfl hn9 Tryz.underlying34 rfl info34) rfl ?_
  rw[HN.out]
  exact handsI_plain HE3.out ⟨rfl,hB.grown hg9 hB.size (fun k9 hk9=>by cases hk9;omega)⟩
 |true=>
  by_cases h6:x.k=6
  ·have HN:Hid (Y=errV 3):=Lib.hid (by rw[←HY.out];unfold eachV;rw[if_neg (by intro e;exact e.2 h6)])
   rw[h6]at c0
   go_wp2_with fail
   refine(rerr_any 3 _).mono ?_
   rintro e3 w3 ⟨rfl,hB3⟩
   have hvy:=hvy.below hB3 hvy.lt
   have hB:=hB.trans (hB3.mono hB.size)
   clear hB3
   go_wp2_with (refine wpList_store34 rfl rfl rfl rfl hvy (by rfl) (pcs_one _) ?_;intro w9 hn9 hg9 hz9)
   refine bodyPost_ret (results_cell_row rfl _ _ _ 34 _ (0,0) _ rfl hn9 Tryz.underlying34 rfl info34) rfl ?_
   rw[HN.out]
   exact handsI_plain HE3.out ⟨rfl,hB.grown hg9 hB.size (fun k9 hk9=>by cases hk9;omega)⟩
  have HY2:Hid (Y=if x.k=5 then arrV x.rows x.cols (x.l.map f)else f x):=Lib.hid (by rw[←HY.out];unfold eachV;rw[if_pos ⟨HRA.out,h6⟩])
  by_cases h5:x.k=5
  ·have HN:Hid (Y=arrV x.rows x.cols (x.l.map f)):=Lib.hid (by rw[HY2.out,if_pos h5])
   have hR5:dimsB x=true∧bareV x 5=true∧x.l.all plainV=true:=by
    have:=HRA.out
    rw[rightV,if_pos h5,Bool.and_eq_true,Bool.and_eq_true]at this
    exact⟨this.1,this.2.1,this.2.2⟩
   have HD:=Lib.hid hR5
   have hd:1≤x.rows∧1≤x.cols∧x.rows≤400∧x.cols≤400∧x.rows*x.cols≤400∧(x.l.length:Int)=x.rows*x.cols:=of_decide_eq_true hR5.1
   have HPL:Hid (∀z∈x.l,plainV z=true):=Lib.hid fun z hz=>List.all_eq_true.1 hR5.2.2 z hz
   have HRT:Hid (rightV 1 (arrV x.rows x.cols (x.l.map f))=true):=Lib.hid (right_arr.2 ⟨by rw[List.length_map];exact hd,fun z hz=>by
    obtain⟨a,ha,rfl⟩:=List.mem_map.1 hz
    exact hf a (HPL.out a ha)⟩)
   have hl400:x.l.length≤400:=by omega
   rw[h5]at c0
   have c6:=hvx.cell X6.out
   have c7:=hvx.cell X7.out
   clear hR5 hd h5 h6 HY2
   generalize x.rows=r at*
   generalize x.cols=cc at*
   generalize x.l=l at*
   obtain⟨bo,hbo⟩:∃b,b=w2.heap.size:=⟨_,rfl⟩
   have hb0:w.heap.size+1<bo:=by rw[hbo];exact hvy.lt
   go_wp2_with (first|refine wpList_alloc34 rfl rfl ?_|refine wpList_build_arr0 (r:=r) (c:=cc) [] rfl rfl rfl rfl ?_|(refine wpList_store34 rfl rfl rfl rfl (World.vb_new w2 vz) (by rfl) (vcs_one _ none none none 0 0 0 0 0 0) ?_;intro w3 hn3 hg3 hz3))
   have hB3:=vb_made hg3
   have hvx:=hvx.below hB3 hvx.lt
   have hvy:=hvy.below hB3 hvy.lt
   have hB:=hB.trans (hB3.mono hB.size)
   rw[←hbo]at hn3⊢
   clear hg3 hz3 hB3 c0 c6 c7 hbo
   go_loopw [6] (fun i wr=>∃(K:Nat) (sv:Value),K≤l.length∧i= .int .i64 (K:Int)∧Below w.heap.size w wr∧World.vb wr w.heap.size C∧World.vb wr (w.heap.size+1) vz∧World.vb wr bo (vcs (arrV r cc []) sv nilS nilS)∧World.vr wr (bo+1) sv ((l.take K).map f)) (fun i _=>l.length-(intOf i).toNat)
   case atStart=>exact⟨0,nilS,Nat.zero_le _,rfl,hB,hvx,hvy,hn3,World.vr_nil⟩
   case round=>
    clear hB hvx hvy hn3
    obtain⟨K,sv,hK,rfl,hB,hvx,hvy,hvo,hown⟩:=hrel
    have u8:=hvx.cell X8.out
    have hsz:=hvo.lt
    by_cases hlt:K<l.length
    ·have hKI:(K:Int)<(l.length:Int):=by omega
     obtain⟨z,hz⟩:∃x,l[K]? =some x:=⟨_,List.getElem?_eq_getElem hlt⟩
     obtain⟨g,off,cs,rfl,hg,hs,hx1,hx2⟩:=HLL.out K z hz
     have hzp:=HPL.out z (List.mem_of_getElem? hz)
     have hcs:cs=pcs z:=by
      cases n with
      |zero=>exact hx1.elim
      |succ m=>
       have:=plain_cells hx1 hzp
       injection this
     have HCC:=Lib.hid (show ∀W,Below w.heap.size w W→∀j u,cs[j]? =some u→W.cell? ⟨g,off+K*12+j,none⟩=some u from fun W hW j u hj=>(hW.cell (p:=⟨g,_,none⟩) hg).trans (hx2 j u hj))
     have HOO:=Lib.hid hx1.one
     have HFZ:=Lib.hid (show ∀W,Calls Tryz.prog 131 #[.agg cs,.int .i64 h] W (Gives (.agg (pcs (f z))) W)from fun W=>by rw[hcs];exact HF.out z W hzp)
     have HTK:=Lib.hid (take_mapf (f:=f) hz)
     have HLen:Hid (((l.take K).map f).length≤2000):=Lib.hid (by rw[List.length_map,List.length_take];omega)
     have HS:Hid (∀k,sv.ownBlock=some k→bo+1≤k∧k<wr.heap.size):=Lib.hid fun k hk=>World.ownsRow.lt hown k hk
     obtain⟨y,hy⟩:∃y,f z=y:=⟨_,rfl⟩
     rw[hy]at HFZ HTK
     obtain⟨Co,hCo⟩:∃Co,vcs (arrV r cc []) sv nilS nilS=Co:=⟨_,rfl⟩
     have XO8:Hid (Co[8]? =some sv):=Lib.hid (by rw[←hCo];rfl)
     rw[hCo]at hvo
     have HCo:=Lib.hid hCo
     clear hx1 hx2 hs hz hzp hcs hy hCo
     go_wp2_with fail
     have hB:=hB.drew
     have hvx:=hvx.drew
     have hvy:=hvy.drew
     have hvo:=hvo.drew
     have hown:=hown.drew
     clear u8
     have u8:=hvx.cell X8.out
     refine wp_region_held_drew (S:=(fun w9=>w9.cell? ⟨w.heap.size,8,none⟩=some (.slice (some ⟨g,off,none⟩) l.length c)∧(∀j u,cs[j]? =some u→w9.cell? ⟨g,off+K*12+j,none⟩=some u))) (by kernel_rfl) ⟨u8,HCC.out _ hB⟩ (fun hHeld=> ?_)
     refine tk 0 ⟨some 34,_,_,_,_,_⟩ ?_ hHeld ?_ ?_
     rotate_left
     ·(intro w9 hSw;(try dsimp only at hSw);go_simp)
      all_goals with_reducible rfl
     try simp only[Act.put,pk1,pk2,pk3]
     refine tk 2 ⟨some 36,_,_,_,_,_⟩ ?_ hHeld ?_ ?_
     rotate_left
     ·(intro w9 hSw;(try dsimp only at hSw);go_simp)
      all_goals with_reducible rfl
     try simp only[Act.put,pk1,pk2,pk3]
     refine tk 3 ⟨some 37,_,_,_,_,_⟩ ?_ hHeld ?_ ?_
     rotate_left
     ·(intro w9 hSw;obtain⟨hs1,_⟩:=hSw;go_simp)
      all_goals with_reducible rfl
     try simp only[Act.put,pk1,pk2,pk3]
     refine tk 4 ⟨some 38,_,_,_,_,_⟩ ?_ hHeld ?_ ?_
     rotate_left
     ·(intro w9 hSw;(try dsimp only at hSw);go_simp)
      all_goals with_reducible rfl
     try simp only[Act.put,pk1,pk2,pk3]
     refine tk 5 ⟨some 39,_,_,_,_,_⟩ ?_ hHeld ?_ ?_
     rotate_left
     ·(intro w9 hSw;(try dsimp only at hSw);go_simp)
      all_goals with_reducible rfl
     try simp only[Act.put,pk1,pk2,pk3]
     refine tk 6 ⟨some 40,_,_,_,_,_⟩ ?_ hHeld ?_ ?_
     rotate_left
     ·(intro w9 hSw;refine yields34a (x:= .tmp 39) (g:=g) (off:=off+K*12) (cs:=cs) ?_ ?_ HOO.out.1 hSw.2<;>rfl)
     try simp only[Act.put,pk1,pk2,pk3]
     refine tk 7 ⟨some 41,_,_,_,_,_⟩ ?_ hHeld ?_ ?_
     rotate_left
     ·(intro w9 hSw;(try dsimp only at hSw);go_simp)
      all_goals with_reducible rfl
     try simp only[Act.put,pk1,pk2,pk3]
     refine wpAnyH_ready (rs:= [1,8]) (by kernel_rfl) (by simp) ?_
     refine(AllReadyH.cons (o:=⟨some 35,_,_,_,_,_⟩) rfl (fun KK hK=> ?_) (AllReadyH.cons (o:=⟨some 42,_,_,_,_,_⟩) rfl (fun KK hK=> ?_) AllReadyH.nil))
     ·(try rw[if_pos (by rfl)])
      have c8:=hvo.cell XO8.out
      go_simp
      clear c8
      refine hK.out _ _ ⟨u8,HCC.out _ hB⟩ ?_
      clear hK KK hHeld
      intro hHeld
      try simp only[Act.put,pk1,pk2,pk3]
      refine wpAnyH_ready (rs:= [8]) (by kernel_rfl) (by simp) ?_
      refine(AllReadyH.cons (o:=⟨some 42,_,_,_,_,_⟩) rfl (fun KK hK=> ?_) AllReadyH.nil)
      ·(try rw[if_pos (by rfl)])
       go_simp
       refine(HFZ.out _).mono ?_
       rintro e4 w4 ⟨rfl,hB4⟩
       have hvx:=hvx.below hB4 hvx.lt
       have hvy:=hvy.below hB4 hvy.lt
       have hvo:=hvo.below hB4 hvo.lt
       have hown:=hown.below hB4
       have hB:=hB.trans (hB4.mono hB.size)
       have hsz:=hvo.lt
       have hq4:wr.heap.size≤w4.heap.size:=hB4.size
       have u8:=hvx.cell X8.out
       clear hB4
       refine hK.out _ _ ⟨u8,HCC.out _ hB⟩ ?_
       clear hK KK hHeld
       intro hHeld
       try simp only[Act.put,pk1,pk2,pk3]
       refine wpAnyH_ready (rs:= [9]) (by kernel_rfl) (by simp) ?_
       refine(AllReadyH.cons (o:=⟨some 43,_,_,_,_,_⟩) rfl (fun KK hK=> ?_) AllReadyH.nil)
       ·(try rw[if_pos (by rfl)])
        refine op_bslice34 rfl rfl ?_
        obtain⟨gn,hgn⟩:∃gn,gn=w4.heap.size:=⟨_,rfl⟩
        obtain⟨w5,hw5⟩:∃w5,w5=w4.alloc (.cells (pcs y) 34):=⟨_,rfl⟩
        rw[←hw5,←hgn]
        have hvn:World.vb w5 gn (pcs y):=by rw[hw5,hgn];exact World.vb_new _ _
        have hvx:World.vb w5 w.heap.size C:=by rw[hw5];exact hvx.alloc _
        have hvy:World.vb w5 (w.heap.size+1) vz:=by rw[hw5];exact hvy.alloc _
        have hvo:World.vb w5 bo Co:=by rw[hw5];exact hvo.alloc _
        have hown:World.vr w5 (bo+1) sv ((l.take K).map f):=by rw[hw5];exact hown.alloc _
        have hB:Below w.heap.size w w5:=by rw[hw5];exact hB.alloc hB.size _
        have hsz:=hvo.lt
        have u8:=hvx.cell X8.out
        clear hw5 hgn
        refine hK.out _ _ ⟨u8,HCC.out _ hB⟩ ?_
        clear hK KK hHeld
        intro hHeld
        try simp only[Act.put,pk1,pk2,pk3]
        refine wpAnyH_ready (rs:= [10]) (by kernel_rfl) (by simp) ?_
        refine(AllReadyH.cons (o:=⟨some 44,_,_,_,_,_⟩) rfl (fun KK hK=> ?_) AllReadyH.nil)
        ·(try rw[if_pos (by rfl)])
         refine op_pushv _ _ rfl (bo+1) sv ((l.take K).map f) y gn hown HLen.out rfl rfl hvn (by omega) ?_
         intro v6 w6 hown6 hg6
         obtain⟨pv,nv,cv,rfl⟩:=hown6.shape2
         have hvx:=hvx.grown hg6 (fun e=>by have:=HS.out _ e.symm;omega)
         have hvy:=hvy.grown hg6 (fun e=>by have:=HS.out _ e.symm;omega)
         have hvo:=hvo.grown hg6 (fun e=>by have:=HS.out _ e.symm;omega)
         have hB:=hB.grown hg6 hB.size (fun k9 hk9=>by have:=HS.out _ hk9;omega)
         have u8:=hvx.cell X8.out
         clear hown hvn hg6
         refine hK.out _ _ ⟨u8,HCC.out _ hB⟩ ?_
         clear hK KK hHeld
         intro hHeld
         try simp only[Act.put,pk1,pk2,pk3]
         refine tk 11 ⟨some 45,_,_,_,_,_⟩ ?_ hHeld ?_ ?_
         rotate_left
         ·(intro w9 hSw;(try dsimp only at hSw);go_simp)
          all_goals with_reducible rfl
         try simp only[Act.put,pk1,pk2,pk3]
         refine wpAnyH_ready (rs:= [12]) (by kernel_rfl) (by simp) ?_
         refine(AllReadyH.cons (o:=⟨none,_,_,_,_,_⟩) rfl (fun KK hK=> ?_) AllReadyH.nil)
         ·(try rw[if_pos (by rfl)])
          have c8:=hvo.cell XO8.out
          have f8:=hvo.frozen 8
          go_simp
          clear c8 f8
          refine hK.out _ _ ⟨(hvx.other (by show w.heap.size≠bo;omega) _).cell X8.out,HCC.out (w6.setCell ⟨bo,8,none⟩ (.slice pv nv cv)) (hB.setCell (by show w.heap.size≤bo;omega) _)⟩ ?_
          clear hK KK hHeld
          intro hHeld
          try simp only[Act.put,pk1,pk2,pk3]
          refine wpAnyH_done (by kernel_rfl) ?_ _
          try simp only[Act.put,pk1,pk2,pk3]
          obtain⟨w7,hw7⟩:∃w7,w7=w6.setCell ⟨bo,8,none⟩ (.slice pv nv cv):=⟨_,rfl⟩
          rw[←hw7]
          have hvo7:World.vb w7 bo (vcs (arrV r cc []) (.slice pv nv cv) nilS nilS):=by
           rw[hw7]
           have:=hvo.set 8 (.slice pv nv cv)
           rw[←HCo.out]at this
           exact this
          have hown7:World.vr w7 (bo+1) (.slice pv nv cv) ((l.take (K+1)).map f):=by
           rw[HTK.out,hw7]
           exact hown6.grown (g:=bo) (grownBy_setCell _ _ _) (Nat.lt_succ_self _)
          have hvx7:World.vb w7 w.heap.size C:=by rw[hw7];exact hvx.other (by show w.heap.size≠bo;omega) _
          have hvy7:World.vb w7 (w.heap.size+1) vz:=by rw[hw7];exact hvy.other (by show w.heap.size+1≠bo;omega) _
          have hB7:Below w.heap.size w w7:=by rw[hw7];exact hB.setCell (by show w.heap.size≤bo;omega) _
          clear hw7 hvo hown6 hB hvx hvy u8
          go_wp2_with fail
          go_roundw
          case rel=>exact⟨K+1,_,by omega,by go_num,hB7,hvx7,hvy7,hvo7,hown7⟩
          case measure=>simp[intOf];omega
     ·(try rw[if_pos (by rfl)])
      go_simp
      refine(HFZ.out _).mono ?_
      rintro e4 w4 ⟨rfl,hB4⟩
      have hvx:=hvx.below hB4 hvx.lt
      have hvy:=hvy.below hB4 hvy.lt
      have hvo:=hvo.below hB4 hvo.lt
      have hown:=hown.below hB4
      have hB:=hB.trans (hB4.mono hB.size)
      have hsz:=hvo.lt
      have hq4:wr.heap.size≤w4.heap.size:=hB4.size
      have u8:=hvx.cell X8.out
      clear hB4
      refine hK.out _ _ ⟨u8,HCC.out _ hB⟩ ?_
      clear hK KK hHeld
      intro hHeld
      try simp only[Act.put,pk1,pk2,pk3]
      refine wpAnyH_ready (rs:= [1,9]) (by kernel_rfl) (by simp) ?_
      refine(AllReadyH.cons (o:=⟨some 35,_,_,_,_,_⟩) rfl (fun KK hK=> ?_) (AllReadyH.cons (o:=⟨some 43,_,_,_,_,_⟩) rfl (fun KK hK=> ?_) AllReadyH.nil))
      ·(try rw[if_pos (by rfl)])
       have c8:=hvo.cell XO8.out
       go_simp
       clear c8
       refine hK.out _ _ ⟨u8,HCC.out _ hB⟩ ?_
       clear hK KK hHeld
       intro hHeld
       try simp only[Act.put,pk1,pk2,pk3]
       refine wpAnyH_ready (rs:= [9]) (by kernel_rfl) (by simp) ?_
       refine(AllReadyH.cons (o:=⟨some 43,_,_,_,_,_⟩) rfl (fun KK hK=> ?_) AllReadyH.nil)
       ·(try rw[if_pos (by rfl)])
        refine op_bslice34 rfl rfl ?_
        obtain⟨gn,hgn⟩:∃gn,gn=w4.heap.size:=⟨_,rfl⟩
        obtain⟨w5,hw5⟩:∃w5,w5=w4.alloc (.cells (pcs y) 34):=⟨_,rfl⟩
        rw[←hw5,←hgn]
        have hvn:World.vb w5 gn (pcs y):=by rw[hw5,hgn];exact World.vb_new _ _
        have hvx:World.vb w5 w.heap.size C:=by rw[hw5];exact hvx.alloc _
        have hvy:World.vb w5 (w.heap.size+1) vz:=by rw[hw5];exact hvy.alloc _
        have hvo:World.vb w5 bo Co:=by rw[hw5];exact hvo.alloc _
        have hown:World.vr w5 (bo+1) sv ((l.take K).map f):=by rw[hw5];exact hown.alloc _
        have hB:Below w.heap.size w w5:=by rw[hw5];exact hB.alloc hB.size _
        have hsz:=hvo.lt
        have u8:=hvx.cell X8.out
        clear hw5 hgn
        refine hK.out _ _ ⟨u8,HCC.out _ hB⟩ ?_
        clear hK KK hHeld
        intro hHeld
        try simp only[Act.put,pk1,pk2,pk3]
        refine wpAnyH_ready (rs:= [10]) (by kernel_rfl) (by simp) ?_
        refine(AllReadyH.cons (o:=⟨some 44,_,_,_,_,_⟩) rfl (fun KK hK=> ?_) AllReadyH.nil)
        ·(try rw[if_pos (by rfl)])
         refine op_pushv _ _ rfl (bo+1) sv ((l.take K).map f) y gn hown HLen.out rfl rfl hvn (by omega) ?_
         intro v6 w6 hown6 hg6
         obtain⟨pv,nv,cv,rfl⟩:=hown6.shape2
         have hvx:=hvx.grown hg6 (fun e=>by have:=HS.out _ e.symm;omega)
         have hvy:=hvy.grown hg6 (fun e=>by have:=HS.out _ e.symm;omega)
         have hvo:=hvo.grown hg6 (fun e=>by have:=HS.out _ e.symm;omega)
         have hB:=hB.grown hg6 hB.size (fun k9 hk9=>by have:=HS.out _ hk9;omega)
         have u8:=hvx.cell X8.out
         clear hown hvn hg6
         refine hK.out _ _ ⟨u8,HCC.out _ hB⟩ ?_
         clear hK KK hHeld
         intro hHeld
         try simp only[Act.put,pk1,pk2,pk3]
         refine tk 11 ⟨some 45,_,_,_,_,_⟩ ?_ hHeld ?_ ?_
         rotate_left
         ·(intro w9 hSw;(try dsimp only at hSw);go_simp)
          all_goals with_reducible rfl
         try simp only[Act.put,pk1,pk2,pk3]
         refine wpAnyH_ready (rs:= [12]) (by kernel_rfl) (by simp) ?_
         refine(AllReadyH.cons (o:=⟨none,_,_,_,_,_⟩) rfl (fun KK hK=> ?_) AllReadyH.nil)
         ·(try rw[if_pos (by rfl)])
          have c8:=hvo.cell XO8.out
          have f8:=hvo.frozen 8
          go_simp
          clear c8 f8
          refine hK.out _ _ ⟨(hvx.other (by show w.heap.size≠bo;omega) _).cell X8.out,HCC.out (w6.setCell ⟨bo,8,none⟩ (.slice pv nv cv)) (hB.setCell (by show w.heap.size≤bo;omega) _)⟩ ?_
          clear hK KK hHeld
          intro hHeld
          try simp only[Act.put,pk1,pk2,pk3]
          refine wpAnyH_done (by kernel_rfl) ?_ _
          try simp only[Act.put,pk1,pk2,pk3]
          obtain⟨w7,hw7⟩:∃w7,w7=w6.setCell ⟨bo,8,none⟩ (.slice pv nv cv):=⟨_,rfl⟩
          rw[←hw7]
          have hvo7:World.vb w7 bo (vcs (arrV r cc []) (.slice pv nv cv) nilS nilS):=by
           rw[hw7]
           have:=hvo.set 8 (.slice pv nv cv)
           rw[←HCo.out]at this
           exact this
          have hown7:World.vr w7 (bo+1) (.slice pv nv cv) ((l.take (K+1)).map f):=by
           rw[HTK.out,hw7]
           exact hown6.grown (g:=bo) (grownBy_setCell _ _ _) (Nat.lt_succ_self _)
          have hvx7:World.vb w7 w.heap.size C:=by rw[hw7];exact hvx.other (by show w.heap.size≠bo;omega) _
          have hvy7:World.vb w7 (w.heap.size+1) vz:=by rw[hw7];exact hvy.other (by show w.heap.size+1≠bo;omega) _
          have hB7:Below w.heap.size w w7:=by rw[hw7];exact hB.setCell (by show w.heap.size≤bo;omega) _
          clear hw7 hvo hown6 hB hvx hvy u8
          go_wp2_with fail
          go_roundw
          case rel=>exact⟨K+1,_,by omega,by go_num,hB7,hvx7,hvy7,hvo7,hown7⟩
          case measure=>simp[intOf];omega
      ·(try rw[if_pos (by rfl)])
       refine op_bslice34 rfl rfl ?_
       obtain⟨gn,hgn⟩:∃gn,gn=w4.heap.size:=⟨_,rfl⟩
       obtain⟨w5,hw5⟩:∃w5,w5=w4.alloc (.cells (pcs y) 34):=⟨_,rfl⟩
       rw[←hw5,←hgn]
       have hvn:World.vb w5 gn (pcs y):=by rw[hw5,hgn];exact World.vb_new _ _
       have hvx:World.vb w5 w.heap.size C:=by rw[hw5];exact hvx.alloc _
       have hvy:World.vb w5 (w.heap.size+1) vz:=by rw[hw5];exact hvy.alloc _
       have hvo:World.vb w5 bo Co:=by rw[hw5];exact hvo.alloc _
       have hown:World.vr w5 (bo+1) sv ((l.take K).map f):=by rw[hw5];exact hown.alloc _
       have hB:Below w.heap.size w w5:=by rw[hw5];exact hB.alloc hB.size _
       have hsz:=hvo.lt
       have u8:=hvx.cell X8.out
       clear hw5 hgn
       refine hK.out _ _ ⟨u8,HCC.out _ hB⟩ ?_
       clear hK KK hHeld
       intro hHeld
       try simp only[Act.put,pk1,pk2,pk3]
       refine wpAnyH_ready (rs:= [1]) (by kernel_rfl) (by simp) ?_
       refine(AllReadyH.cons (o:=⟨some 35,_,_,_,_,_⟩) rfl (fun KK hK=> ?_) AllReadyH.nil)
       ·(try rw[if_pos (by rfl)])
        have c8:=hvo.cell XO8.out
        go_simp
        clear c8
        refine hK.out _ _ ⟨u8,HCC.out _ hB⟩ ?_
        clear hK KK hHeld
        intro hHeld
        try simp only[Act.put,pk1,pk2,pk3]
        refine wpAnyH_ready (rs:= [10]) (by kernel_rfl) (by simp) ?_
        refine(AllReadyH.cons (o:=⟨some 44,_,_,_,_,_⟩) rfl (fun KK hK=> ?_) AllReadyH.nil)
        ·(try rw[if_pos (by rfl)])
         refine op_pushv _ _ rfl (bo+1) sv ((l.take K).map f) y gn hown HLen.out rfl rfl hvn (by omega) ?_
         intro v6 w6 hown6 hg6
         obtain⟨pv,nv,cv,rfl⟩:=hown6.shape2
         have hvx:=hvx.grown hg6 (fun e=>by have:=HS.out _ e.symm;omega)
         have hvy:=hvy.grown hg6 (fun e=>by have:=HS.out _ e.symm;omega)
         have hvo:=hvo.grown hg6 (fun e=>by have:=HS.out _ e.symm;omega)
         have hB:=hB.grown hg6 hB.size (fun k9 hk9=>by have:=HS.out _ hk9;omega)
         have u8:=hvx.cell X8.out
         clear hown hvn hg6
         refine hK.out _ _ ⟨u8,HCC.out _ hB⟩ ?_
         clear hK KK hHeld
         intro hHeld
         try simp only[Act.put,pk1,pk2,pk3]
         refine tk 11 ⟨some 45,_,_,_,_,_⟩ ?_ hHeld ?_ ?_
         rotate_left
         ·(intro w9 hSw;(try dsimp only at hSw);go_simp)
          all_goals with_reducible rfl
         try simp only[Act.put,pk1,pk2,pk3]
         refine wpAnyH_ready (rs:= [12]) (by kernel_rfl) (by simp) ?_
         refine(AllReadyH.cons (o:=⟨none,_,_,_,_,_⟩) rfl (fun KK hK=> ?_) AllReadyH.nil)
         ·(try rw[if_pos (by rfl)])
          have c8:=hvo.cell XO8.out
          have f8:=hvo.frozen 8
          go_simp
          clear c8 f8
          refine hK.out _ _ ⟨(hvx.other (by show w.heap.size≠bo;omega) _).cell X8.out,HCC.out (w6.setCell ⟨bo,8,none⟩ (.slice pv nv cv)) (hB.setCell (by show w.heap.size≤bo;omega) _)⟩ ?_
          clear hK KK hHeld
          intro hHeld
          try simp only[Act.put,pk1,pk2,pk3]
          refine wpAnyH_done (by kernel_rfl) ?_ _
          try simp only[Act.put,pk1,pk2,pk3]
          obtain⟨w7,hw7⟩:∃w7,w7=w6.setCell ⟨bo,8,none⟩ (.slice pv nv cv):=⟨_,rfl⟩
          rw[←hw7]
          have hvo7:World.vb w7 bo (vcs (arrV r cc []) (.slice pv nv cv) nilS nilS):=by
           rw[hw7]
           have:=hvo.set 8 (.slice pv nv cv)
           rw[←HCo.out]at this
           exact this
          have hown7:World.vr w7 (bo+1) (.slice pv nv cv) ((l.take (K+1)).map f):=by
           rw[HTK.out,hw7]
           exact hown6.grown (g:=bo) (grownBy_setCell _ _ _) (Nat.lt_succ_self _)
          have hvx7:World.vb w7 w.heap.size C:=by rw[hw7];exact hvx.other (by show w.heap.size≠bo;omega) _
          have hvy7:World.vb w7 (w.heap.size+1) vz:=by rw[hw7];exact hvy.other (by show w.heap.size+1≠bo;omega) _
          have hB7:Below w.heap.size w w7:=by rw[hw7];exact hB.setCell (by show w.heap.size≤bo;omega) _
          clear hw7 hvo hown6 hB hvx hvy u8
          go_wp2_with fail
          go_roundw
          case rel=>exact⟨K+1,_,by omega,by go_num,hB7,hvx7,hvy7,hvo7,hown7⟩
          case measure=>simp[intOf];omega
    ·have hKI:¬(K:Int)<(l.length:Int):=by omega
     obtain rfl:K=l.length:=by omega
     rw[List.take_length]at hown
     obtain⟨pv,nv,cv,rfl⟩:=hown.shape2
     go_wp2_with (first|refine wpList_load34 rfl rfl rfl hvo (by rfl) ?_|(refine wpList_store34 rfl rfl rfl rfl hvy (by rfl) (vcs_one (arrV r cc []) _ none none _ _ 0 0 0 0) ?_;intro w9 hn9 hg9 hz9))
     refine bodyPost_ret (results_cell_row rfl _ _ _ 34 _ (0,0) _ rfl hn9 Tryz.underlying34 rfl info34) rfl ?_
     rw[HN.out]
     exact handsI_arr HRT.out ⟨_,rfl,(hown.grown hg9 (by omega)).mono (by omega),hB.grown hg9 hB.size (fun k9 hk9=>by cases hk9;omega)⟩
  ·have HN:Hid (Y=f x):=Lib.hid (by rw[HY2.out,if_neg h5])
   have hp:plainV x=true:=by
    have:=HRA.out
    rw[rightV,if_neg h5,if_neg h6]at this
    exact this
   have hk:=plain_kr hp
   have hCx:=HPC.out hp
   injection hCx with hCx
   have HFX:=Lib.hid (show ∀W,Calls Tryz.prog 131 #[.agg C,.int .i64 h] W (Gives (.agg (pcs (f x))) W)from fun W=>by rw[hCx];exact HF.out x W hp)
   have HPF:=Lib.hid (hf x hp)
   have hk5:x.k<5:=by omega
   have f6:(x.k==6)=false:=by simpa using h6
   clear hp hCx h5 h6 HY2
   generalize x.k=k at*
   go_wp2_with (refine wpList_load34 rfl rfl rfl hvx HO.out.1 ?_)
   refine(HFX.out _).mono ?_
   rintro e3 w3 ⟨rfl,hB3⟩
   have hvy:=hvy.below hB3 hvy.lt
   have hB:=hB.trans (hB3.mono hB.size)
   clear hB3
   go_wp2_with (refine wpList_store34 rfl rfl rfl rfl hvy (by rfl) (pcs_one _) ?_;intro w9 hn9 hg9 hz9)
   refine bodyPost_ret (results_cell_row rfl _ _ _ 34 _ (0,0) _ rfl hn9 Tryz.underlying34 rfl info34) rfl ?_
   rw[HN.out]
   exact handsI_plain HPF.out ⟨rfl,hB.grown hg9 hB.size (fun k9 hk9=>by cases hk9;omega)⟩
theorem rto40 (n:Nat) (x:Vl) (v:Value) (w:World) (hx:Rp w w.heap.size (n+1) x v):Calls Tryz.prog 40 #[v] w (HandsI (eachV (n+1) numT x) w):=by
 have HA:=Lib.hid (show ∀W,Below w.heap.size w W→w.heap.size≤W.heap.size→Calls Tryz.prog 97 #[v,.int .i64 0] W (HandsI (eachV (n+1) numT x) W)from fun W hW hz=>rall_any n 0 numT (fun _=>numT_plain) (fun y W h=>ras_0 y W h) x v W (hx.below hW hz))
 obtain⟨C,rfl⟩:∃C,v= .agg C:=by obtain⟨_,_,_,e,_⟩:=hx;exact⟨_,e⟩
 have HO:Hid (OneC C):=Lib.hid hx.one
 clear hx
 obtain⟨W,hW⟩:∃W,W=(w.alloc (.cells C 34)).alloc (.cells vz 34):=⟨_,rfl⟩
 have hvx:World.vb W w.heap.size C:=by rw[hW];exact(World.vb_new w _).alloc _
 have hvy:World.vb W (w.heap.size+1) vz:=by rw[hW];exact World.vb_new' _ _ _ (by simp)
 have hB:Below w.heap.size w W:=by rw[hW];exact((Below.refl _ w).alloc (Nat.le_refl _) _).alloc (by simp) _
 have hW0:=hB.size
 have hW1:=hvy.lt
 go_enter Tryz.func40,Tryz.ntmps40
 go_upto_region 1 with (refine wpList_alloc34 rfl rfl ?_)
 go_simp
 rw[←hW]
 clear hW
 go_wp2_with (refine wpList_load34 rfl rfl rfl hvx HO.out.1 ?_)
 refine(HA.out _ hB hB.size).mono ?_
 rintro e3 w3 ⟨C3,rfl,h3,hB3⟩
 have hvy:=hvy.below hB3 hvy.lt
 have hB:=hB.trans (hB3.mono hB.size)
 clear hB3
 go_wp2_with (refine wpList_store34 rfl rfl rfl rfl hvy (by rfl) h3.one ?_;intro w9 hn9 hg9 hz9)
 refine bodyPost_ret (results_cell_row rfl _ _ _ 34 _ (0,0) _ rfl hn9 Tryz.underlying34 rfl (by rw[h3.one.1];exact info34)) rfl ?_
 exact⟨_,rfl,(h3.grown hg9 (by omega)).mono hW0,hB.grown hg9 hB.size (fun k9 hk9=>by cases hk9;omega)⟩
theorem rto41 (n:Nat) (x:Vl) (v:Value) (w:World) (hx:Rp w w.heap.size (n+1) x v):Calls Tryz.prog 41 #[v] w (HandsI (eachV (n+1) txtT x) w):=by
 have HA:=Lib.hid (show ∀W,Below w.heap.size w W→w.heap.size≤W.heap.size→Calls Tryz.prog 97 #[v,.int .i64 1] W (HandsI (eachV (n+1) txtT x) W)from fun W hW hz=>rall_any n 1 txtT (fun _=>txtT_plain) (fun y W h=>ras_1 y W h) x v W (hx.below hW hz))
 obtain⟨C,rfl⟩:∃C,v= .agg C:=by obtain⟨_,_,_,e,_⟩:=hx;exact⟨_,e⟩
 have HO:Hid (OneC C):=Lib.hid hx.one
 clear hx
 obtain⟨W,hW⟩:∃W,W=(w.alloc (.cells C 34)).alloc (.cells vz 34):=⟨_,rfl⟩
 have hvx:World.vb W w.heap.size C:=by rw[hW];exact(World.vb_new w _).alloc _
 have hvy:World.vb W (w.heap.size+1) vz:=by rw[hW];exact World.vb_new' _ _ _ (by simp)
 have hB:Below w.heap.size w W:=by rw[hW];exact((Below.refl _ w).alloc (Nat.le_refl _) _).alloc (by simp) _
 have hW0:=hB.size
 have hW1:=hvy.lt
 go_enter Tryz.func41,Tryz.ntmps41
 go_upto_region 1 with (refine wpList_alloc34 rfl rfl ?_)
 go_simp
 rw[←hW]
 clear hW
 go_wp2_with (refine wpList_load34 rfl rfl rfl hvx HO.out.1 ?_)
 refine(HA.out _ hB hB.size).mono ?_
 rintro e3 w3 ⟨C3,rfl,h3,hB3⟩
 have hvy:=hvy.below hB3 hvy.lt
 have hB:=hB.trans (hB3.mono hB.size)
 clear hB3
 go_wp2_with (refine wpList_store34 rfl rfl rfl rfl hvy (by rfl) h3.one ?_;intro w9 hn9 hg9 hz9)
 refine bodyPost_ret (results_cell_row rfl _ _ _ 34 _ (0,0) _ rfl hn9 Tryz.underlying34 rfl (by rw[h3.one.1];exact info34)) rfl ?_
 exact⟨_,rfl,(h3.grown hg9 (by omega)).mono hW0,hB.grown hg9 hB.size (fun k9 hk9=>by cases hk9;omega)⟩
theorem rto42 (n:Nat) (x:Vl) (v:Value) (w:World) (hx:Rp w w.heap.size (n+1) x v):Calls Tryz.prog 42 #[v] w (HandsI (eachV (n+1) truT x) w):=by
 have HA:=Lib.hid (show ∀W,Below w.heap.size w W→w.heap.size≤W.heap.size→Calls Tryz.prog 97 #[v,.int .i64 2] W (HandsI (eachV (n+1) truT x) W)from fun W hW hz=>rall_any n 2 truT (fun _=>truT_plain) (fun y W h=>ras_2 y W h) x v W (hx.below hW hz))
 obtain⟨C,rfl⟩:∃C,v= .agg C:=by obtain⟨_,_,_,e,_⟩:=hx;exact⟨_,e⟩
 have HO:Hid (OneC C):=Lib.hid hx.one
 clear hx
 obtain⟨W,hW⟩:∃W,W=(w.alloc (.cells C 34)).alloc (.cells vz 34):=⟨_,rfl⟩
 have hvx:World.vb W w.heap.size C:=by rw[hW];exact(World.vb_new w _).alloc _
 have hvy:World.vb W (w.heap.size+1) vz:=by rw[hW];exact World.vb_new' _ _ _ (by simp)
 have hB:Below w.heap.size w W:=by rw[hW];exact((Below.refl _ w).alloc (Nat.le_refl _) _).alloc (by simp) _
 have hW0:=hB.size
 have hW1:=hvy.lt
 go_enter Tryz.func42,Tryz.ntmps42
 go_upto_region 1 with (refine wpList_alloc34 rfl rfl ?_)
 go_simp
 rw[←hW]
 clear hW
 go_wp2_with (refine wpList_load34 rfl rfl rfl hvx HO.out.1 ?_)
 refine(HA.out _ hB hB.size).mono ?_
 rintro e3 w3 ⟨C3,rfl,h3,hB3⟩
 have hvy:=hvy.below hB3 hvy.lt
 have hB:=hB.trans (hB3.mono hB.size)
 clear hB3
 go_wp2_with (refine wpList_store34 rfl rfl rfl rfl hvy (by rfl) h3.one ?_;intro w9 hn9 hg9 hz9)
 refine bodyPost_ret (results_cell_row rfl _ _ _ 34 _ (0,0) _ rfl hn9 Tryz.underlying34 rfl (by rw[h3.one.1];exact info34)) rfl ?_
 exact⟨_,rfl,(h3.grown hg9 (by omega)).mono hW0,hB.grown hg9 hB.size (fun k9 hk9=>by cases hk9;omega)⟩
end Go.Proofs.YtkhohjdakcchdaaGreatDoor
