/- Merged: Thr, Rcd, Rsm. -/
import Derived.Test.YtmhfioimgllgeaaGreatDoorR32
import Derived.Laws.CopyRow
import Derived.Test.YtmhfioimgllgeaaGreatDoorR01
namespace Go.Proofs.YtmhfioimgllgeaaGreatDoor
open Go Go.RowKit Go.Shelf
theorem World.blk.alloc {w:World} {g t:Nat} {cs:Array Value} (h:World.blk w g t cs) (o:Obj):World.blk (w.alloc o) g t cs:=by unfold World.blk;rw[heap_alloc_old w o h.lt];exact h
theorem World.blk.grown {w w':World} {g t:Nat} {cs:Array Value} {row:Option Nat} (h:World.blk w g t cs) (hg:w.grownBy w' row) (hne:some g≠row):World.blk w' g t cs:=by unfold World.blk;rw[hg.block g h.lt hne];exact h
theorem World.blk.drew {w:World} {g t:Nat} {cs:Array Value} (h:World.blk w g t cs):World.blk w.drew g t cs:=h
theorem World.blk.cell0 {w:World} {g t:Nat} {cs:Array Value} (h:World.blk w g t cs):∀j u,cs[j]? =some u→w.cell? ⟨g,0+j,none⟩=some u:=fun j u hj=>by rw[Nat.zero_add];exact h.cell hj
end Go.Proofs.YtmhfioimgllgeaaGreatDoor
namespace Go.Proofs.YtmhfioimgllgeaaGreatDoor
open Go Go.RowKit Go.Shelf
set_option maxRecDepth 100000 in
set_option maxHeartbeats 4000000 in
theorem rblock_tt (g off c g' off' c':Nat) (w:World) (_hc:1≤c) (_hc':1≤c') (_hm:c≤maxLen) (_hm':c'≤maxLen) (h:∀j u,insC[j]? =some u→w.cell? ⟨g,off+j,none⟩=some u) (h':∀j u,insC[j]? =some u→w.cell? ⟨g',off'+j,none⟩=some u):
 Calls Tryz.prog 116 #[.slice (some ⟨g,off,none⟩) 1 c,.slice (some ⟨g',off',none⟩) 1 c'] w fun e w'=>e= .returned (.bool true)∧∃k,w'=w.drewN k:=by
 unfold maxLen at _hm _hm'
 have H:=Lib.hid h
 have H':=Lib.hid h'
 clear h h'
 go_enter Tryz.func116,Tryz.ntmps116
 go_wp2_with fail
 go_loopw [5] (fun i wr=>∃K:Nat,K≤1∧i= .int .i64 (K:Int)∧∃k,wr=w.drewN k) (fun i _=>1-(intOf i).toNat)
 case atStart=>exact⟨0,by omega,rfl,0,rfl⟩
 case round=>
  obtain⟨K,hK,rfl,k0,rfl⟩:=hrel
  rcases(by omega:K=0∨K=1)with rfl|rfl
  ·go_wp2_with fail
   refine wp_region_quiet_lit (by kernel_rfl) (by kernel_rfl) ?_
   iterate 3 quiet_step (fail)
   refine wpQuiet_step (fun K hK=> ?_)
   refine ite_yes rfl ?_
   refine quiet_load71 rfl rfl (fun w9 h9 j u hj=>by obtain⟨n9,rfl⟩:=h9;exact H.out j u hj) (hK _ ?_)
   clear hK K
   iterate 3 quiet_step (fail)
   refine wpQuiet_step (fun K hK=> ?_)
   refine ite_yes rfl ?_
   refine quiet_load71 rfl rfl (fun w9 h9 j u hj=>by obtain⟨n9,rfl⟩:=h9;exact H'.out j u hj) (hK _ ?_)
   clear hK K
   have hn9:=neq_ins
   quiet_step (fail)
   clear hn9
   refine wpQuiet_nil ?_
   rintro _ ⟨nq,rfl⟩
   go_wp2_with fail
   go_roundw
   case rel=>exact⟨1,by omega,by go_num,by first|exact⟨_,rfl⟩|(simp only[World.drewN_drewN];exact⟨_,rfl⟩)⟩
   case measure=>simp[intOf]
  ·go_wp2_with fail
   go_ret
   exact⟨rfl,_,rfl⟩
set_option maxRecDepth 100000 in
set_option maxHeartbeats 4000000 in
theorem rblock_any (b1 b2:Bool) (v1 v2:Value) (w:World) (h1:InAt w w.heap.size b1 v1) (h2:InAt w w.heap.size b2 v2):Calls Tryz.prog 116 #[v1,v2] w (Tells (b1=b2) w):=by
 unfold InAt at h1 h2
 cases b1 with
 |true=>
  rw[if_pos rfl]at h1
  obtain⟨g,off,c,rfl,hc1,hc2,_,hc⟩:=h1
  cases b2 with
  |true=>
   rw[if_pos rfl]at h2
   obtain⟨g',off',c',rfl,hc1',hc2',_,hc'⟩:=h2
   refine(rblock_tt g off c g' off' c' w hc1 hc1' hc2 hc2' hc hc').mono ?_
   rintro e w' ⟨rfl,k,rfl⟩
   exact⟨true,rfl,⟨fun _=>rfl,fun _=>rfl⟩,below_drewN' k⟩
  |false=>
   rw[if_neg (by decide)]at h2
   subst h2
   clear hc
   go_enter Tryz.func116,Tryz.ntmps116
   go_wp2_with fail
   go_ret
   exact⟨false,rfl,⟨(fun h=>by cases h),(fun h=>by cases h)⟩,Below.refl _ _⟩
 |false=>
  rw[if_neg (by decide)]at h1
  subst h1
  cases b2 with
  |true=>
   rw[if_pos rfl]at h2
   obtain⟨g',off',c',rfl,hc1',hc2',_,hc'⟩:=h2
   clear hc'
   go_enter Tryz.func116,Tryz.ntmps116
   go_wp2_with fail
   go_ret
   exact⟨false,rfl,⟨(fun h=>by cases h),(fun h=>by cases h)⟩,Below.refl _ _⟩
  |false=>
   rw[if_neg (by decide)]at h2
   subst h2
   go_enter Tryz.func116,Tryz.ntmps116
   go_wp2_with fail
   go_loop [5] (fun i=>i= .int .i64 0) (fun _=>0)
   case atStart=>rfl
   case round=>
    obtain rfl:=hrel
    go_wp2_with fail
    go_ret
    exact⟨true,rfl,by simp,Below.refl _ _⟩
set_option maxRecDepth 100000 in
set_option maxHeartbeats 16000000 in
theorem rcode_any (bl bl':List Bool) (ps ps':List ByteArray) (Bs Bs' Ps Ps':Value) (w:World) (hb:BsAt w w.heap.size Bs bl) (hb':BsAt w w.heap.size Bs' bl') (hp:PsAt w w.heap.size Ps ps) (hp':PsAt w w.heap.size Ps' ps'):
 Calls Tryz.prog 83 #[.agg #[Bs,Ps],.agg #[Bs',Ps']] w (Tells (bl=bl'∧ps=ps') w):=by
 obtain⟨p,c,rfl,l1,l2,l3,HL⟩:=hb
 obtain⟨p',c',rfl,r1,r2,r3,HR⟩:=hb'
 obtain⟨q,d,rfl,m1,m2,m3,HM⟩:=hp
 obtain⟨q',d',rfl,n1,n2,n3,HN0⟩:=hp'
 have HLL:=Lib.hid HL
 have HRR:=Lib.hid HR
 have HMM:=Lib.hid HM
 have HNN:=Lib.hid HN0
 clear HL HR HM HN0
 unfold maxLen at l2 r2 m2 n2
 have hB:Below w.heap.size w ((w.alloc (.cells #[.slice p bl.length c,.slice q ps.length d] 37)).alloc (.cells #[.slice p' bl'.length c',.slice q' ps'.length d'] 37)):=((Below.refl _ w).alloc (Nat.le_refl _) _).alloc (by simp) _
 by_cases hlen:¬bl.length=bl'.length
 ·have hne:((bl.length:Int) != (bl'.length:Int))=true:=by simp;omega
  have HN:Hid (¬(bl=bl'∧ps=ps')):=Lib.hid fun e=>hlen (by rw[e.1])
  clear hlen
  go_enter Tryz.func83,Tryz.ntmps83
  go_wp2_with fail
  go_ret
  exact⟨false,rfl,⟨(fun h=>by cases h),fun h=>absurd h HN.out⟩,hB⟩
 have hlen:=Classical.not_not.1 hlen
 have hne:((bl.length:Int) != (bl'.length:Int))=false:=by simp;omega
 by_cases hlen2:¬ps.length=ps'.length
 ·have hne2:((ps.length:Int) != (ps'.length:Int))=true:=by simp;omega
  have HN:Hid (¬(bl=bl'∧ps=ps')):=Lib.hid fun e=>hlen2 (by rw[e.2])
  clear hlen hlen2
  go_enter Tryz.func83,Tryz.ntmps83
  go_wp2_with fail
  go_ret
  exact⟨false,rfl,⟨(fun h=>by cases h),fun h=>absurd h HN.out⟩,hB⟩
 have hlen2:=Classical.not_not.1 hlen2
 have hne2:((ps.length:Int) != (ps'.length:Int))=false:=by simp;omega
 have HLen:=Lib.hid hlen
 have HLen2:=Lib.hid hlen2
 clear hlen hlen2
 go_enter Tryz.func83,Tryz.ntmps83
 go_wp2_with fail
 go_loopw [5] (fun i wr=>∃K:Nat,K≤bl.length∧i= .int .i64 (K:Int)∧Below w.heap.size w wr∧w.heap.size+1<wr.heap.size∧(wr.cell? ⟨w.heap.size,0,none⟩=some (.slice p bl.length c)∧wr.cell? ⟨w.heap.size,1,none⟩=some (.slice q ps.length d)∧wr.cell? ⟨w.heap.size+1,0,none⟩=some (.slice p' bl'.length c')∧wr.cell? ⟨w.heap.size+1,1,none⟩=some (.slice q' ps'.length d'))∧Hid (∀i:Nat,i<K→bl[i]? =bl'[i]?)) (fun i _=>bl.length-(intOf i).toNat)
 case atStart=>
  refine⟨0,Nat.zero_le _,rfl,hB,by simp,⟨?_,?_,?_,?_⟩,Lib.hid fun i h=>by omega⟩
  ·exact((blk_new w 37 #[.slice p bl.length c,.slice q ps.length d]).alloc _).cell rfl
  ·exact((blk_new w 37 #[.slice p bl.length c,.slice q ps.length d]).alloc _).cell rfl
  ·have:=(blk_new (w.alloc (.cells #[.slice p bl.length c,.slice q ps.length d] 37)) 37 #[.slice p' bl'.length c',.slice q' ps'.length d']).cell (j:=0) rfl
   rwa [World.size_alloc]at this
  ·have:=(blk_new (w.alloc (.cells #[.slice p bl.length c,.slice q ps.length d] 37)) 37 #[.slice p' bl'.length c',.slice q' ps'.length d']).cell (j:=1) rfl
   rwa [World.size_alloc]at this
 case round=>
  clear hB
  obtain⟨K,hK,rfl,hB,hz,⟨c0,c1,d0,d1⟩,HE⟩:=hrel
  by_cases hlt:K<bl.length
  ·have hKI:(K:Int)<(bl.length:Int):=by omega
   have hKI2:(K:Int)<(bl'.length:Int):=by have:=HLen.out;omega
   obtain⟨x,hx⟩:∃x,bl[K]? =some x:=⟨_,List.getElem?_eq_getElem hlt⟩
   obtain⟨y,hy⟩:∃y,bl'[K]? =some y:=⟨_,List.getElem?_eq_getElem (by have:=HLen.out;omega)⟩
   obtain⟨g,off,u,rfl,hg,hx1,hx2⟩:=HLL.out K x hx
   obtain⟨g',off',v,rfl,hg',hy1,hy2⟩:=HRR.out K y hy
   have e0:=(hB.cell (p:=⟨g,off+K,none⟩) hg).trans hx2
   have e1:=(hB.cell (p:=⟨g',off'+K,none⟩) hg').trans hy2
   have HX:=Lib.hid (show ∀W,Below w.heap.size w W→w.heap.size≤W.heap.size→InAt W W.heap.size x u from fun W hW hz=>hx1.keep (fun p9 hp9=>hW.cell hp9) hz)
   have HY:=Lib.hid (show ∀W,Below w.heap.size w W→w.heap.size≤W.heap.size→InAt W W.heap.size y v from fun W hW hz=>hy1.keep (fun p9 hp9=>hW.cell hp9) hz)
   have Hx:=Lib.hid hx
   have Hy:=Lib.hid hy
   clear hx hy hx1 hy1 hx2 hy2
   go_wp2_with fail
   refine wp_region_held_drew (S:=(fun w9=>w9.cell? ⟨w.heap.size,0,none⟩=some (.slice (some ⟨g,off,none⟩) bl.length c)∧w9.cell? ⟨w.heap.size+1,0,none⟩=some (.slice (some ⟨g',off',none⟩) bl'.length c')∧w9.cell? ⟨g,off+K,none⟩=some u∧w9.cell? ⟨g',off'+K,none⟩=some v)) (by kernel_rfl) ⟨c0,d0,e0,e1⟩ (fun hHeld=> ?_)
   have hB:=hB.drew
   have hz:w.heap.size+1<wr.drew.heap.size:=hz
   refine tk 0 ⟨some 30,_,_,_,_,_⟩ ?_ hHeld ?_ ?_
   rotate_left
   ·(intro w9 hSw;(try dsimp only at hSw);go_simp)
    all_goals with_reducible rfl
   try simp only[Act.put,List.setIfInBounds_toArray,List.set_cons_zero,List.set_cons_succ]
   refine tk 1 ⟨some 31,_,_,_,_,_⟩ ?_ hHeld ?_ ?_
   rotate_left
   ·(intro w9 hSw;(try dsimp only at hSw);go_simp)
    all_goals with_reducible rfl
   try simp only[Act.put,List.setIfInBounds_toArray,List.set_cons_zero,List.set_cons_succ]
   refine tk 2 ⟨some 32,_,_,_,_,_⟩ ?_ hHeld ?_ ?_
   rotate_left
   ·(intro w9 hSw;(try dsimp only at hSw);go_simp)
    all_goals with_reducible rfl
   try simp only[Act.put,List.setIfInBounds_toArray,List.set_cons_zero,List.set_cons_succ]
   refine tk 3 ⟨some 33,_,_,_,_,_⟩ ?_ hHeld ?_ ?_
   rotate_left
   ·(intro w9 hSw;(try dsimp only at hSw);go_simp)
    all_goals with_reducible rfl
   try simp only[Act.put,List.setIfInBounds_toArray,List.set_cons_zero,List.set_cons_succ]
   refine tk 4 ⟨some 34,_,_,_,_,_⟩ ?_ hHeld ?_ ?_
   rotate_left
   ·(intro w9 hSw;(try dsimp only at hSw);go_simp)
    all_goals with_reducible rfl
   try simp only[Act.put,List.setIfInBounds_toArray,List.set_cons_zero,List.set_cons_succ]
   refine tk 5 ⟨some 35,_,_,_,_,_⟩ ?_ hHeld ?_ ?_
   rotate_left
   ·(intro w9 hSw;(try dsimp only at hSw);go_simp)
    all_goals with_reducible rfl
   try simp only[Act.put,List.setIfInBounds_toArray,List.set_cons_zero,List.set_cons_succ]
   refine tk 6 ⟨some 36,_,_,_,_,_⟩ ?_ hHeld ?_ ?_
   rotate_left
   ·(intro w9 hSw;(try dsimp only at hSw);go_simp)
    all_goals with_reducible rfl
   try simp only[Act.put,List.setIfInBounds_toArray,List.set_cons_zero,List.set_cons_succ]
   refine tk 7 ⟨some 37,_,_,_,_,_⟩ ?_ hHeld ?_ ?_
   rotate_left
   ·(intro w9 hSw;(try dsimp only at hSw);go_simp)
    all_goals with_reducible rfl
   try simp only[Act.put,List.setIfInBounds_toArray,List.set_cons_zero,List.set_cons_succ]
   refine tk 8 ⟨some 38,_,_,_,_,_⟩ ?_ hHeld ?_ ?_
   rotate_left
   ·(intro w9 hSw;(try dsimp only at hSw);go_simp)
    all_goals with_reducible rfl
   try simp only[Act.put,List.setIfInBounds_toArray,List.set_cons_zero,List.set_cons_succ]
   refine tk 9 ⟨some 39,_,_,_,_,_⟩ ?_ hHeld ?_ ?_
   rotate_left
   ·(intro w9 hSw;(try dsimp only at hSw);go_simp)
    all_goals with_reducible rfl
   try simp only[Act.put,List.setIfInBounds_toArray,List.set_cons_zero,List.set_cons_succ]
   refine wpAnyH_ready (rs:= [10]) (by kernel_rfl) (by simp) ?_
   refine(AllReadyH.cons (o:=⟨some 40,_,_,_,_,_⟩) rfl (fun KK hK=> ?_) AllReadyH.nil)
   ·(try rw[if_pos (by rfl)])
    go_simp
    refine(rblock_any x y u v _ (HX.out _ hB (by omega)) (HY.out _ hB (by omega))).mono ?_
    rintro e3 w3 ⟨b,rfl,hb,hB3⟩
    have c0:=(hB3.cell (p:=⟨w.heap.size,0,none⟩) (by show w.heap.size<_;omega)).trans c0
    have c1:=(hB3.cell (p:=⟨w.heap.size,1,none⟩) (by show w.heap.size<_;omega)).trans c1
    have d0:=(hB3.cell (p:=⟨w.heap.size+1,0,none⟩) (by show w.heap.size+1<_;omega)).trans d0
    have d1:=(hB3.cell (p:=⟨w.heap.size+1,1,none⟩) (by show w.heap.size+1<_;omega)).trans d1
    have e0:=(hB3.cell (p:=⟨g,off+K,none⟩) (by show g<_;omega)).trans e0
    have e1:=(hB3.cell (p:=⟨g',off'+K,none⟩) (by show g'<_;omega)).trans e1
    have hz:=Nat.lt_of_lt_of_le hz hB3.size
    have hB:=hB.trans (hB3.mono (by omega))
    clear hB3
    refine hK.out _ _ ⟨c0,d0,e0,e1⟩ ?_
    clear hK KK hHeld
    intro hHeld
    try simp only[Act.put,List.setIfInBounds_toArray,List.set_cons_zero,List.set_cons_succ]
    refine tk 11 ⟨some 41,_,_,_,_,_⟩ ?_ hHeld ?_ ?_
    rotate_left
    ·(intro w9 hSw;(try dsimp only at hSw);go_simp)
     all_goals with_reducible rfl
    try simp only[Act.put,List.setIfInBounds_toArray,List.set_cons_zero,List.set_cons_succ]
    refine wpAnyH_done (by kernel_rfl) ?_ _
    try simp only[Act.put,List.setIfInBounds_toArray,List.set_cons_zero,List.set_cons_succ]
    cases b with
    |true=>
     have HE':Hid (∀i:Nat,i<K+1→bl[i]? =bl'[i]?):=Lib.hid fun i hi=>by
      by_cases e:i=K
      ·subst e;rw[Hx.out,Hy.out,hb.1 rfl]
      ·exact HE.out i (by omega)
     clear hb
     go_wp2_with fail
     go_roundw
     case rel=>exact⟨K+1,by omega,by go_num,hB,hz,⟨c0,c1,d0,d1⟩,HE'⟩
     case measure=>simp[intOf];omega
    |false=>
     have HN:Hid (¬(bl=bl'∧ps=ps')):=Lib.hid fun e=>by
      have e1:=e.1
      subst e1
      have:=Hx.out.symm.trans Hy.out
      injection this with this
      exact absurd (hb.2 this) (by decide)
     clear hb
     go_wp2_with fail
     go_ret
     exact⟨false,rfl,⟨(fun h=>by cases h),fun h=>absurd h HN.out⟩,hB⟩
  ·have hKI:¬(K:Int)<(bl.length:Int):=by omega
   have HBL:Hid (bl=bl'):=Lib.hid (by
    apply List.ext_getElem?
    intro i
    by_cases hi:i<K
    ·exact HE.out i hi
    ·rw[List.getElem?_eq_none (by omega),List.getElem?_eq_none (by have:=HLen.out;omega)])
   clear HE
   go_wp2_with fail
   go_loopw [6] (fun i wr=>∃K:Nat,K≤ps.length∧i= .int .i64 (K:Int)∧Below w.heap.size w wr∧w.heap.size+1<wr.heap.size∧(wr.cell? ⟨w.heap.size,0,none⟩=some (.slice p bl.length c)∧wr.cell? ⟨w.heap.size,1,none⟩=some (.slice q ps.length d)∧wr.cell? ⟨w.heap.size+1,0,none⟩=some (.slice p' bl'.length c')∧wr.cell? ⟨w.heap.size+1,1,none⟩=some (.slice q' ps'.length d'))∧Hid (∀i:Nat,i<K→ps[i]? =ps'[i]?)) (fun i _=>ps.length-(intOf i).toNat)
   case atStart=>exact⟨0,Nat.zero_le _,rfl,hB,hz,⟨c0,c1,d0,d1⟩,Lib.hid fun i h=>by omega⟩
   case round=>
    clear hB hz c0 c1 d0 d1 hK hlt hKI
    obtain⟨J,hJ,rfl,hB,hz,⟨c0,c1,d0,d1⟩,HE⟩:=hrel
    by_cases hlt:J<ps.length
    ·have hKI:(J:Int)<(ps.length:Int):=by omega
     have hKI2:(J:Int)<(ps'.length:Int):=by have:=HLen2.out;omega
     obtain⟨s,hs⟩:∃x,ps[J]? =some x:=⟨_,List.getElem?_eq_getElem hlt⟩
     obtain⟨s',hs'⟩:∃y,ps'[J]? =some y:=⟨_,List.getElem?_eq_getElem (by have:=HLen2.out;omega)⟩
     obtain⟨_,g,off,rfl,hg,hx2⟩:=HMM.out J s hs
     obtain⟨_,g',off',rfl,hg',hy2⟩:=HNN.out J s' hs'
     have e0:=(hB.cell (p:=⟨g,off+J,none⟩) hg).trans hx2
     have e1:=(hB.cell (p:=⟨g',off'+J,none⟩) hg').trans hy2
     have Hx:=Lib.hid hs
     have Hy:=Lib.hid hs'
     clear hs hs' hx2 hy2
     by_cases hss:s=s'
     ·subst hss
      have HE':Hid (∀i:Nat,i<J+1→ps[i]? =ps'[i]?):=Lib.hid fun i hi=>by
       by_cases e:i=J
       ·subst e;rw[Hx.out,Hy.out]
       ·exact HE.out i (by omega)
      go_wp2_with fail
      refine wp_region_held_drew (S:=(fun w9=>w9.cell? ⟨w.heap.size,1,none⟩=some (.slice (some ⟨g,off,none⟩) ps.length d)∧w9.cell? ⟨w.heap.size+1,1,none⟩=some (.slice (some ⟨g',off',none⟩) ps'.length d')∧w9.cell? ⟨g,off+J,none⟩=some (.string s)∧w9.cell? ⟨g',off'+J,none⟩=some (.string s))) (by kernel_rfl) ⟨c1,d1,e0,e1⟩ (fun hHeld=> ?_)
      have hB:=hB.drew
      have hz:w.heap.size+1<wr.drew.heap.size:=hz
      refine tk 0 ⟨some 49,_,_,_,_,_⟩ ?_ hHeld ?_ ?_
      rotate_left
      ·(intro w9 hSw;(try dsimp only at hSw);go_simp)
       all_goals with_reducible rfl
      try simp only[Act.put,List.setIfInBounds_toArray,List.set_cons_zero,List.set_cons_succ]
      refine tk 1 ⟨some 50,_,_,_,_,_⟩ ?_ hHeld ?_ ?_
      rotate_left
      ·(intro w9 hSw;(try dsimp only at hSw);go_simp)
       all_goals with_reducible rfl
      try simp only[Act.put,List.setIfInBounds_toArray,List.set_cons_zero,List.set_cons_succ]
      refine tk 2 ⟨some 51,_,_,_,_,_⟩ ?_ hHeld ?_ ?_
      rotate_left
      ·(intro w9 hSw;(try dsimp only at hSw);go_simp)
       all_goals with_reducible rfl
      try simp only[Act.put,List.setIfInBounds_toArray,List.set_cons_zero,List.set_cons_succ]
      refine tk 3 ⟨some 52,_,_,_,_,_⟩ ?_ hHeld ?_ ?_
      rotate_left
      ·(intro w9 hSw;(try dsimp only at hSw);go_simp)
       all_goals with_reducible rfl
      try simp only[Act.put,List.setIfInBounds_toArray,List.set_cons_zero,List.set_cons_succ]
      refine tk 4 ⟨some 53,_,_,_,_,_⟩ ?_ hHeld ?_ ?_
      rotate_left
      ·(intro w9 hSw;(try dsimp only at hSw);go_simp)
       all_goals with_reducible rfl
      try simp only[Act.put,List.setIfInBounds_toArray,List.set_cons_zero,List.set_cons_succ]
      refine tk 5 ⟨some 54,_,_,_,_,_⟩ ?_ hHeld ?_ ?_
      rotate_left
      ·(intro w9 hSw;(try dsimp only at hSw);go_simp)
       all_goals with_reducible rfl
      try simp only[Act.put,List.setIfInBounds_toArray,List.set_cons_zero,List.set_cons_succ]
      refine tk 6 ⟨some 55,_,_,_,_,_⟩ ?_ hHeld ?_ ?_
      rotate_left
      ·(intro w9 hSw;(try dsimp only at hSw);go_simp)
       all_goals with_reducible rfl
      try simp only[Act.put,List.setIfInBounds_toArray,List.set_cons_zero,List.set_cons_succ]
      refine tk 7 ⟨some 56,_,_,_,_,_⟩ ?_ hHeld ?_ ?_
      rotate_left
      ·(intro w9 hSw;(try dsimp only at hSw);go_simp)
       all_goals with_reducible rfl
      try simp only[Act.put,List.setIfInBounds_toArray,List.set_cons_zero,List.set_cons_succ]
      refine tk 8 ⟨some 57,_,_,_,_,_⟩ ?_ hHeld ?_ ?_
      rotate_left
      ·(intro w9 hSw;(try dsimp only at hSw);go_simp)
       all_goals with_reducible rfl
      try simp only[Act.put,List.setIfInBounds_toArray,List.set_cons_zero,List.set_cons_succ]
      refine tk 9 ⟨some 58,_,_,_,_,_⟩ ?_ hHeld ?_ ?_
      rotate_left
      ·(intro w9 hSw;(try dsimp only at hSw);go_simp)
       all_goals with_reducible rfl
      try simp only[Act.put,List.setIfInBounds_toArray,List.set_cons_zero,List.set_cons_succ]
      refine tk 10 ⟨some 59,_,_,_,_,_⟩ ?_ hHeld ?_ ?_
      rotate_left
      ·(intro w9 hSw;(try dsimp only at hSw);go_simp)
       all_goals with_reducible rfl
      try simp only[Act.put,List.setIfInBounds_toArray,List.set_cons_zero,List.set_cons_succ]
      refine wpAnyH_done (by kernel_rfl) ?_ _
      try simp only[Act.put,List.setIfInBounds_toArray,List.set_cons_zero,List.set_cons_succ]
      clear HE
      go_wp2_with fail
      go_roundw
      case rel=>exact⟨J+1,by omega,by go_num,hB,hz,⟨c0,c1,d0,d1⟩,HE'⟩
      case measure=>simp[intOf];omega
     ·have f0:=str_ne hss
      have f1:(s.toList==s'.toList)=false:=beq_eq_false_iff_ne.2 f0
      have HN:Hid (¬(bl=bl'∧ps=ps')):=Lib.hid fun e=>by
       have e1:=e.2
       subst e1
       have:=Hx.out.symm.trans Hy.out
       injection this with this
       exact hss this
      clear hss
      go_wp2_with fail
      refine wp_region_held_drew (S:=(fun w9=>w9.cell? ⟨w.heap.size,1,none⟩=some (.slice (some ⟨g,off,none⟩) ps.length d)∧w9.cell? ⟨w.heap.size+1,1,none⟩=some (.slice (some ⟨g',off',none⟩) ps'.length d')∧w9.cell? ⟨g,off+J,none⟩=some (.string s)∧w9.cell? ⟨g',off'+J,none⟩=some (.string s'))) (by kernel_rfl) ⟨c1,d1,e0,e1⟩ (fun hHeld=> ?_)
      have hB:=hB.drew
      have hz:w.heap.size+1<wr.drew.heap.size:=hz
      refine tk 0 ⟨some 49,_,_,_,_,_⟩ ?_ hHeld ?_ ?_
      rotate_left
      ·(intro w9 hSw;(try dsimp only at hSw);go_simp)
       all_goals with_reducible rfl
      try simp only[Act.put,List.setIfInBounds_toArray,List.set_cons_zero,List.set_cons_succ]
      refine tk 1 ⟨some 50,_,_,_,_,_⟩ ?_ hHeld ?_ ?_
      rotate_left
      ·(intro w9 hSw;(try dsimp only at hSw);go_simp)
       all_goals with_reducible rfl
      try simp only[Act.put,List.setIfInBounds_toArray,List.set_cons_zero,List.set_cons_succ]
      refine tk 2 ⟨some 51,_,_,_,_,_⟩ ?_ hHeld ?_ ?_
      rotate_left
      ·(intro w9 hSw;(try dsimp only at hSw);go_simp)
       all_goals with_reducible rfl
      try simp only[Act.put,List.setIfInBounds_toArray,List.set_cons_zero,List.set_cons_succ]
      refine tk 3 ⟨some 52,_,_,_,_,_⟩ ?_ hHeld ?_ ?_
      rotate_left
      ·(intro w9 hSw;(try dsimp only at hSw);go_simp)
       all_goals with_reducible rfl
      try simp only[Act.put,List.setIfInBounds_toArray,List.set_cons_zero,List.set_cons_succ]
      refine tk 4 ⟨some 53,_,_,_,_,_⟩ ?_ hHeld ?_ ?_
      rotate_left
      ·(intro w9 hSw;(try dsimp only at hSw);go_simp)
       all_goals with_reducible rfl
      try simp only[Act.put,List.setIfInBounds_toArray,List.set_cons_zero,List.set_cons_succ]
      refine tk 5 ⟨some 54,_,_,_,_,_⟩ ?_ hHeld ?_ ?_
      rotate_left
      ·(intro w9 hSw;(try dsimp only at hSw);go_simp)
       all_goals with_reducible rfl
      try simp only[Act.put,List.setIfInBounds_toArray,List.set_cons_zero,List.set_cons_succ]
      refine tk 6 ⟨some 55,_,_,_,_,_⟩ ?_ hHeld ?_ ?_
      rotate_left
      ·(intro w9 hSw;(try dsimp only at hSw);go_simp)
       all_goals with_reducible rfl
      try simp only[Act.put,List.setIfInBounds_toArray,List.set_cons_zero,List.set_cons_succ]
      refine tk 7 ⟨some 56,_,_,_,_,_⟩ ?_ hHeld ?_ ?_
      rotate_left
      ·(intro w9 hSw;(try dsimp only at hSw);go_simp)
       all_goals with_reducible rfl
      try simp only[Act.put,List.setIfInBounds_toArray,List.set_cons_zero,List.set_cons_succ]
      refine tk 8 ⟨some 57,_,_,_,_,_⟩ ?_ hHeld ?_ ?_
      rotate_left
      ·(intro w9 hSw;(try dsimp only at hSw);go_simp)
       all_goals with_reducible rfl
      try simp only[Act.put,List.setIfInBounds_toArray,List.set_cons_zero,List.set_cons_succ]
      refine tk 9 ⟨some 58,_,_,_,_,_⟩ ?_ hHeld ?_ ?_
      rotate_left
      ·(intro w9 hSw;(try dsimp only at hSw);go_simp)
       all_goals with_reducible rfl
      try simp only[Act.put,List.setIfInBounds_toArray,List.set_cons_zero,List.set_cons_succ]
      refine tk 10 ⟨some 59,_,_,_,_,_⟩ ?_ hHeld ?_ ?_
      rotate_left
      ·(intro w9 hSw;(try dsimp only at hSw);go_simp)
       all_goals with_reducible rfl
      try simp only[Act.put,List.setIfInBounds_toArray,List.set_cons_zero,List.set_cons_succ]
      refine wpAnyH_done (by kernel_rfl) ?_ _
      try simp only[Act.put,List.setIfInBounds_toArray,List.set_cons_zero,List.set_cons_succ]
      clear HE
      go_wp2_with fail
      go_ret
      exact⟨false,rfl,⟨(fun h=>by cases h),fun h=>absurd h HN.out⟩,hB⟩
    ·have hKI:¬(J:Int)<(ps.length:Int):=by omega
     have HPS:Hid (bl=bl'∧ps=ps'):=Lib.hid ⟨HBL.out,by
      apply List.ext_getElem?
      intro i
      by_cases hi:i<J
      ·exact HE.out i hi
      ·rw[List.getElem?_eq_none (by omega),List.getElem?_eq_none (by have:=HLen2.out;omega)]⟩
     clear HE
     go_wp2_with fail
     go_ret
     exact⟨true,rfl,⟨fun _=>HPS.out,fun _=>rfl⟩,hB⟩
end Go.Proofs.YtmhfioimgllgeaaGreatDoor
namespace Go.Proofs.YtmhfioimgllgeaaGreatDoor
open Go Go.RowKit Go.Shelf
set_option maxRecDepth 100000 in
set_option maxHeartbeats 16000000 in
theorem rsame_step (n:Nat) (ih:∀(x y:Vl) (v u:Value) (w:World),Rp w w.heap.size n x v→Rp w w.heap.size n y u→Calls Tryz.prog 38 #[v,u] w (Tells (x=y) w))
 (x y:Vl) (v u:Value) (w:World) (hx:Rp w w.heap.size (n+1) x v) (hy:Rp w w.heap.size (n+1) y u):Calls Tryz.prog 38 #[v,u] w (Tells (x=y) w):=by
 obtain⟨L,Bs,Ps,rfl,_,hl,hb,hp,_⟩:=hx
 obtain⟨L',Bs',Ps',rfl,_,hl',hb',hp',_⟩:=hy
 obtain⟨k,m,e,s,b,err,rows,cols,l,fn,bl,ps⟩:=x
 obtain⟨k',m',e',s',b',err',rows',cols',l',fn',bl',ps'⟩:=y
 obtain⟨P,hP⟩:∃P:Prop,((⟨k,m,e,s,b,err,rows,cols,l,fn,bl,ps⟩:Vl)=⟨k',m',e',s',b',err',rows',cols',l',fn',bl',ps'⟩)↔P:=⟨_,Iff.rfl⟩
 refine tells_of hP ?_
 have HP:=Lib.hid hP
 clear hP
 have HIH:=Lib.hid ih
 have HCD:=Lib.hid (show ∀W,Below w.heap.size w W→w.heap.size≤W.heap.size→Calls Tryz.prog 83 #[.agg #[Bs,Ps],.agg #[Bs',Ps']] W (Tells (bl=bl'∧ps=ps') W)from fun W hb3 hz3=>
  rcode_any bl bl' ps ps' Bs Bs' Ps Ps' W (hb.keep (fun p9 hp9=>hb3.cell hp9) hz3) (hb'.keep (fun p9 hp9=>hb3.cell hp9) hz3) (hp.keep (fun p9 hp9=>hb3.cell hp9) hz3) (hp'.keep (fun p9 hp9=>hb3.cell hp9) hz3))
 obtain⟨p,c,rfl,l1,l2,l3,_,HL⟩:=hl
 obtain⟨p',c',rfl,r1,r2,r3,_,HR⟩:=hl'
 obtain⟨pb,cb,rfl,_,_,_,_⟩:=hb
 obtain⟨pb',cb',rfl,_,_,_,_⟩:=hb'
 obtain⟨pp,cp,rfl,_,_,_,_⟩:=hp
 obtain⟨pp',cp',rfl,_,_,_,_⟩:=hp'
 have HLL:=Lib.hid HL
 have HRR:=Lib.hid HR
 clear HL HR ih
 unfold maxLen at l2 r2
 obtain⟨C,hC⟩:∃C,vcs ⟨k,m,e,s,b,err,rows,cols,l,fn,bl,ps⟩ (.slice p l.length c) (.slice pb bl.length cb) (.slice pp ps.length cp)=C:=⟨_,rfl⟩
 obtain⟨C',hC'⟩:∃C,vcs ⟨k',m',e',s',b',err',rows',cols',l',fn',bl',ps'⟩ (.slice p' l'.length c') (.slice pb' bl'.length cb') (.slice pp' ps'.length cp')=C:=⟨_,rfl⟩
 dsimp only at hC hC' HLL HRR⊢
 rw[hC,hC']
 have x0:C[0]? =some (.int .i64 k):=by rw[←hC];rfl
 have x1:C[1]? =some (.int .i64 m):=by rw[←hC];rfl
 have x2:C[2]? =some (.int .i64 e):=by rw[←hC];rfl
 have x3:C[3]? =some (.string s):=by rw[←hC];rfl
 have x4:C[4]? =some (.bool b):=by rw[←hC];rfl
 have x5:C[5]? =some (.int .i64 err):=by rw[←hC];rfl
 have x6:C[6]? =some (.int .i64 rows):=by rw[←hC];rfl
 have x7:C[7]? =some (.int .i64 cols):=by rw[←hC];rfl
 have x8:C[8]? =some (.slice p l.length c):=by rw[←hC];rfl
 have x9:C[9]? =some (.int .i64 fn):=by rw[←hC];rfl
 have x10:C[10]? =some (.slice pb bl.length cb):=by rw[←hC];rfl
 have x11:C[11]? =some (.slice pp ps.length cp):=by rw[←hC];rfl
 have y0:C'[0]? =some (.int .i64 k'):=by rw[←hC'];rfl
 have y1:C'[1]? =some (.int .i64 m'):=by rw[←hC'];rfl
 have y2:C'[2]? =some (.int .i64 e'):=by rw[←hC'];rfl
 have y3:C'[3]? =some (.string s'):=by rw[←hC'];rfl
 have y4:C'[4]? =some (.bool b'):=by rw[←hC'];rfl
 have y5:C'[5]? =some (.int .i64 err'):=by rw[←hC'];rfl
 have y6:C'[6]? =some (.int .i64 rows'):=by rw[←hC'];rfl
 have y7:C'[7]? =some (.int .i64 cols'):=by rw[←hC'];rfl
 have y8:C'[8]? =some (.slice p' l'.length c'):=by rw[←hC'];rfl
 have y9:C'[9]? =some (.int .i64 fn'):=by rw[←hC'];rfl
 have y10:C'[10]? =some (.slice pb' bl'.length cb'):=by rw[←hC'];rfl
 have y11:C'[11]? =some (.slice pp' ps'.length cp'):=by rw[←hC'];rfl
 clear hC hC'
 have hBW:Below w.heap.size w ((w.alloc (.cells C 39)).alloc (.cells C' 39)):=((Below.refl _ w).alloc (Nat.le_refl _) _).alloc (by simp) _
 have a9:∀f:Field,([f]:List Field)[0]? =some f:=fun _=>rfl
 have a90:∀f g:Field,([f,g]:List Field)[0]? =some f:=fun _ _=>rfl
 by_cases hne:¬k=k'
 ·have HN:Hid (¬P):=Lib.hid fun h=>hne (congrArg Vl.k (HP.out.2 h))
  have f0:(k != k')=true:=by simpa using hne
  clear hne
  go_enter Tryz.func38,Tryz.ntmps38
  go_wp2_with fail
  go_ret
  exact⟨false,rfl,⟨(fun h=>by cases h),fun h=>absurd h HN.out⟩,hBW⟩
 have hne:=Classical.not_not.1 hne
 subst hne
 by_cases hne:¬m=m'
 ·have HN:Hid (¬P):=Lib.hid fun h=>hne (congrArg Vl.m (HP.out.2 h))
  have f0:(m==m')=false:=by simpa using hne
  clear hne
  go_enter Tryz.func38,Tryz.ntmps38
  go_wp2_with fail
  go_ret
  exact⟨false,rfl,⟨(fun h=>by cases h),fun h=>absurd h HN.out⟩,hBW⟩
 have hne:=Classical.not_not.1 hne
 subst hne
 by_cases hne:¬e=e'
 ·have HN:Hid (¬P):=Lib.hid fun h=>hne (congrArg Vl.e (HP.out.2 h))
  have f0:(e==e')=false:=by simpa using hne
  clear hne
  go_enter Tryz.func38,Tryz.ntmps38
  go_wp2_with fail
  go_ret
  exact⟨false,rfl,⟨(fun h=>by cases h),fun h=>absurd h HN.out⟩,hBW⟩
 have hne:=Classical.not_not.1 hne
 subst hne
 by_cases hne:¬s=s'
 ·have HN:Hid (¬P):=Lib.hid fun h=>hne (congrArg Vl.s (HP.out.2 h))
  have f0:=str_ne hne
  clear hne
  go_enter Tryz.func38,Tryz.ntmps38
  go_wp2_with fail
  go_ret
  exact⟨false,rfl,⟨(fun h=>by cases h),fun h=>absurd h HN.out⟩,hBW⟩
 have hne:=Classical.not_not.1 hne
 subst hne
 by_cases hne:¬b=b'
 ·have HN:Hid (¬P):=Lib.hid fun h=>hne (congrArg Vl.b (HP.out.2 h))
  have f0:(b==b')=false:=by simpa using hne
  clear hne
  go_enter Tryz.func38,Tryz.ntmps38
  go_wp2_with fail
  go_ret
  exact⟨false,rfl,⟨(fun h=>by cases h),fun h=>absurd h HN.out⟩,hBW⟩
 have hne:=Classical.not_not.1 hne
 subst hne
 by_cases hne:¬err=err'
 ·have HN:Hid (¬P):=Lib.hid fun h=>hne (congrArg Vl.err (HP.out.2 h))
  have f0:(err != err')=true:=by simpa using hne
  clear hne
  go_enter Tryz.func38,Tryz.ntmps38
  go_wp2_with fail
  go_ret
  exact⟨false,rfl,⟨(fun h=>by cases h),fun h=>absurd h HN.out⟩,hBW⟩
 have hne:=Classical.not_not.1 hne
 subst hne
 by_cases hne:¬rows=rows'
 ·have HN:Hid (¬P):=Lib.hid fun h=>hne (congrArg Vl.rows (HP.out.2 h))
  have f0:(rows != rows')=true:=by simpa using hne
  clear hne
  go_enter Tryz.func38,Tryz.ntmps38
  go_wp2_with fail
  go_ret
  exact⟨false,rfl,⟨(fun h=>by cases h),fun h=>absurd h HN.out⟩,hBW⟩
 have hne:=Classical.not_not.1 hne
 subst hne
 by_cases hne:¬cols=cols'
 ·have HN:Hid (¬P):=Lib.hid fun h=>hne (congrArg Vl.cols (HP.out.2 h))
  have f0:(cols != cols')=true:=by simpa using hne
  clear hne
  go_enter Tryz.func38,Tryz.ntmps38
  go_wp2_with fail
  go_ret
  exact⟨false,rfl,⟨(fun h=>by cases h),fun h=>absurd h HN.out⟩,hBW⟩
 have hne:=Classical.not_not.1 hne
 subst hne
 by_cases hne:¬fn=fn'
 ·have HN:Hid (¬P):=Lib.hid fun h=>hne (congrArg Vl.fn (HP.out.2 h))
  have f0:(fn != fn')=true:=by simpa using hne
  clear hne
  go_enter Tryz.func38,Tryz.ntmps38
  go_wp2_with fail
  go_ret
  exact⟨false,rfl,⟨(fun h=>by cases h),fun h=>absurd h HN.out⟩,hBW⟩
 have hne:=Classical.not_not.1 hne
 subst hne
 by_cases hlen:¬l.length=l'.length
 ·have HN:Hid (¬P):=Lib.hid fun h=>hlen (congrArg (fun x:Vl=>x.l.length) (HP.out.2 h))
  have f0:((l.length:Int) != (l'.length:Int))=true:=by simp;omega
  clear hlen
  go_enter Tryz.func38,Tryz.ntmps38
  go_wp2_with fail
  go_ret
  exact⟨false,rfl,⟨(fun h=>by cases h),fun h=>absurd h HN.out⟩,hBW⟩
 have hlen:=Classical.not_not.1 hlen
 have f0:((l.length:Int) != (l'.length:Int))=false:=by simp;omega
 have HLen:=Lib.hid hlen
 clear hlen
 go_enter Tryz.func38,Tryz.ntmps38
 go_wp2_with fail
 obtain⟨W,hW⟩:∃W,W=(w.alloc (.cells C 39)).alloc (.cells C' 39):=⟨_,rfl⟩
 rw[←hW]
 rw[←hW]at hBW
 have hvx:World.vb W w.heap.size C:=by rw[hW];exact(World.vb_new w C).alloc _
 have hvy:World.vb W (w.heap.size+1) C':=by rw[hW];exact World.vb_new' _ _ _ (by simp)
 have hB:=hBW
 have X8:=Lib.hid x8
 have Y8:=Lib.hid y8
 clear hW hBW x0 x1 x2 x3 x4 x5 x6 x7 x8 x9 x10 x11 y0 y1 y2 y3 y4 y5 y6 y7 y8 y9 y10 y11
 refine(HCD.out _ hB hB.size).mono ?_
 rintro e3 w3 ⟨b1,rfl,hb1,hB3⟩
 have hvx:=hvx.below hB3 hvx.lt
 have hvy:=hvy.below hB3 hvy.lt
 have hB:=hB.trans (hB3.mono hB.size)
 have u8:=hvx.cell X8.out
 have v8:=hvy.cell Y8.out
 clear hB3
 cases b1 with
 |false=>
  have HN:Hid (¬P):=Lib.hid fun h=>absurd (hb1.2 ⟨congrArg Vl.bl (HP.out.2 h),congrArg Vl.ps (HP.out.2 h)⟩) (by decide)
  clear hb1
  go_wp2_with fail
  go_ret
  exact⟨false,rfl,⟨(fun h=>by cases h),fun h=>absurd h HN.out⟩,hB⟩
 |true=>
  have E1:Hid (bl=bl'∧ps=ps'):=Lib.hid (hb1.1 rfl)
  clear hb1
  go_wp2_with fail
  go_loopw [5] (fun i wr=>∃K:Nat,K≤l.length∧i= .int .i64 (K:Int)∧Below w.heap.size w wr∧World.vb wr w.heap.size C∧World.vb wr (w.heap.size+1) C'∧Hid (∀i:Nat,i<K→l[i]? =l'[i]?)) (fun i _=>l.length-(intOf i).toNat)
  case atStart=>exact⟨0,Nat.zero_le _,rfl,hB,hvx,hvy,Lib.hid fun i h=>by omega⟩
  case round=>
   clear hB hvx hvy u8 v8
   obtain⟨K,hK,rfl,hB,hvx,hvy,HE⟩:=hrel
   have u8:=hvx.cell X8.out
   have v8:=hvy.cell Y8.out
   by_cases hlt:K<l.length
   ·have hKI:(K:Int)<(l.length:Int):=by omega
    have hKI2:(K:Int)<(l'.length:Int):=by have:=HLen.out;omega
    obtain⟨x,hx⟩:∃x,l[K]? =some x:=⟨_,List.getElem?_eq_getElem hlt⟩
    obtain⟨y,hy⟩:∃y,l'[K]? =some y:=⟨_,List.getElem?_eq_getElem (by have:=HLen.out;omega)⟩
    obtain⟨g,off,cs,rfl,hg,hs,hx1,hx2⟩:=HLL.out K x hx
    obtain⟨g',off',cs',rfl,hg',hs',hy1,hy2⟩:=HRR.out K y hy
    have HCC:=Lib.hid (show ∀W,Below w.heap.size w W→∀j u,cs[j]? =some u→W.cell? ⟨g,off+K*12+j,none⟩=some u from fun W hW j u hj=>(hW.cell (p:=⟨g,_,none⟩) hg).trans (hx2 j u hj))
    have HCC':=Lib.hid (show ∀W,Below w.heap.size w W→∀j u,cs'[j]? =some u→W.cell? ⟨g',off'+K*12+j,none⟩=some u from fun W hW j u hj=>(hW.cell (p:=⟨g',_,none⟩) hg').trans (hy2 j u hj))
    have HOO:=Lib.hid hx1.one
    have HOO':=Lib.hid hy1.one
    have HX:=Lib.hid (show ∀W,Below w.heap.size w W→w.heap.size≤W.heap.size→Rp W W.heap.size n x (.agg cs)from fun W hW hz=>hx1.below hW hz)
    have HY:=Lib.hid (show ∀W,Below w.heap.size w W→w.heap.size≤W.heap.size→Rp W W.heap.size n y (.agg cs')from fun W hW hz=>hy1.below hW hz)
    have Hx:=Lib.hid hx
    have Hy:=Lib.hid hy
    clear hx hy hx1 hy1 hx2 hy2 hs hs'
    go_wp2_with fail
    have hB:=hB.drew
    have hvx:=hvx.drew
    have hvy:=hvy.drew
    clear u8 v8
    have u8:=hvx.cell X8.out
    have v8:=hvy.cell Y8.out
    refine wp_region_held_drew (S:=(fun w9=>w9.cell? ⟨w.heap.size,8,none⟩=some (.slice (some ⟨g,off,none⟩) l.length c)∧w9.cell? ⟨w.heap.size+1,8,none⟩=some (.slice (some ⟨g',off',none⟩) l'.length c')∧(∀j u,cs[j]? =some u→w9.cell? ⟨g,off+K*12+j,none⟩=some u)∧(∀j u,cs'[j]? =some u→w9.cell? ⟨g',off'+K*12+j,none⟩=some u))) (by kernel_rfl) ⟨u8,v8,HCC.out _ hB,HCC'.out _ hB⟩ (fun hHeld=> ?_)
    refine tk 0 ⟨some 84,_,_,_,_,_⟩ ?_ hHeld ?_ ?_
    rotate_left
    ·(intro w9 hSw;(try dsimp only at hSw);go_simp)
     all_goals with_reducible rfl
    try simp only[Act.put,List.setIfInBounds_toArray,List.set_cons_zero,List.set_cons_succ]
    refine tk 1 ⟨some 85,_,_,_,_,_⟩ ?_ hHeld ?_ ?_
    rotate_left
    ·(intro w9 hSw;obtain⟨hs1,hs2,_,_⟩:=hSw;go_simp)
     all_goals with_reducible rfl
    try simp only[Act.put,List.setIfInBounds_toArray,List.set_cons_zero,List.set_cons_succ]
    refine tk 2 ⟨some 86,_,_,_,_,_⟩ ?_ hHeld ?_ ?_
    rotate_left
    ·(intro w9 hSw;(try dsimp only at hSw);go_simp)
     all_goals with_reducible rfl
    try simp only[Act.put,List.setIfInBounds_toArray,List.set_cons_zero,List.set_cons_succ]
    refine tk 3 ⟨some 87,_,_,_,_,_⟩ ?_ hHeld ?_ ?_
    rotate_left
    ·(intro w9 hSw;(try dsimp only at hSw);go_simp)
     all_goals with_reducible rfl
    try simp only[Act.put,List.setIfInBounds_toArray,List.set_cons_zero,List.set_cons_succ]
    refine tk 4 ⟨some 88,_,_,_,_,_⟩ ?_ hHeld ?_ ?_
    rotate_left
    ·(intro w9 hSw;refine yields34a (x:= .tmp 87) (g:=g) (off:=off+K*12) (cs:=cs) ?_ ?_ HOO.out.1 hSw.2.2.1<;>rfl)
    try simp only[Act.put,List.setIfInBounds_toArray,List.set_cons_zero,List.set_cons_succ]
    refine tk 5 ⟨some 89,_,_,_,_,_⟩ ?_ hHeld ?_ ?_
    rotate_left
    ·(intro w9 hSw;(try dsimp only at hSw);go_simp)
     all_goals with_reducible rfl
    try simp only[Act.put,List.setIfInBounds_toArray,List.set_cons_zero,List.set_cons_succ]
    refine tk 6 ⟨some 90,_,_,_,_,_⟩ ?_ hHeld ?_ ?_
    rotate_left
    ·(intro w9 hSw;obtain⟨hs1,hs2,_,_⟩:=hSw;go_simp)
     all_goals with_reducible rfl
    try simp only[Act.put,List.setIfInBounds_toArray,List.set_cons_zero,List.set_cons_succ]
    refine tk 7 ⟨some 91,_,_,_,_,_⟩ ?_ hHeld ?_ ?_
    rotate_left
    ·(intro w9 hSw;(try dsimp only at hSw);go_simp)
     all_goals with_reducible rfl
    try simp only[Act.put,List.setIfInBounds_toArray,List.set_cons_zero,List.set_cons_succ]
    refine tk 8 ⟨some 92,_,_,_,_,_⟩ ?_ hHeld ?_ ?_
    rotate_left
    ·(intro w9 hSw;(try dsimp only at hSw);go_simp)
     all_goals with_reducible rfl
    try simp only[Act.put,List.setIfInBounds_toArray,List.set_cons_zero,List.set_cons_succ]
    refine tk 9 ⟨some 93,_,_,_,_,_⟩ ?_ hHeld ?_ ?_
    rotate_left
    ·(intro w9 hSw;refine yields34a (x:= .tmp 92) (g:=g') (off:=off'+K*12) (cs:=cs') ?_ ?_ HOO'.out.1 hSw.2.2.2<;>rfl)
    try simp only[Act.put,List.setIfInBounds_toArray,List.set_cons_zero,List.set_cons_succ]
    refine wpAnyH_ready (rs:= [10]) (by kernel_rfl) (by simp) ?_
    refine(AllReadyH.cons (o:=⟨some 94,_,_,_,_,_⟩) rfl (fun KK hK=> ?_) AllReadyH.nil)
    ·(try rw[if_pos (by rfl)])
     go_simp
     refine(HIH.out x y _ _ _ (HX.out _ hB hB.size) (HY.out _ hB hB.size)).mono ?_
     rintro e4 w4 ⟨b2,rfl,hb2,hB4⟩
     have hvx:=hvx.below hB4 hvx.lt
     have hvy:=hvy.below hB4 hvy.lt
     have hB:=hB.trans (hB4.mono hB.size)
     have u8:=hvx.cell X8.out
     have v8:=hvy.cell Y8.out
     clear hB4
     refine hK.out _ _ ⟨u8,v8,HCC.out _ hB,HCC'.out _ hB⟩ ?_
     clear hK KK hHeld
     intro hHeld
     try simp only[Act.put,List.setIfInBounds_toArray,List.set_cons_zero,List.set_cons_succ]
     refine tk 11 ⟨some 95,_,_,_,_,_⟩ ?_ hHeld ?_ ?_
     rotate_left
     ·(intro w9 hSw;(try dsimp only at hSw);go_simp)
      all_goals with_reducible rfl
     try simp only[Act.put,List.setIfInBounds_toArray,List.set_cons_zero,List.set_cons_succ]
     refine wpAnyH_done (by kernel_rfl) ?_ _
     try simp only[Act.put,List.setIfInBounds_toArray,List.set_cons_zero,List.set_cons_succ]
     cases b2 with
     |true=>
      have HE':Hid (∀i:Nat,i<K+1→l[i]? =l'[i]?):=Lib.hid fun i hi=>by
       by_cases e:i=K
       ·subst e;rw[Hx.out,Hy.out,hb2.1 rfl]
       ·exact HE.out i (by omega)
      clear hb2
      go_wp2_with fail
      go_roundw
      case rel=>exact⟨K+1,by omega,by go_num,hB,hvx,hvy,HE'⟩
      case measure=>simp[intOf];omega
     |false=>
      have HN:Hid (¬P):=Lib.hid fun h=>by
       have e1:l=l':=congrArg Vl.l (HP.out.2 h)
       have h1:=Hx.out
       have h2:=Hy.out
       rw[←e1]at h2
       have:=h1.symm.trans h2
       injection this with this
       exact absurd (hb2.2 this) (by decide)
      clear hb2
      go_wp2_with fail
      go_ret
      exact⟨false,rfl,⟨(fun h=>by cases h),fun h=>absurd h HN.out⟩,hB⟩
   ·have hKI:¬(K:Int)<(l.length:Int):=by omega
    have HN:Hid P:=Lib.hid (by
     have e1:l=l':=by
      apply List.ext_getElem?
      intro i
      by_cases hi:i<K
      ·exact HE.out i hi
      ·rw[List.getElem?_eq_none (by omega),List.getElem?_eq_none (by have:=HLen.out;omega)]
     obtain⟨e2,e3⟩:=E1.out
     exact HP.out.1 (by rw[e1,e2,e3]))
    clear HE
    go_wp2_with fail
    go_ret
    exact⟨true,rfl,⟨fun _=>HN.out,fun _=>rfl⟩,hB⟩
theorem rsame_any :∀(n:Nat) (x y:Vl) (v u:Value) (w:World),Rp w w.heap.size n x v→Rp w w.heap.size n y u→Calls Tryz.prog 38 #[v,u] w (Tells (x=y) w)
 |0,_,_,_,_,_,h,_=>h.elim
 |n+1,x,y,v,u,w,hx,hy=>rsame_step n (rsame_any n) x y v u w hx hy
end Go.Proofs.YtmhfioimgllgeaaGreatDoor
