/- Merged: Flw, Lgw, Lgz, Arb. -/
import Derived.Test.YtmhfioimgllgeaaGreatDoorU48
import Derived.Test.YtmhfioimgllgeaaGreatDoorU59
import Derived.Test.YtmhfioimgllgeaaGreatDoorU55
import Derived.Test.YtmhfioimgllgeaaGreatDoorU01
import Derived.Test.YtmhfioimgllgeaaGreatDoorU52
import Derived.Deep.CutBlock
import Derived.Test.YtmhfioimgllgeaaGreatDoorU35
namespace Go.Proofs.YtmhfioimgllgeaaGreatDoor
open Go Go.RowKit Go.Shelf
theorem blk_new'' (w:World) (t:Nat) (cs:Array Value):World.blk (w.alloc (.cells cs t)) w.heap.size t cs:=blk_new' w t cs _ rfl
theorem info61 :(Tryz.prog.info? 61).map (·.size)=some 5:=by kernel_rfl
theorem bslice1g (x:Vl) (w:World):(Instr.buildSlice 31 1 #[(0,.agg (pcs x))]).run Tryz.prog w= .ok (.slice (some ⟨w.heap.size,0,none⟩) 1 1) (w.alloc (.cells (vsC [x]).toArray 39)):=by kernel_rfl
theorem els_new (l:List Vl) (w:World):Els l w.heap.size 0 (w.alloc (.cells (vsC l).toArray 39)):=by
 refine⟨by simp,fun i y hy j u hj=> ?_⟩
 rw[Nat.zero_add]
 have h:=World.vb_new w (vsC l).toArray
 refine h.cell ?_
 rw[List.getElem?_toArray]
 have e:vsC l=(l.map pcs).flatMap (·.toList):=by unfold vsC;rw[List.flatMap_map]
 rw[e]
 refine cat_at (l.map pcs) (fun C hC=> ?_) i j (by rw[List.getElem?_map,hy];rfl) hj
 obtain⟨z,_,rfl⟩:=List.mem_map.1 hC
 rfl
theorem op_bsl1 {o:Oper} {a:Act} {w:World} {K:Act→World→Prop} {Q:Exit→Act→World→Prop} {p:Operand} {x:Vl} (ho:o.op= .buildSlice 31 1 #[(0,p)]) (hx:a.eval p= .agg (pcs x)) (h:K (a.put o.dst (.slice (some ⟨w.heap.size,0,none⟩) 1 1)) (w.alloc (.cells (vsC [x]).toArray 39))):o.wp Tryz.prog a w K Q:=by
 have hz:=bslice1g x w
 unfold Oper.wp execOp
 simp[ho,hx,hz]
 exact h
section
variable {ops : Array Oper} {rest : List Oper} {o : Oper} {a : Act} {w : World} {Q : Exit → Act → World → Prop}
theorem wpList_load61 {x:Operand} {g:Nat} {cs:Array Value} (hgd:o.guard=none) (ho:o.op= .load 61 x) (hx:a.eval x= .pointer (some ⟨g,0,none⟩)) (hn:World.blk w g 61 cs) (hs:cs.size=5)
 (h:wpList Tryz.prog ops Q rest (a.put o.dst (.agg cs)) w):wpList Tryz.prog ops Q (o :: rest) a w:=
 wpList_load_row hgd 61 x ho g hx 61 _ (0,0) _ hn Tryz.underlying61 rfl (by rw[hs];exact info61) h
end
set_option maxRecDepth 100000 in
set_option maxHeartbeats 4000000 in
theorem call20 (s:ByteArray) (L:Value) (w:World) (y:Vl) (p:Option Addr) (n c:Nat) (hL:L= .slice p n c) (h:∀W,Below w.heap.size w W→Calls Tryz.prog 18 #[.string s,L,.agg #[.int .i64 0,.int .i64 0]] W (Gives (.agg (pcs y)) W)):Calls Tryz.prog 20 #[.string s,L] w (Gives (.agg (pcs y)) w):=by
 subst hL
 have hB0:Below w.heap.size w (w.alloc (.cells vz 39)):=(Below.refl _ w).alloc (Nat.le_refl _) _
 have hv0:World.vb (w.alloc (.cells vz 39)) w.heap.size vz:=World.vb_new w vz
 have HC:=Lib.hid (h _ hB0)
 clear h
 go_enter Tryz.func20,Tryz.ntmps20
 go_wp2_with (first|refine wpList_alloc34 rfl rfl ?_|(go_at_call 18;refine HC.out.mono ?_;rintro e w1 ⟨rfl,hB1⟩;have hvy:=hv0.below hB1 hv0.lt;have hB:=hB0.trans (hB1.mono hB0.size))|(refine wpList_store34 rfl rfl rfl rfl hvy (by rfl) (pcs_one _) ?_;intro w9 hn9 hg9 hz9))
 refine bodyPost_ret (results_cell_row rfl _ _ _ 39 _ (0,0) _ rfl hn9 Tryz.underlying39 rfl info34) rfl ?_
 exact⟨rfl,hB.grown hg9 hB.size (fun k9 hk9=>by cases hk9;omega)⟩
end Go.Proofs.YtmhfioimgllgeaaGreatDoor
namespace Go.Proofs.YtmhfioimgllgeaaGreatDoor
open Go Go.RowKit Go.Shelf
abbrev insL (D:List Bool):List Vl:=D.map trV
abbrev ntsL (D:List Bool):List Vl:=D.map fun b=>trV (!b)
def oddD (D:List Bool):Bool:=xorB D.length (cntB (insL D))
theorem cnt_snoc (D:List Bool) (b:Bool):cntB (insL (D++ [b]))=cntB (insL D)+b.toNat:=by
 unfold cntB insL
 rw[List.map_append,List.countP_append]
 cases b<;>rfl
theorem odd_snoc (D:List Bool) (b:Bool):(oddD D != b)=oddD (D++ [b]):=by
 unfold oddD xorB
 rw[cnt_snoc]
 generalize cntB (insL D)=c
 cases b
 ·simp
 ·have h:(c%2=1)∨(c%2=0):=by omega
  rcases h with h|h
  ·have h2:(c+1)%2=0:=by omega
   simp[h,h2]
  ·have h2:(c+1)%2=1:=by omega
   simp[h,h2]
theorem cnt_both (D:List Bool):cntB (insL D)+cntB (ntsL D)=D.length:=by
 induction D with
 |nil=>rfl
 |cons b D ih=>
  unfold cntB insL ntsL at*
  rw[List.map_cons,List.map_cons,List.countP_cons,List.countP_cons,List.length_cons]
  cases b<;>simp[trV]at* <;>omega
theorem and_or (D:List Bool):(!(andB D.length (cntB (insL D))))=orB D.length (cntB (ntsL D)):=by
 have h:=cnt_both D
 unfold andB orB
 by_cases e:cntB (insL D)=D.length
 ·have e2:cntB (ntsL D)=0:=by omega
  simp[e,e2]
 ·have e2:0<cntB (ntsL D):=by omega
  simp[e,e2]
theorem ins_ok (D:List Bool):∀x∈insL D,∃b,x=trV b:=fun x hx=>by
 obtain⟨b,_,rfl⟩:=List.mem_map.1 hx
 exact⟨b,rfl⟩
theorem nts_ok (D:List Bool):∀x∈ntsL D,∃b,x=trV b:=fun x hx=>by
 obtain⟨b,_,rfl⟩:=List.mem_map.1 hx
 exact⟨!b,rfl⟩
/-- Two rows that begin otherwise lie apart. -/
theorem apart {w:World} {b1 b2:Nat} {v1 v2:Value} {b:Bool} {D:List Bool} (h1:World.vr w b1 v1 (insL (b :: D))) {E:List Bool} (h2:World.vr w b2 v2 (ntsL (b :: E))):v1.ownBlock≠v2.ownBlock:=by
 obtain⟨g1,c1,rfl⟩:=vr_pos h1 (by simp)
 obtain⟨g2,c2,rfl⟩:=vr_pos h2 (by simp)
 have k1:=vr_0 (x:=trV b) (r:=insL D) h1 4 (.bool b) rfl
 have k2:=vr_0 (x:=trV (!b)) (r:=ntsL E) h2 4 (.bool (!b)) rfl
 intro e
 have e:g1=g2:=by simpa [Value.ownBlock]using e
 subst e
 rw[k1]at k2
 injection k2 with k2
 injection k2 with k2
 cases b<;>cases k2
theorem vb_apart {w w':World} {g:Nat} {cs:Array Value} {o:Option Nat} (h:World.vb w g cs) (hg:w.grownBy w' o) (hne:o≠some g):World.vb w' g cs:=by
 unfold World.vb at*
 rw[hg.block g (Array.getElem?_eq_some_iff.1 h).1 (fun e=>hne e.symm)];exact h
theorem els_one (x:Vl) (w:World):Els [x] w.heap.size 0 (w.alloc (.cells (pcs x) 39)):=by
 have h:=els_new [x] w
 have e:(vsC [x]).toArray=pcs x:=by unfold vsC;simp
 rwa [e]at h
/-- Truths in memory. -/
def BoolsAt (w:World) (g off:Nat) (bs:List Bool):Prop:=∀(K:Nat) (b:Bool),bs[K]? =some b→w.cell? ⟨g,off+K,none⟩=some (.bool b)
theorem own_ne {w:World} {base:Nat} {v:Value} {l:List Vl} (h:World.vr w base v l) {g:Nat} (hg:w.heap.size≤g):v.ownBlock≠some g:=fun e=>by
 have:=(World.ownsRow.lt h g e).2
 omega
def wchN (q:Bool):Int:=if q=true then 1 else 2
theorem yields_trv {a:Act} {o:Oper} {w:World} {x:Operand} {b:Bool} (ho:o.op= .build 39 #[(0,.const (.int .i64 3)),(3,x)]) (hx:a.eval x= .bool b):(execOp a.eval o).run Tryz.prog w= .ok (.value (.agg (pcs (trV b)))) w:=by
 have hb:=build_tr b w
 have e1:a.eval (.const (.int .i64 3))= .int .i64 3:=rfl
 unfold execOp
 simp[ho,e1,hx,hb]
set_option maxRecDepth 100000 in
set_option maxHeartbeats 16000000 in
theorem law_logic1 (q:Bool) (bs:List Bool) (g off c:Nat) (hlen:bs.length≤9223372036854775807) (hb0:bs[0]? =some q) (z0 z1:Rw) (hz0:RwOk z0) (hz1:RwOk z1) (w:World) (hgw:g<w.heap.size) (hBS:BoolsAt w g off bs) (hE:Env w):Calls Tryz.prog 8 #[.slice (some ⟨g,off,none⟩) bs.length c,.agg z0.c,.agg z1.c] w (Gives (.bool true) w):=by
 have hxp:plainV z0.v=true:=valP_plain _ _ _ _ _
 have hyp:plainV z1.v=true:=valP_plain _ _ _ _ _
 have HV0:=Lib.hid (show ∀W,Calls Tryz.prog 29 #[.agg z0.c] W (Gives (.agg (pcs z0.v)) W)from fun W=>val_any z0.k z0.m z0.e z0.s z0.b W hz0.k hz0.m hz0.e hz0.s)
 have HV1:=Lib.hid (show ∀W,Calls Tryz.prog 29 #[.agg z1.c] W (Gives (.agg (pcs z1.v)) W)from fun W=>val_any z1.k z1.m z1.e z1.s z1.b W hz1.k hz1.m hz1.e hz1.s)
 obtain⟨x,hx⟩:∃x,x=z0.v:=⟨_,rfl⟩
 obtain⟨y,hy⟩:∃y,y=z1.v:=⟨_,rfl⟩
 rw[←hx]at hxp HV0
 rw[←hy]at hyp HV1
 have HO0:=Lib.hid (show(z0.c).size=5 from rfl)
 have HO1:=Lib.hid (show(z1.c).size=5 from rfl)
 obtain⟨R0,hR0⟩:∃R,R=z0.c:=⟨_,rfl⟩
 obtain⟨R1,hR1⟩:∃R,R=z1.c:=⟨_,rfl⟩
 rw[←hR0]at HV0 HO0⊢
 rw[←hR1]at HV1 HO1⊢
 clear hx hy hR0 hR1 hz0 hz1
 have HBS:=Lib.hid (show ∀W,Below w.heap.size w W→BoolsAt W g off bs from fun W hW K b hb=>(hW.cell (p:=⟨g,off+K,none⟩) hgw).trans (hBS K b hb))
 have HEN:=Lib.hid (show ∀W,Below w.heap.size w W→Env W from fun W hW=>hE.below hW)
 have HB0:=Lib.hid hb0
 have hx3:∀z∈ [trV q,x,y],plainV z=true:=fun z hz=>by
  rcases List.mem_cons.1 hz with rfl|hz
  ·rfl
  ·rcases List.mem_cons.1 hz with rfl|hz
   ·exact hxp
   ·rw[List.mem_singleton.1 hz];exact hyp
 have hn3:∀m:Int,m=1∨m=2→∀z∈ [numV (m,0),x,y],plainV z=true:=fun m hm z hz=>by
  rcases List.mem_cons.1 hz with rfl|hz
  ·rcases hm with rfl|rfl<;>rfl
  ·rcases List.mem_cons.1 hz with rfl|hz
   ·exact hxp
   ·rw[List.mem_singleton.1 hz];exact hyp
 have HNOT:=Lib.hid (show ∀b,∀W g,Below w.heap.size w W→Els [trV b] g 0 W→Calls Tryz.prog 20 #[.string ⟨#[78,79,84]⟩,.slice (some ⟨g,0,none⟩) 1 1] W (Gives (.agg (pcs (trV (!b)))) W)from fun b W g hW hEl=>call20 _ _ W _ _ 1 1 rfl fun W2 hW2=>call_not b g 1 (by decide) (by unfold maxLen;omega) W2 (hEl.below hW2) ((hE.below hW).below hW2))
 have HIF:=Lib.hid (show ∀W g,Below w.heap.size w W→Els [trV q,x,y] g 0 W→Calls Tryz.prog 20 #[.string ⟨#[73,70]⟩,.slice (some ⟨g,0,none⟩) 3 3] W (Gives (.agg (pcs (if q=true then x else y))) W)from fun W g hW hEl=>call20 _ _ W _ _ 3 3 rfl fun W2 hW2=>call_if q x y hx3 g 3 (by decide) (by unfold maxLen;omega) W2 (hEl.below hW2) ((hE.below hW).below hW2))
 have HCH:=Lib.hid (show ∀W g,Below w.heap.size w W→Els [numV (wchN q,0),x,y] g 0 W→Calls Tryz.prog 20 #[.string ⟨#[67,72,79,79,83,69]⟩,.slice (some ⟨g,0,none⟩) 3 3] W (Gives (.agg (pcs (if q=true then x else y))) W)from fun W g hW hEl=>call20 _ _ W _ _ 3 3 rfl fun W2 hW2=>by
  cases q with
  |true=>exact call_choose_1 x y (hn3 1 (.inl rfl)) g 3 (by decide) (by unfold maxLen;omega) W2 (hEl.below hW2) ((hE.below hW).below hW2)
  |false=>exact call_choose_2 x y (hn3 2 (.inr rfl)) g 3 (by decide) (by unfold maxLen;omega) W2 (hEl.below hW2) ((hE.below hW).below hW2))
 have HST:=Lib.hid (show ∀b W,Calls Tryz.prog 21 #[.agg (pcs (trV b)),.agg (pcs (trV b))] W (Gives (.bool true) W)from fun b W=>same26 (at_plain rfl) (at_plain rfl) rfl)
 have HSI:=Lib.hid (show ∀W,Calls Tryz.prog 21 #[.agg (pcs (if q=true then x else y)),.agg (pcs (if q=true then x else y))] W (Gives (.bool true) W)from fun W=>by
  have hp:plainV (if q=true then x else y)=true:=by cases q<;>assumption
  exact same26 (at_plain hp) (at_plain hp) rfl)
 obtain⟨rr,hrr⟩:∃rr,rr=(if q=true then x else y):=⟨_,rfl⟩
 rw[←hrr]at HIF HCH HSI
 clear hrr
 have HN1:=Lib.hid (fun W=>ex_num 1 (by decide) (by decide) (by kernel_rfl) W)
 have HN2:=Lib.hid (fun W=>ex_num 2 (by decide) (by decide) (by kernel_rfl) W)
 obtain⟨W0,hW0⟩:∃W,W=(w.alloc (.cells R0 61)).alloc (.cells R1 61):=⟨_,rfl⟩
 have hr0:World.blk W0 w.heap.size 61 R0:=by rw[hW0];exact(blk_new'' w 61 R0).below ((Below.refl _ _).alloc (Nat.le_refl _) _) (by simp)
 have hr1:World.blk W0 (w.heap.size+1) 61 R1:=by rw[hW0];exact blk_new' _ _ _ _ (by simp)
 have hs0:W0.heap.size=w.heap.size+2:=by rw[hW0];simp
 have hB0:Below w.heap.size w W0:=by rw[hW0];exact((Below.refl _ w).alloc (Nat.le_refl _) _).alloc (by simp) _
 have HEX:=Lib.hid (examples_any W0 (hE.below hB0))
 clear hE hBS hx3 hn3 hxp hyp hb0 hgw
 have hpos:0<bs.length:=(List.getElem?_eq_some_iff.1 HB0.out).1
 go_enter Tryz.func8,Tryz.ntmps8
 go_upto_region 1 with fail
 go_simp
 rw[←hW0]
 clear hW0
 go_wp2_with fail
 refine HEX.out.mono ?_
 rintro e1 w1 ⟨rfl,hB1⟩
 have hr0:=hr0.below hB1 hr0.lt
 have hr1:=hr1.below hB1 hr1.lt
 have hB1:Below (w.heap.size+2) W0 w1:=by rw[←hs0];exact hB1
 have HBW:=Lib.hid (show ∀W,Below (w.heap.size+2) W0 W→Below w.heap.size w W from fun W hW=>hB0.trans (hW.mono (by omega)))
 have HR0:=Lib.hid (show ∀W,Below (w.heap.size+2) w1 W→World.blk W w.heap.size 61 R0 from fun W hW=>hr0.below hW (by omega))
 have HR1:=Lib.hid (show ∀W,Below (w.heap.size+2) w1 W→World.blk W (w.heap.size+1) 61 R1 from fun W hW=>hr1.below hW (by omega))
 have HBW:=Lib.hid (show ∀W,Below (w.heap.size+2) w1 W→Below w.heap.size w W from fun W hW=>HBW.out W (hB1.trans hW))
 have hs1:w.heap.size+2≤w1.heap.size:=by rw[←hs0];exact hB1.size
 clear hr0 hr1 hs0 hB0 hB1 HEX
 go_upto_block 0 with fail
 go_cut [8,9,10,11]from 21 to 51 (fun s u o i wx=>∃(K:Nat) (S U:Value),S=s∧U=u∧o= .bool (oddD (bs.take K))∧1≤K∧K≤bs.length∧K≤20∧Hid (World.vr wx (w.heap.size+2) S (insL (bs.take K)))∧Hid (World.vr wx (w.heap.size+2) U (ntsL (bs.take K)))∧Below (w.heap.size+2) w1 wx)
 case first=>
  go_wp2_with fail
  go_loopw [8,9,10,11] (fun s u o i wr=>∃(K:Nat) (S U:Value),S=s∧U=u∧i= .int .i64 (K:Int)∧o= .bool (oddD (bs.take K))∧K≤bs.length∧K≤20∧Hid (K=0→s.ownBlock=none∧u.ownBlock=none)∧Hid (World.vr wr (w.heap.size+2) s (insL (bs.take K)))∧Hid (World.vr wr (w.heap.size+2) u (ntsL (bs.take K)))∧Below (w.heap.size+2) w1 wr) (fun _ _ _ i _=>bs.length-(intOf i).toNat)
  case atStart=>exact⟨0,_,_,rfl,rfl,rfl,rfl,Nat.zero_le _,Nat.zero_le _,Lib.hid fun _=>⟨rfl,rfl⟩,World.ownsRow_nil _ _ _ _,World.ownsRow_nil _ _ _ _,Below.refl _ _⟩
  case round=>
   obtain⟨K,s,u,rfl,rfl,rfl,rfl,hK,hK20,HA,HI,HU,hB⟩:=hrel
   by_cases hlt:K<bs.length∧K<20
   ·have hKI:(K:Int)<(bs.length:Int):=by omega
    have hKJ:(K:Int)<20:=by omega
    obtain⟨b,hbK⟩:∃b,bs[K]? =some b:=⟨_,List.getElem?_eq_getElem hlt.1⟩
    have HTK:=Lib.hid (show bs.take (K+1)=bs.take K++ [b] by rw[List.take_add_one,hbK];rfl)
    have hcb:=HBS.out _ (HBW.out _ hB) K b hbK
    have HBK:=Lib.hid hbK
    have hBz:=hB.size
    have hlI:((insL (bs.take K)).length≤20000):=by rw[List.length_map,List.length_take];omega
    have hlU:((ntsL (bs.take K)).length≤20000):=by rw[List.length_map,List.length_take];omega
    have HLI:=Lib.hid hlI
    have HLU:=Lib.hid hlU
    have HAP:=Lib.hid (show K≠0→∃b0 D,bs.take K=b0 :: D from fun h0=>by
     cases hq:bs.take K with
     |nil=>have h:=congrArg List.length hq;rw[List.length_take,List.length_nil]at h;omega
     |cons b0 D=>exact⟨b0,D,rfl⟩)
    clear hbK hlI hlU
    go_upto_region 11 with (first|refine wpList_build_tr rfl rfl (by rfl) ?_|refine wpList_alloc34 rfl rfl ?_|(refine wpList_store34 rfl rfl rfl rfl (World.vb_new' _ _ _ rfl) (by rfl) (pcs_one _) ?_;intro w2 hnw2 hgw2 hzw2))
    have hb2:Below wr.heap.size wr w2:=((Below.refl _ wr).alloc (Nat.le_refl _) (.cells vz 39)).grown hgw2 (by simp) (fun k hk=>by cases hk;exact Nat.le_refl _)
    obtain⟨b12,hb12⟩:∃b,b=wr.heap.size:=⟨_,rfl⟩
    rw[←hb12]at hnw2⊢
    have hbs:w.heap.size+2≤wr.heap.size:=Nat.le_trans hs1 hBz
    have hB2:=hB.trans (hb2.mono hbs)
    have HI2:=Lib.hid (World.vr.below HI.out (hb2.alloc hb2.size (.cells (pcs (trV b)) 39)))
    have HU2:=Lib.hid (World.vr.below HU.out (hb2.alloc hb2.size (.cells (pcs (trV b)) 39)))
    have HNI:=Lib.hid (show s.ownBlock≠some b12 by rw[hb12];exact own_ne HI.out (Nat.le_refl _))
    have HNU:=Lib.hid (show u.ownBlock≠some b12 by rw[hb12];exact own_ne HU.out (Nat.le_refl _))
    have hs2:w.heap.size+2≤w2.heap.size:=Nat.le_trans hbs hb2.size
    have hbl:b12<w2.heap.size:=hnw2.lt
    have HS1:Hid (u.ownBlock=none∨u.ownBlock≠s.ownBlock):=Lib.hid (by
     by_cases h0:K=0
     ·exact .inl (HA.out h0).2
     ·obtain⟨b0,D,hD⟩:=HAP.out h0
      have e1:=HI.out
      have e2:=HU.out
      rw[hD]at e1 e2
      exact .inr (Ne.symm (apart e1 e2)))
    clear hgw2 hzw2 hb2 hb12 hcb
    go_upto_region 12 with (first|refine wpList_load34 rfl rfl rfl hnw2 (by rfl) ?_|refine wpList_bslF rfl rfl rfl ?_|(refine wpList_pushF (y:=trV b) rfl rfl HI2.out HLI.out rfl rfl (World.vb_new _ _) (by simp;omega) ?_;intro v8 w8 hr8 hg8))
    have HI8:Hid (World.vr w8 (w.heap.size+2) v8 (insL (bs.take K)++ [trV b])):=Lib.hid hr8
    have HU8:Hid (World.vr w8 (w.heap.size+2) u (ntsL (bs.take K))):=Lib.hid (World.ownsRow.kept HU2.out hg8 HS1.out)
    have hn8:World.vb w8 b12 (pcs (trV b)):=vb_apart (World.vb.alloc (o:= .cells (pcs (trV b)) 39) hnw2) hg8 HNI.out
    have hB8:Below (w.heap.size+2) w1 w8:=own_grown HI2.out (Nat.le_refl _) (hB2.alloc hs2 _) (by simp;omega) hg8
    have hs8:=Nat.le_trans hs1 hB8.size
    clear hr8 hg8 HI2 HU2 HS1 hnw2 HI HU HNI
    go_wp2_with (first|refine wpList_load34 rfl rfl rfl hn8 (by rfl) ?_|refine wpList_bslF rfl rfl rfl ?_)
    refine(HNOT.out b _ _ (HBW.out _ (hB8.alloc hs8 _)) (els_one (trV b) w8)).mono ?_
    rintro e w9 ⟨rfl,hb9⟩
    have hb9:Below w8.heap.size w8 w9:=((Below.refl _ w8).alloc (Nat.le_refl _) (.cells (pcs (trV b)) 39)).trans (hb9.mono (by simp))
    have HI9:=Lib.hid (World.vr.below HI8.out (hb9.alloc hb9.size (.cells (pcs (trV (!b))) 39)))
    have HU9:=Lib.hid (World.vr.below HU8.out (hb9.alloc hb9.size (.cells (pcs (trV (!b))) 39)))
    have hB9:=hB8.trans (hb9.mono hs8)
    have hs9:=Nat.le_trans hs1 hB9.size
    have HS2:Hid (v8.ownBlock=none∨v8.ownBlock≠u.ownBlock):=Lib.hid (by
     by_cases h0:K=0
     ·have h2:=(HA.out h0).2
      rw[h2]
      cases hv:v8.ownBlock with
      |none=>exact .inl rfl
      |some k=>exact .inr (fun e=>by cases e)
     ·obtain⟨b0,D,hD⟩:=HAP.out h0
      have e1:=HI9.out
      have e2:=HU9.out
      rw[hD]at e1 e2
      have e3:insL (b0 :: D)++ [trV b]=insL (b0 :: (D++ [b])):=by simp[insL]
      rw[e3]at e1
      exact .inr (apart e1 e2))
    clear hb9 hn8 HI8 HU8 hB8 hs8
    have HCB:=Lib.hid (show ∀W,Below (w.heap.size+2) w1 W→W.cell? ⟨g,off+K,none⟩=some (.bool b)from fun W hW=>HBS.out W (HBW.out W hW) K b HBK.out)
    go_wp2_with (first|refine wpList_bslF rfl rfl rfl ?_|(refine wpList_pushF (y:=trV (!b)) rfl rfl HU9.out HLU.out rfl rfl (World.vb_new _ _) (by simp;omega) ?_;intro v9 w12 hr12 hg12;have hB12:Below (w.heap.size+2) w1 w12:=own_grown HU9.out (Nat.le_refl _) (hB9.alloc hs9 _) (by simp;omega) hg12;have hcb:=HCB.out _ hB12))
    have HU12:World.vr w12 (w.heap.size+2) v9 (ntsL (bs.take (K+1))):=by rw[HTK.out];simpa [ntsL]using hr12
    have HI12:World.vr w12 (w.heap.size+2) v8 (insL (bs.take (K+1))):=by
     have h:=World.ownsRow.kept HI9.out hg12 HS2.out
     have e:insL (bs.take K++ [b])=insL (bs.take K)++ [trV b]:=List.map_append
     rw[HTK.out,e];exact h
    go_roundw
    case rel=>exact⟨K+1,_,_,rfl,rfl,by go_num,by rw[HTK.out,←odd_snoc];simp[bne],by omega,by omega,Lib.hid (fun h=>by omega),HI12,HU12,hB12⟩
    case measure=>simp[intOf];omega
   ·have hK1:1≤K:=by omega
    have hcase:¬((K:Int)<(bs.length:Int))∨((K:Int)<(bs.length:Int)∧¬((K:Int)<20)):=by omega
    rcases hcase with h|⟨h,h'⟩
    ·go_wp2_with fail
     go_meet
     exact⟨K,_,_,rfl,rfl,rfl,hK1,hK,hK20,HI,HU,hB⟩
    ·go_wp2_with fail
     go_meet
     exact⟨K,_,_,rfl,rfl,rfl,hK1,hK,hK20,HI,HU,hB⟩
 case rest=>
  obtain⟨K,s,u,rfl,rfl,rfl,hK1,hK,hK20,HI,HU,hB⟩:=hcut
  have hk0:¬((K:Int)=0):=by omega
  obtain⟨DT,hDT⟩:∃DT,bs.take K=q :: DT:=by
   have hb:=HB0.out
   cases bs with
   |nil=>cases hb
   |cons a l=>
    injection hb with hb
    subst hb
    obtain⟨J,rfl⟩:∃J,K=J+1:=⟨K-1,by omega⟩
    exact⟨l.take J,rfl⟩
  have hlD:(bs.take K).length=K:=by rw[List.length_take];omega
  obtain⟨D,hD⟩:∃D,D=bs.take K:=⟨_,rfl⟩
  rw[←hD]at HI HU hDT hlD⊢
  obtain⟨g8,c8,e8⟩:=vr_pos HI.out (by rw[hDT];simp)
  obtain⟨g9,c9,e9⟩:=vr_pos HU.out (by rw[hDT];simp)
  have hl1:(insL D).length=K:=by rw[List.length_map];exact hlD
  have hl2:(ntsL D).length=K:=by rw[List.length_map];exact hlD
  rw[hl1]at e8
  rw[hl2]at e9
  subst e8 e9
  have hq1:=vr_els HI.out
  have hq2:=vr_els HU.out
  rw[hl1]at hq1
  rw[hl2]at hq2
  have hEI:=hq1.2.2.2.2
  have hEU:=hq2.2.2.2.2
  have HAN:=Lib.hid (show ∀W,Below w.heap.size w W→Els (insL D) g8 0 W→Calls Tryz.prog 18 #[.string ⟨#[65,78,68]⟩,.slice (some ⟨g8,0,none⟩) K c8,.agg #[.int .i64 0,.int .i64 0]] W (Gives (.agg (pcs (trV (andB K (cntB (insL D)))))) W)from fun W hW hEl=>call_and (insL D) K hl1.symm hK1 hK20 (ins_ok D) g8 c8 hq1.2.2.1 hq1.2.2.2.1 W hEl (HEN.out W hW))
  have HOR:=Lib.hid (show ∀W,Below w.heap.size w W→Els (ntsL D) g9 0 W→Calls Tryz.prog 18 #[.string ⟨#[79,82]⟩,.slice (some ⟨g9,0,none⟩) K c9,.agg #[.int .i64 0,.int .i64 0]] W (Gives (.agg (pcs (trV (orB K (cntB (ntsL D)))))) W)from fun W hW hEl=>call_or (ntsL D) K hl2.symm hK1 hK20 (nts_ok D) g9 c9 hq2.2.2.1 hq2.2.2.2.1 W hEl (HEN.out W hW))
  have HXO:=Lib.hid (show ∀W,Below w.heap.size w W→Els (insL D) g8 0 W→Calls Tryz.prog 18 #[.string ⟨#[88,79,82]⟩,.slice (some ⟨g8,0,none⟩) K c8,.agg #[.int .i64 0,.int .i64 0]] W (Gives (.agg (pcs (trV (oddD D)))) W)from fun W hW hEl=>by
   have h:=call_xor (insL D) K hl1.symm hK1 hK20 (ins_ok D) g8 c8 hq1.2.2.1 hq1.2.2.2.1 W hEl (HEN.out W hW)
   unfold oddD
   rw[hlD]
   exact h)
  have hao:=and_or D
  rw[hlD]at hao
  obtain⟨AV,hAV⟩:∃v,v=andB K (cntB (insL D)):=⟨_,rfl⟩
  obtain⟨OV,hOV⟩:∃v,v=orB K (cntB (ntsL D)):=⟨_,rfl⟩
  obtain⟨OD,hOD⟩:∃v,v=oddD D:=⟨_,rfl⟩
  rw[←hAV]at HAN hao
  rw[←hOV]at HOR hao
  rw[←hOD]at HXO⊢
  have HNT:=Lib.hid (show ∀W g,Below w.heap.size w W→Els [trV AV] g 0 W→Calls Tryz.prog 20 #[.string ⟨#[78,79,84]⟩,.slice (some ⟨g,0,none⟩) 1 1] W (Gives (.agg (pcs (trV OV))) W)from fun W g hW hEl=>by rw[←hao];exact HNOT.out AV W g hW hEl)
  have HSO:=Lib.hid (fun W=>HST.out OV W)
  have HSX:=Lib.hid (fun W=>HST.out OD W)
  obtain⟨IT,hIT⟩:∃l,l=insL DT:=⟨_,rfl⟩
  have hID:insL D=trV q :: IT:=by rw[hDT,hIT];rfl
  rw[hID]at hEI HAN HXO
  obtain⟨NU,hNU⟩:∃l,l=ntsL D:=⟨_,rfl⟩
  rw[←hNU]at hEU HOR
  have HR0a:=Lib.hid (HR0.out wc hB)
  have HR1a:=Lib.hid (HR1.out wc hB)
  have HB0a:=Lib.hid (show ∀W,Below w.heap.size w W→W.cell? ⟨g,off,none⟩=some (.bool q)from fun W hW=>HBS.out W hW 0 q HB0.out)
  have hBw:=HBW.out wc hB
  have hKp:0<K:=hK1
  have hposI:(0:Int)<(bs.length:Int):=by omega
  clear hD hDT hlD hl1 hl2 hq1 hq2 hao hAV hOV hOD hIT hID hNU HR0 HR1 HBW HBS HB0 HI HU HNOT HST hB hs1 hK hK20 hK1 HEN
  have hEI:=Lib.hid hEI
  have hEU:=Lib.hid hEU
  have hB:=hBw
  go_upto_region 17 with (first|refine wpList_load61 rfl rfl rfl HR0a.out HO0.out ?_|(go_at_call 29;refine(HV0.out _).mono ?_;rintro e u1 ⟨rfl,hb0⟩)|refine wpList_alloc34 rfl rfl ?_|(refine wpList_store34 rfl rfl rfl rfl (World.vb_new' _ _ _ rfl) (by rfl) (pcs_one _) ?_;intro y1 hny1 hgy1 hzy1))
  have hb:Below wc.heap.size wc y1:=(hb0.alloc hb0.size (.cells vz 39)).grown hgy1 (by have:=hb0.size;simp;omega) (fun k hk=>by cases hk;exact hb0.size)
  have hEI:=Lib.hid (hEI.out.below hb)
  have hEU:=Lib.hid (hEU.out.below hb)
  have HR1a:=Lib.hid (HR1a.out.below hb HR1a.out.lt)
  have hB:=hB.trans (hb.mono hB.size)
  have hb13:=Lib.hid hny1
  clear hgy1 hzy1 hb hb0 hny1
  go_upto_region 18 with (first|refine wpList_load61 rfl rfl rfl HR1a.out HO1.out ?_|(go_at_call 29;refine(HV1.out _).mono ?_;rintro e u2 ⟨rfl,hb0⟩)|refine wpList_alloc34 rfl rfl ?_|(refine wpList_store34 rfl rfl rfl rfl (World.vb_new' _ _ _ rfl) (by rfl) (pcs_one _) ?_;intro y2 hny2 hgy2 hzy2))
  have hb:Below y1.heap.size y1 y2:=(hb0.alloc hb0.size (.cells vz 39)).grown hgy2 (by have:=hb0.size;simp;omega) (fun k hk=>by cases hk;exact hb0.size)
  have hEI:=Lib.hid (hEI.out.below hb)
  have hEU:=Lib.hid (hEU.out.below hb)
  have hb13:=Lib.hid (hb13.out.below hb hb13.out.lt)
  have hB:=hB.trans (hb.mono hB.size)
  have hb14:=Lib.hid hny2
  clear hgy2 hzy2 hb hb0 hny2
  go_upto_region 19 with (first|(go_at_call 18;refine(HAN.out _ hB hEI.out).mono ?_;rintro e u3 ⟨rfl,hb0⟩)|refine wpList_alloc34 rfl rfl ?_|(refine wpList_store34 rfl rfl rfl rfl (World.vb_new' _ _ _ rfl) (by rfl) (pcs_one _) ?_;intro y3 hny3 hgy3 hzy3))
  have hb:Below y2.heap.size y2 y3:=(hb0.alloc hb0.size (.cells vz 39)).grown hgy3 (by have:=hb0.size;simp;omega) (fun k hk=>by cases hk;exact hb0.size)
  have hEI:=Lib.hid (hEI.out.below hb)
  have hEU:=Lib.hid (hEU.out.below hb)
  have hb13:=Lib.hid (hb13.out.below hb hb13.out.lt)
  have hb14:=Lib.hid (hb14.out.below hb hb14.out.lt)
  have hB:=hB.trans (hb.mono hB.size)
  have hb15:=Lib.hid hny3
  clear hgy3 hzy3 hb hb0 hny3
  go_upto_region 20 with (first|(go_at_call 18;refine(HOR.out _ hB hEU.out).mono ?_;rintro e u4 ⟨rfl,hb0⟩)|refine wpList_alloc34 rfl rfl ?_|(refine wpList_store34 rfl rfl rfl rfl (World.vb_new' _ _ _ rfl) (by rfl) (pcs_one _) ?_;intro y4 hny4 hgy4 hzy4))
  have hb:Below y3.heap.size y3 y4:=(hb0.alloc hb0.size (.cells vz 39)).grown hgy4 (by have:=hb0.size;simp;omega) (fun k hk=>by cases hk;exact hb0.size)
  have hEI:=Lib.hid (hEI.out.below hb)
  have hb13:=Lib.hid (hb13.out.below hb hb13.out.lt)
  have hb14:=Lib.hid (hb14.out.below hb hb14.out.lt)
  have hb15:=Lib.hid (hb15.out.below hb hb15.out.lt)
  have hB:=hB.trans (hb.mono hB.size)
  have hb16:=Lib.hid hny4
  clear hgy4 hzy4 hb hb0 hny4
  have l13:=hb13.out.lt
  have l14:=hb14.out.lt
  have l15:=hb15.out.lt
  have l16:=hb16.out.lt
  have l8:g8<y4.heap.size:=hEI.out.1
  have hwl0:=hB.size
  go_upto_region 21 with (first|(go_at_call 23;refine(HN2.out _).mono ?_;rintro e z5 ⟨rfl,hb0⟩)|refine wpList_alloc34 rfl rfl ?_|(refine wpList_store34 rfl rfl rfl rfl (World.vb_new' _ _ _ rfl) (by rfl) (pcs_one _) ?_;intro y5 hny5 hgy5 hzy5))
  have hb:Below y4.heap.size y4 y5:=(hb0.alloc hb0.size (.cells vz 39)).grown hgy5 (by have:=hb0.size;simp;omega) (fun k hk=>by cases hk;exact hb0.size)
  have hEI:=Lib.hid (hEI.out.below hb)
  have hb13:=Lib.hid (hb13.out.below hb hb13.out.lt)
  have hb14:=Lib.hid (hb14.out.below hb hb14.out.lt)
  have hb15:=Lib.hid (hb15.out.below hb hb15.out.lt)
  have hb16:=Lib.hid (hb16.out.below hb hb16.out.lt)
  have hB:=hB.trans (hb.mono hB.size)
  have l17:y4.heap.size≤z5.heap.size:=hb0.size
  have hwl:w.heap.size≤z5.heap.size:=Nat.le_trans hwl0 l17
  have hb17:=Lib.hid hny5
  clear hgy5 hzy5 hb hb0 hny5
  have hcq:=HB0a.out _ hB
  go_upto_if 69 with fail
  go_cut [70]from 70 to 70 (fun _ wx=>World.vb wx z5.heap.size (pcs (numV (wchN q,0)))∧Below z5.heap.size y5 wx)
  case first=>
   cases q with
   |true=>
    have hv:=hb17.out
    have hb:=Below.refl y5.heap.size y5
    go_wp2_with (first|(go_at_call 23;refine(HN1.out _).mono ?_;rintro e z6 ⟨rfl,hb6⟩;have hv:=hv.below hb6 hv.lt;have hb:=hb.trans (hb6.mono hb.size))|(refine wpList_store34 rfl rfl rfl rfl hv (by rfl) (pcs_one _) ?_;intro y6 hny6 hgy6 hzy6))
    go_meet
    exact⟨hny6,(hb.mono (Nat.le_of_lt hb17.out.lt)).grown hgy6 (Nat.le_trans (Nat.le_of_lt hb17.out.lt) hb.size) (fun k hk=>by cases hk;exact Nat.le_refl _)⟩
   |false=>
    go_wp2_with fail
    go_meet
    exact⟨hb17.out,Below.refl _ _⟩
  case rest=>
   obtain⟨h17,hb⟩:=hcut
   have h13:=hb13.out.below hb (by omega)
   have h14:=hb14.out.below hb (by omega)
   have h15:=hb15.out.below hb (by omega)
   have h16:=hb16.out.below hb (by omega)
   have hEI:Els (trV q :: IT) g8 0 wc:=⟨Nat.lt_of_lt_of_le hEI.out.1 hb.size,fun i y hy j u hj=>(hb.cell (p:=⟨g8,_,none⟩) (by show g8<z5.heap.size;omega)).trans (hEI.out.2 i y hy j u hj)⟩
   have hB:=hB.trans (hb.mono hwl)
   clear hb hb13 hb14 hb15 hb16 hb17 l13 l14 l15 l16 l17 l8 hwl hwl0 hcq
   go_upto_region 23 with fail
   try simp only[List.append_eq,List.cons_append,List.nil_append]
   refine wp_region_held_drew (S:=fun w9=>World.vb w9 u3.heap.size (pcs (trV AV))∧World.vb w9 u4.heap.size (pcs (trV OV))∧World.vb w9 u1.heap.size (pcs x)∧World.vb w9 u2.heap.size (pcs y)∧World.vb w9 z5.heap.size (pcs (numV (wchN q,0)))∧Els (trV q :: IT) g8 0 w9) (by kernel_rfl) ⟨h15,h16,h13,h14,h17,hEI⟩ (fun hHeld=> ?_)
   refine tk 0 ⟨some 71,_,_,_,_,_⟩ ?_ hHeld ?_ ?_
   rotate_left
   ·(intro w9 hSw;(try dsimp only at hSw);go_simp)
    all_goals with_reducible rfl
   try simp only[Act.put,List.setIfInBounds_toArray,List.set_cons_zero,List.set_cons_succ]
   refine tk 1 ⟨some 72,_,_,_,_,_⟩ ?_ hHeld ?_ ?_
   rotate_left
   ·(intro w9 hSw;(try dsimp only at hSw);go_simp)
    all_goals with_reducible rfl
   try simp only[Act.put,List.setIfInBounds_toArray,List.set_cons_zero,List.set_cons_succ]
   refine tk 2 ⟨some 73,_,_,_,_,_⟩ ?_ hHeld ?_ ?_
   rotate_left
   ·(intro w9 hSw;refine yields34 (x:= .tmp 15) (g:=u3.heap.size) (cs:=pcs (trV AV)) ?_ ?_ rfl hSw.1<;>rfl)
   try simp only[Act.put,List.setIfInBounds_toArray,List.set_cons_zero,List.set_cons_succ]
   refine tk 5 ⟨some 76,_,_,_,_,_⟩ ?_ hHeld ?_ ?_
   rotate_left
   ·(intro w9 hSw;refine yields34 (x:= .tmp 16) (g:=u4.heap.size) (cs:=pcs (trV OV)) ?_ ?_ rfl hSw.2.1<;>rfl)
   try simp only[Act.put,List.setIfInBounds_toArray,List.set_cons_zero,List.set_cons_succ]
   have hb:Below wc.heap.size wc wc.drew:=(Below.refl _ _).drew
   have h15:=h15.below hb h15.lt
   have h16:=h16.below hb h16.lt
   have h13:=h13.below hb h13.lt
   have h14:=h14.below hb h14.lt
   have h17:=h17.below hb h17.lt
   have hEI:=hEI.below hb
   have hB:=hB.trans (hb.mono hB.size)
   clear hb
   refine wpAnyH_ready (rs:= [3]) (by kernel_rfl) (by simp) ?_
   refine(AllReadyH.cons (o:=⟨some 74,_,_,_,_,_⟩) rfl (fun KK hK=> ?_) AllReadyH.nil)
   ·(try rw[if_pos (by rfl)])
    refine op_bsl1 rfl rfl ?_
    obtain⟨x1,hx1⟩:∃X,X=World.alloc wc.drew (.cells (vsC [trV AV]).toArray 39):=⟨_,rfl⟩
    obtain⟨gA1,hgA1⟩:∃g,g=(wc.drew).heap.size:=⟨_,rfl⟩
    have hnew:Els [trV AV] gA1 0 x1:=by rw[hx1,hgA1];exact els_new _ _
    have hb:Below (wc.drew).heap.size (wc.drew) x1:=by rw[hx1];exact(Below.refl _ _).alloc (Nat.le_refl _) _
    rw[←hx1,←hgA1]
    clear hx1 hgA1
    have h15:=h15.below hb h15.lt
    have h16:=h16.below hb h16.lt
    have h13:=h13.below hb h13.lt
    have h14:=h14.below hb h14.lt
    have h17:=h17.below hb h17.lt
    have hEI:=hEI.below hb
    have hB:=hB.trans (hb.mono hB.size)
    (try have hA1:=hA1.below hb)
    (try have hA2:=hA2.below hb)
    (try have hA3:=hA3.below hb)
    clear hb
    have hA1:=hnew
    clear hnew
    refine hK.out _ _ ⟨h15,h16,h13,h14,h17,hEI⟩ ?_
    clear hK KK hHeld
    intro hHeld
    try simp only[Act.put,List.setIfInBounds_toArray,List.set_cons_zero,List.set_cons_succ]
    refine wpAnyH_ready (rs:= [4]) (by kernel_rfl) (by simp) ?_
    refine(AllReadyH.cons (o:=⟨some 75,_,_,_,_,_⟩) rfl (fun KK hK=> ?_) AllReadyH.nil)
    ·(try rw[if_pos (by rfl)])
     go_simp
     refine(HNT.out _ _ hB hA1).mono ?_
     rintro e x2 ⟨rfl,hb⟩
     have h15:=h15.below hb h15.lt
     have h16:=h16.below hb h16.lt
     have h13:=h13.below hb h13.lt
     have h14:=h14.below hb h14.lt
     have h17:=h17.below hb h17.lt
     have hEI:=hEI.below hb
     have hB:=hB.trans (hb.mono hB.size)
     (try have hA1:=hA1.below hb)
     (try have hA2:=hA2.below hb)
     (try have hA3:=hA3.below hb)
     clear hb
     refine hK.out _ _ ⟨h15,h16,h13,h14,h17,hEI⟩ ?_
     clear hK KK hHeld
     intro hHeld
     try simp only[Act.put,List.setIfInBounds_toArray,List.set_cons_zero,List.set_cons_succ,List.getElem_toArray,List.getElem_cons_zero,List.getElem_cons_succ]
     refine wpAnyH_ready (rs:= [6]) (by kernel_rfl) (by simp) ?_
     refine(AllReadyH.cons (o:=⟨some 77,_,_,_,_,_⟩) rfl (fun KK hK=> ?_) AllReadyH.nil)
     ·(try rw[if_pos (by rfl)])
      go_simp
      refine(HSO.out _).mono ?_
      rintro e x3 ⟨rfl,hb⟩
      have h15:=h15.below hb h15.lt
      have h16:=h16.below hb h16.lt
      have h13:=h13.below hb h13.lt
      have h14:=h14.below hb h14.lt
      have h17:=h17.below hb h17.lt
      have hEI:=hEI.below hb
      have hB:=hB.trans (hb.mono hB.size)
      (try have hA1:=hA1.below hb)
      (try have hA2:=hA2.below hb)
      (try have hA3:=hA3.below hb)
      clear hb
      refine hK.out _ _ ⟨h15,h16,h13,h14,h17,hEI⟩ ?_
      clear hK KK hHeld
      intro hHeld
      try simp only[Act.put,List.setIfInBounds_toArray,List.set_cons_zero,List.set_cons_succ,List.getElem_toArray,List.getElem_cons_zero,List.getElem_cons_succ]
      refine tk 7 ⟨some 78,_,_,_,_,_⟩ ?_ hHeld ?_ ?_
      rotate_left
      ·(intro w9 hSw;(try dsimp only at hSw);go_simp)
       all_goals with_reducible rfl
      try simp only[Act.put,List.setIfInBounds_toArray,List.set_cons_zero,List.set_cons_succ]
      refine tk 8 ⟨some 79,_,_,_,_,_⟩ ?_ hHeld ?_ ?_
      rotate_left
      ·(intro w9 hSw;(try dsimp only at hSw);go_simp)
       all_goals with_reducible rfl
      try simp only[Act.put,List.setIfInBounds_toArray,List.set_cons_zero,List.set_cons_succ]
      refine tk 9 ⟨some 80,_,_,_,_,_⟩ ?_ hHeld ?_ ?_
      rotate_left
      ·(intro w9 hSw;(try dsimp only at hSw);go_simp)
       all_goals with_reducible rfl
      try simp only[Act.put,List.setIfInBounds_toArray,List.set_cons_zero,List.set_cons_succ]
      refine tk 10 ⟨some 81,_,_,_,_,_⟩ ?_ hHeld ?_ ?_
      rotate_left
      ·(intro w9 hSw;(try dsimp only at hSw);go_simp)
       all_goals with_reducible rfl
      try simp only[Act.put,List.setIfInBounds_toArray,List.set_cons_zero,List.set_cons_succ]
      refine tk 12 ⟨some 83,_,_,_,_,_⟩ ?_ hHeld ?_ ?_
      rotate_left
      ·(intro w9 hSw;(try dsimp only at hSw);go_simp)
       all_goals with_reducible rfl
      try simp only[Act.put,List.setIfInBounds_toArray,List.set_cons_zero,List.set_cons_succ]
      refine tk 13 ⟨some 84,_,_,_,_,_⟩ ?_ hHeld ?_ ?_
      rotate_left
      ·(intro w9 hSw;refine yields_trv (x:= .tmp 83) (b:=OD) ?_ ?_<;>rfl)
      try simp only[Act.put,List.setIfInBounds_toArray,List.set_cons_zero,List.set_cons_succ]
      refine wpAnyH_ready (rs:= [11]) (by kernel_rfl) (by simp) ?_
      refine(AllReadyH.cons (o:=⟨some 82,_,_,_,_,_⟩) rfl (fun KK hK=> ?_) AllReadyH.nil)
      ·(try rw[if_pos (by rfl)])
       go_simp
       refine(HXO.out _ hB hEI).mono ?_
       rintro e x4 ⟨rfl,hb⟩
       have h15:=h15.below hb h15.lt
       have h16:=h16.below hb h16.lt
       have h13:=h13.below hb h13.lt
       have h14:=h14.below hb h14.lt
       have h17:=h17.below hb h17.lt
       have hEI:=hEI.below hb
       have hB:=hB.trans (hb.mono hB.size)
       (try have hA1:=hA1.below hb)
       (try have hA2:=hA2.below hb)
       (try have hA3:=hA3.below hb)
       clear hb
       refine hK.out _ _ ⟨h15,h16,h13,h14,h17,hEI⟩ ?_
       clear hK KK hHeld
       intro hHeld
       try simp only[Act.put,List.setIfInBounds_toArray,List.set_cons_zero,List.set_cons_succ,List.getElem_toArray,List.getElem_cons_zero,List.getElem_cons_succ]
       refine wpAnyH_ready (rs:= [14]) (by kernel_rfl) (by simp) ?_
       refine(AllReadyH.cons (o:=⟨some 85,_,_,_,_,_⟩) rfl (fun KK hK=> ?_) AllReadyH.nil)
       ·(try rw[if_pos (by rfl)])
        go_simp
        refine(HSX.out _).mono ?_
        rintro e x5 ⟨rfl,hb⟩
        have h15:=h15.below hb h15.lt
        have h16:=h16.below hb h16.lt
        have h13:=h13.below hb h13.lt
        have h14:=h14.below hb h14.lt
        have h17:=h17.below hb h17.lt
        have hEI:=hEI.below hb
        have hB:=hB.trans (hb.mono hB.size)
        (try have hA1:=hA1.below hb)
        (try have hA2:=hA2.below hb)
        (try have hA3:=hA3.below hb)
        clear hb
        refine hK.out _ _ ⟨h15,h16,h13,h14,h17,hEI⟩ ?_
        clear hK KK hHeld
        intro hHeld
        try simp only[Act.put,List.setIfInBounds_toArray,List.set_cons_zero,List.set_cons_succ,List.getElem_toArray,List.getElem_cons_zero,List.getElem_cons_succ]
        refine tk 15 ⟨some 86,_,_,_,_,_⟩ ?_ hHeld ?_ ?_
        rotate_left
        ·(intro w9 hSw;(try dsimp only at hSw);go_simp)
         all_goals with_reducible rfl
        try simp only[Act.put,List.setIfInBounds_toArray,List.set_cons_zero,List.set_cons_succ]
        refine tk 16 ⟨some 87,_,_,_,_,_⟩ ?_ hHeld ?_ ?_
        rotate_left
        ·(intro w9 hSw;(try dsimp only at hSw);go_simp)
         all_goals with_reducible rfl
        try simp only[Act.put,List.setIfInBounds_toArray,List.set_cons_zero,List.set_cons_succ]
        refine tk 17 ⟨some 88,_,_,_,_,_⟩ ?_ hHeld ?_ ?_
        rotate_left
        ·(intro w9 hSw;(try dsimp only at hSw);go_simp)
         all_goals with_reducible rfl
        try simp only[Act.put,List.setIfInBounds_toArray,List.set_cons_zero,List.set_cons_succ]
        refine tk 18 ⟨some 89,_,_,_,_,_⟩ ?_ hHeld ?_ ?_
        rotate_left
        ·(intro w9 hSw;(try dsimp only at hSw);go_simp)
         all_goals with_reducible rfl
        try simp only[Act.put,List.setIfInBounds_toArray,List.set_cons_zero,List.set_cons_succ]
        refine tk 19 ⟨some 90,_,_,_,_,_⟩ ?_ hHeld ?_ ?_
        rotate_left
        ·(intro w9 hSw;refine yields34a (x:= .tmp 89) (g:=g8) (off:=0) (cs:=pcs (trV q)) ?_ ?_ rfl (els_0 hSw.2.2.2.2.2)<;>rfl)
        try simp only[Act.put,List.setIfInBounds_toArray,List.set_cons_zero,List.set_cons_succ]
        refine tk 20 ⟨some 91,_,_,_,_,_⟩ ?_ hHeld ?_ ?_
        rotate_left
        ·(intro w9 hSw;refine yields34 (x:= .tmp 13) (g:=u1.heap.size) (cs:=pcs x) ?_ ?_ rfl hSw.2.2.1<;>rfl)
        try simp only[Act.put,List.setIfInBounds_toArray,List.set_cons_zero,List.set_cons_succ]
        refine tk 21 ⟨some 92,_,_,_,_,_⟩ ?_ hHeld ?_ ?_
        rotate_left
        ·(intro w9 hSw;refine yields34 (x:= .tmp 14) (g:=u2.heap.size) (cs:=pcs y) ?_ ?_ rfl hSw.2.2.2.1<;>rfl)
        try simp only[Act.put,List.setIfInBounds_toArray,List.set_cons_zero,List.set_cons_succ]
        refine tk 24 ⟨some 95,_,_,_,_,_⟩ ?_ hHeld ?_ ?_
        rotate_left
        ·(intro w9 hSw;refine yields34 (x:= .tmp 17) (g:=z5.heap.size) (cs:=pcs (numV (wchN q,0))) ?_ ?_ rfl hSw.2.2.2.2.1<;>rfl)
        try simp only[Act.put,List.setIfInBounds_toArray,List.set_cons_zero,List.set_cons_succ]
        refine tk 25 ⟨some 96,_,_,_,_,_⟩ ?_ hHeld ?_ ?_
        rotate_left
        ·(intro w9 hSw;refine yields34 (x:= .tmp 13) (g:=u1.heap.size) (cs:=pcs x) ?_ ?_ rfl hSw.2.2.1<;>rfl)
        try simp only[Act.put,List.setIfInBounds_toArray,List.set_cons_zero,List.set_cons_succ]
        refine tk 26 ⟨some 97,_,_,_,_,_⟩ ?_ hHeld ?_ ?_
        rotate_left
        ·(intro w9 hSw;refine yields34 (x:= .tmp 14) (g:=u2.heap.size) (cs:=pcs y) ?_ ?_ rfl hSw.2.2.2.1<;>rfl)
        try simp only[Act.put,List.setIfInBounds_toArray,List.set_cons_zero,List.set_cons_succ]
        refine wpAnyH_ready (rs:= [22,27]) (by kernel_rfl) (by simp) ?_
        refine(AllReadyH.cons (o:=⟨some 93,_,_,_,_,_⟩) rfl (fun KK hK=> ?_) (AllReadyH.cons (o:=⟨some 98,_,_,_,_,_⟩) rfl (fun KK hK=> ?_) AllReadyH.nil))
        ·(try rw[if_pos (by rfl)])
         refine op_bsl3 rfl rfl rfl rfl ?_
         obtain⟨x6,hx6⟩:∃X,X=World.alloc x5 (.cells (vsC [trV q,x,y]).toArray 39):=⟨_,rfl⟩
         obtain⟨gA2,hgA2⟩:∃g,g=(x5).heap.size:=⟨_,rfl⟩
         have hnew:Els [trV q,x,y] gA2 0 x6:=by rw[hx6,hgA2];exact els_new _ _
         have hb:Below (x5).heap.size (x5) x6:=by rw[hx6];exact(Below.refl _ _).alloc (Nat.le_refl _) _
         rw[←hx6,←hgA2]
         clear hx6 hgA2
         have h15:=h15.below hb h15.lt
         have h16:=h16.below hb h16.lt
         have h13:=h13.below hb h13.lt
         have h14:=h14.below hb h14.lt
         have h17:=h17.below hb h17.lt
         have hEI:=hEI.below hb
         have hB:=hB.trans (hb.mono hB.size)
         (try have hA1:=hA1.below hb)
         (try have hA2:=hA2.below hb)
         (try have hA3:=hA3.below hb)
         clear hb
         have hA2:=hnew
         clear hnew
         refine hK.out _ _ ⟨h15,h16,h13,h14,h17,hEI⟩ ?_
         clear hK KK hHeld
         intro hHeld
         try simp only[Act.put,List.setIfInBounds_toArray,List.set_cons_zero,List.set_cons_succ]
         refine wpAnyH_ready (rs:= [23,27]) (by kernel_rfl) (by simp) ?_
         refine(AllReadyH.cons (o:=⟨some 94,_,_,_,_,_⟩) rfl (fun KK hK=> ?_) (AllReadyH.cons (o:=⟨some 98,_,_,_,_,_⟩) rfl (fun KK hK=> ?_) AllReadyH.nil))
         ·(try rw[if_pos (by rfl)])
          go_simp
          refine(HIF.out _ _ hB hA2).mono ?_
          rintro e x7 ⟨rfl,hb⟩
          have h15:=h15.below hb h15.lt
          have h16:=h16.below hb h16.lt
          have h13:=h13.below hb h13.lt
          have h14:=h14.below hb h14.lt
          have h17:=h17.below hb h17.lt
          have hEI:=hEI.below hb
          have hB:=hB.trans (hb.mono hB.size)
          (try have hA1:=hA1.below hb)
          (try have hA2:=hA2.below hb)
          (try have hA3:=hA3.below hb)
          clear hb
          refine hK.out _ _ ⟨h15,h16,h13,h14,h17,hEI⟩ ?_
          clear hK KK hHeld
          intro hHeld
          try simp only[Act.put,List.setIfInBounds_toArray,List.set_cons_zero,List.set_cons_succ,List.getElem_toArray,List.getElem_cons_zero,List.getElem_cons_succ]
          refine wpAnyH_ready (rs:= [27]) (by kernel_rfl) (by simp) ?_
          refine(AllReadyH.cons (o:=⟨some 98,_,_,_,_,_⟩) rfl (fun KK hK=> ?_) AllReadyH.nil)
          ·(try rw[if_pos (by rfl)])
           refine op_bsl3 rfl rfl rfl rfl ?_
           obtain⟨x8,hx8⟩:∃X,X=World.alloc x7 (.cells (vsC [numV (wchN q,0),x,y]).toArray 39):=⟨_,rfl⟩
           obtain⟨gA3,hgA3⟩:∃g,g=(x7).heap.size:=⟨_,rfl⟩
           have hnew:Els [numV (wchN q,0),x,y] gA3 0 x8:=by rw[hx8,hgA3];exact els_new _ _
           have hb:Below (x7).heap.size (x7) x8:=by rw[hx8];exact(Below.refl _ _).alloc (Nat.le_refl _) _
           rw[←hx8,←hgA3]
           clear hx8 hgA3
           have h15:=h15.below hb h15.lt
           have h16:=h16.below hb h16.lt
           have h13:=h13.below hb h13.lt
           have h14:=h14.below hb h14.lt
           have h17:=h17.below hb h17.lt
           have hEI:=hEI.below hb
           have hB:=hB.trans (hb.mono hB.size)
           (try have hA1:=hA1.below hb)
           (try have hA2:=hA2.below hb)
           (try have hA3:=hA3.below hb)
           clear hb
           have hA3:=hnew
           clear hnew
           refine hK.out _ _ ⟨h15,h16,h13,h14,h17,hEI⟩ ?_
           clear hK KK hHeld
           intro hHeld
           try simp only[Act.put,List.setIfInBounds_toArray,List.set_cons_zero,List.set_cons_succ]
           refine wpAnyH_ready (rs:= [28]) (by kernel_rfl) (by simp) ?_
           refine(AllReadyH.cons (o:=⟨some 99,_,_,_,_,_⟩) rfl (fun KK hK=> ?_) AllReadyH.nil)
           ·(try rw[if_pos (by rfl)])
            go_simp
            refine(HCH.out _ _ hB hA3).mono ?_
            rintro e x9 ⟨rfl,hb⟩
            have h15:=h15.below hb h15.lt
            have h16:=h16.below hb h16.lt
            have h13:=h13.below hb h13.lt
            have h14:=h14.below hb h14.lt
            have h17:=h17.below hb h17.lt
            have hEI:=hEI.below hb
            have hB:=hB.trans (hb.mono hB.size)
            (try have hA1:=hA1.below hb)
            (try have hA2:=hA2.below hb)
            (try have hA3:=hA3.below hb)
            clear hb
            refine hK.out _ _ ⟨h15,h16,h13,h14,h17,hEI⟩ ?_
            clear hK KK hHeld
            intro hHeld
            try simp only[Act.put,List.setIfInBounds_toArray,List.set_cons_zero,List.set_cons_succ,List.getElem_toArray,List.getElem_cons_zero,List.getElem_cons_succ]
            refine wpAnyH_ready (rs:= [29]) (by kernel_rfl) (by simp) ?_
            refine(AllReadyH.cons (o:=⟨some 100,_,_,_,_,_⟩) rfl (fun KK hK=> ?_) AllReadyH.nil)
            ·(try rw[if_pos (by rfl)])
             go_simp
             refine(HSI.out _).mono ?_
             rintro e x10 ⟨rfl,hb⟩
             have h15:=h15.below hb h15.lt
             have h16:=h16.below hb h16.lt
             have h13:=h13.below hb h13.lt
             have h14:=h14.below hb h14.lt
             have h17:=h17.below hb h17.lt
             have hEI:=hEI.below hb
             have hB:=hB.trans (hb.mono hB.size)
             (try have hA1:=hA1.below hb)
             (try have hA2:=hA2.below hb)
             (try have hA3:=hA3.below hb)
             clear hb
             refine hK.out _ _ ⟨h15,h16,h13,h14,h17,hEI⟩ ?_
             clear hK KK hHeld
             intro hHeld
             try simp only[Act.put,List.setIfInBounds_toArray,List.set_cons_zero,List.set_cons_succ,List.getElem_toArray,List.getElem_cons_zero,List.getElem_cons_succ]
             refine tk 30 ⟨some 101,_,_,_,_,_⟩ ?_ hHeld ?_ ?_
             rotate_left
             ·(intro w9 hSw;(try dsimp only at hSw);go_simp)
              all_goals with_reducible rfl
             try simp only[Act.put,List.setIfInBounds_toArray,List.set_cons_zero,List.set_cons_succ]
             refine tk 31 ⟨some 6,_,_,_,_,_⟩ ?_ hHeld ?_ ?_
             rotate_left
             ·(intro w9 hSw;(try dsimp only at hSw);go_simp)
              all_goals with_reducible rfl
             try simp only[Act.put,List.setIfInBounds_toArray,List.set_cons_zero,List.set_cons_succ]
             refine wpAnyH_done (by kernel_rfl) ?_ _
             try simp only[Act.put,List.setIfInBounds_toArray,List.set_cons_zero,List.set_cons_succ,List.getElem_toArray,List.getElem_cons_zero,List.getElem_cons_succ]
             go_wp2_with fail
             go_ret
             exact⟨rfl,hB⟩
         ·(try rw[if_pos (by rfl)])
          refine op_bsl3 rfl rfl rfl rfl ?_
          obtain⟨x7,hx7⟩:∃X,X=World.alloc x6 (.cells (vsC [numV (wchN q,0),x,y]).toArray 39):=⟨_,rfl⟩
          obtain⟨gA3,hgA3⟩:∃g,g=(x6).heap.size:=⟨_,rfl⟩
          have hnew:Els [numV (wchN q,0),x,y] gA3 0 x7:=by rw[hx7,hgA3];exact els_new _ _
          have hb:Below (x6).heap.size (x6) x7:=by rw[hx7];exact(Below.refl _ _).alloc (Nat.le_refl _) _
          rw[←hx7,←hgA3]
          clear hx7 hgA3
          have h15:=h15.below hb h15.lt
          have h16:=h16.below hb h16.lt
          have h13:=h13.below hb h13.lt
          have h14:=h14.below hb h14.lt
          have h17:=h17.below hb h17.lt
          have hEI:=hEI.below hb
          have hB:=hB.trans (hb.mono hB.size)
          (try have hA1:=hA1.below hb)
          (try have hA2:=hA2.below hb)
          (try have hA3:=hA3.below hb)
          clear hb
          have hA3:=hnew
          clear hnew
          refine hK.out _ _ ⟨h15,h16,h13,h14,h17,hEI⟩ ?_
          clear hK KK hHeld
          intro hHeld
          try simp only[Act.put,List.setIfInBounds_toArray,List.set_cons_zero,List.set_cons_succ]
          refine wpAnyH_ready (rs:= [23]) (by kernel_rfl) (by simp) ?_
          refine(AllReadyH.cons (o:=⟨some 94,_,_,_,_,_⟩) rfl (fun KK hK=> ?_) AllReadyH.nil)
          ·(try rw[if_pos (by rfl)])
           go_simp
           refine(HIF.out _ _ hB hA2).mono ?_
           rintro e x8 ⟨rfl,hb⟩
           have h15:=h15.below hb h15.lt
           have h16:=h16.below hb h16.lt
           have h13:=h13.below hb h13.lt
           have h14:=h14.below hb h14.lt
           have h17:=h17.below hb h17.lt
           have hEI:=hEI.below hb
           have hB:=hB.trans (hb.mono hB.size)
           (try have hA1:=hA1.below hb)
           (try have hA2:=hA2.below hb)
           (try have hA3:=hA3.below hb)
           clear hb
           refine hK.out _ _ ⟨h15,h16,h13,h14,h17,hEI⟩ ?_
           clear hK KK hHeld
           intro hHeld
           try simp only[Act.put,List.setIfInBounds_toArray,List.set_cons_zero,List.set_cons_succ,List.getElem_toArray,List.getElem_cons_zero,List.getElem_cons_succ]
           refine wpAnyH_ready (rs:= [28]) (by kernel_rfl) (by simp) ?_
           refine(AllReadyH.cons (o:=⟨some 99,_,_,_,_,_⟩) rfl (fun KK hK=> ?_) AllReadyH.nil)
           ·(try rw[if_pos (by rfl)])
            go_simp
            refine(HCH.out _ _ hB hA3).mono ?_
            rintro e x9 ⟨rfl,hb⟩
            have h15:=h15.below hb h15.lt
            have h16:=h16.below hb h16.lt
            have h13:=h13.below hb h13.lt
            have h14:=h14.below hb h14.lt
            have h17:=h17.below hb h17.lt
            have hEI:=hEI.below hb
            have hB:=hB.trans (hb.mono hB.size)
            (try have hA1:=hA1.below hb)
            (try have hA2:=hA2.below hb)
            (try have hA3:=hA3.below hb)
            clear hb
            refine hK.out _ _ ⟨h15,h16,h13,h14,h17,hEI⟩ ?_
            clear hK KK hHeld
            intro hHeld
            try simp only[Act.put,List.setIfInBounds_toArray,List.set_cons_zero,List.set_cons_succ,List.getElem_toArray,List.getElem_cons_zero,List.getElem_cons_succ]
            refine wpAnyH_ready (rs:= [29]) (by kernel_rfl) (by simp) ?_
            refine(AllReadyH.cons (o:=⟨some 100,_,_,_,_,_⟩) rfl (fun KK hK=> ?_) AllReadyH.nil)
            ·(try rw[if_pos (by rfl)])
             go_simp
             refine(HSI.out _).mono ?_
             rintro e x10 ⟨rfl,hb⟩
             have h15:=h15.below hb h15.lt
             have h16:=h16.below hb h16.lt
             have h13:=h13.below hb h13.lt
             have h14:=h14.below hb h14.lt
             have h17:=h17.below hb h17.lt
             have hEI:=hEI.below hb
             have hB:=hB.trans (hb.mono hB.size)
             (try have hA1:=hA1.below hb)
             (try have hA2:=hA2.below hb)
             (try have hA3:=hA3.below hb)
             clear hb
             refine hK.out _ _ ⟨h15,h16,h13,h14,h17,hEI⟩ ?_
             clear hK KK hHeld
             intro hHeld
             try simp only[Act.put,List.setIfInBounds_toArray,List.set_cons_zero,List.set_cons_succ,List.getElem_toArray,List.getElem_cons_zero,List.getElem_cons_succ]
             refine tk 30 ⟨some 101,_,_,_,_,_⟩ ?_ hHeld ?_ ?_
             rotate_left
             ·(intro w9 hSw;(try dsimp only at hSw);go_simp)
              all_goals with_reducible rfl
             try simp only[Act.put,List.setIfInBounds_toArray,List.set_cons_zero,List.set_cons_succ]
             refine tk 31 ⟨some 6,_,_,_,_,_⟩ ?_ hHeld ?_ ?_
             rotate_left
             ·(intro w9 hSw;(try dsimp only at hSw);go_simp)
              all_goals with_reducible rfl
             try simp only[Act.put,List.setIfInBounds_toArray,List.set_cons_zero,List.set_cons_succ]
             refine wpAnyH_done (by kernel_rfl) ?_ _
             try simp only[Act.put,List.setIfInBounds_toArray,List.set_cons_zero,List.set_cons_succ,List.getElem_toArray,List.getElem_cons_zero,List.getElem_cons_succ]
             go_wp2_with fail
             go_ret
             exact⟨rfl,hB⟩
        ·(try rw[if_pos (by rfl)])
         refine op_bsl3 rfl rfl rfl rfl ?_
         obtain⟨x6,hx6⟩:∃X,X=World.alloc x5 (.cells (vsC [numV (wchN q,0),x,y]).toArray 39):=⟨_,rfl⟩
         obtain⟨gA3,hgA3⟩:∃g,g=(x5).heap.size:=⟨_,rfl⟩
         have hnew:Els [numV (wchN q,0),x,y] gA3 0 x6:=by rw[hx6,hgA3];exact els_new _ _
         have hb:Below (x5).heap.size (x5) x6:=by rw[hx6];exact(Below.refl _ _).alloc (Nat.le_refl _) _
         rw[←hx6,←hgA3]
         clear hx6 hgA3
         have h15:=h15.below hb h15.lt
         have h16:=h16.below hb h16.lt
         have h13:=h13.below hb h13.lt
         have h14:=h14.below hb h14.lt
         have h17:=h17.below hb h17.lt
         have hEI:=hEI.below hb
         have hB:=hB.trans (hb.mono hB.size)
         (try have hA1:=hA1.below hb)
         (try have hA2:=hA2.below hb)
         (try have hA3:=hA3.below hb)
         clear hb
         have hA3:=hnew
         clear hnew
         refine hK.out _ _ ⟨h15,h16,h13,h14,h17,hEI⟩ ?_
         clear hK KK hHeld
         intro hHeld
         try simp only[Act.put,List.setIfInBounds_toArray,List.set_cons_zero,List.set_cons_succ]
         refine wpAnyH_ready (rs:= [22]) (by kernel_rfl) (by simp) ?_
         refine(AllReadyH.cons (o:=⟨some 93,_,_,_,_,_⟩) rfl (fun KK hK=> ?_) AllReadyH.nil)
         ·(try rw[if_pos (by rfl)])
          refine op_bsl3 rfl rfl rfl rfl ?_
          obtain⟨x7,hx7⟩:∃X,X=World.alloc x6 (.cells (vsC [trV q,x,y]).toArray 39):=⟨_,rfl⟩
          obtain⟨gA2,hgA2⟩:∃g,g=(x6).heap.size:=⟨_,rfl⟩
          have hnew:Els [trV q,x,y] gA2 0 x7:=by rw[hx7,hgA2];exact els_new _ _
          have hb:Below (x6).heap.size (x6) x7:=by rw[hx7];exact(Below.refl _ _).alloc (Nat.le_refl _) _
          rw[←hx7,←hgA2]
          clear hx7 hgA2
          have h15:=h15.below hb h15.lt
          have h16:=h16.below hb h16.lt
          have h13:=h13.below hb h13.lt
          have h14:=h14.below hb h14.lt
          have h17:=h17.below hb h17.lt
          have hEI:=hEI.below hb
          have hB:=hB.trans (hb.mono hB.size)
          (try have hA1:=hA1.below hb)
          (try have hA2:=hA2.below hb)
          (try have hA3:=hA3.below hb)
          clear hb
          have hA2:=hnew
          clear hnew
          refine hK.out _ _ ⟨h15,h16,h13,h14,h17,hEI⟩ ?_
          clear hK KK hHeld
          intro hHeld
          try simp only[Act.put,List.setIfInBounds_toArray,List.set_cons_zero,List.set_cons_succ]
          refine wpAnyH_ready (rs:= [23]) (by kernel_rfl) (by simp) ?_
          refine(AllReadyH.cons (o:=⟨some 94,_,_,_,_,_⟩) rfl (fun KK hK=> ?_) AllReadyH.nil)
          ·(try rw[if_pos (by rfl)])
           go_simp
           refine(HIF.out _ _ hB hA2).mono ?_
           rintro e x8 ⟨rfl,hb⟩
           have h15:=h15.below hb h15.lt
           have h16:=h16.below hb h16.lt
           have h13:=h13.below hb h13.lt
           have h14:=h14.below hb h14.lt
           have h17:=h17.below hb h17.lt
           have hEI:=hEI.below hb
           have hB:=hB.trans (hb.mono hB.size)
           (try have hA1:=hA1.below hb)
           (try have hA2:=hA2.below hb)
           (try have hA3:=hA3.below hb)
           clear hb
           refine hK.out _ _ ⟨h15,h16,h13,h14,h17,hEI⟩ ?_
           clear hK KK hHeld
           intro hHeld
           try simp only[Act.put,List.setIfInBounds_toArray,List.set_cons_zero,List.set_cons_succ,List.getElem_toArray,List.getElem_cons_zero,List.getElem_cons_succ]
           refine wpAnyH_ready (rs:= [28]) (by kernel_rfl) (by simp) ?_
           refine(AllReadyH.cons (o:=⟨some 99,_,_,_,_,_⟩) rfl (fun KK hK=> ?_) AllReadyH.nil)
           ·(try rw[if_pos (by rfl)])
            go_simp
            refine(HCH.out _ _ hB hA3).mono ?_
            rintro e x9 ⟨rfl,hb⟩
            have h15:=h15.below hb h15.lt
            have h16:=h16.below hb h16.lt
            have h13:=h13.below hb h13.lt
            have h14:=h14.below hb h14.lt
            have h17:=h17.below hb h17.lt
            have hEI:=hEI.below hb
            have hB:=hB.trans (hb.mono hB.size)
            (try have hA1:=hA1.below hb)
            (try have hA2:=hA2.below hb)
            (try have hA3:=hA3.below hb)
            clear hb
            refine hK.out _ _ ⟨h15,h16,h13,h14,h17,hEI⟩ ?_
            clear hK KK hHeld
            intro hHeld
            try simp only[Act.put,List.setIfInBounds_toArray,List.set_cons_zero,List.set_cons_succ,List.getElem_toArray,List.getElem_cons_zero,List.getElem_cons_succ]
            refine wpAnyH_ready (rs:= [29]) (by kernel_rfl) (by simp) ?_
            refine(AllReadyH.cons (o:=⟨some 100,_,_,_,_,_⟩) rfl (fun KK hK=> ?_) AllReadyH.nil)
            ·(try rw[if_pos (by rfl)])
             go_simp
             refine(HSI.out _).mono ?_
             rintro e x10 ⟨rfl,hb⟩
             have h15:=h15.below hb h15.lt
             have h16:=h16.below hb h16.lt
             have h13:=h13.below hb h13.lt
             have h14:=h14.below hb h14.lt
             have h17:=h17.below hb h17.lt
             have hEI:=hEI.below hb
             have hB:=hB.trans (hb.mono hB.size)
             (try have hA1:=hA1.below hb)
             (try have hA2:=hA2.below hb)
             (try have hA3:=hA3.below hb)
             clear hb
             refine hK.out _ _ ⟨h15,h16,h13,h14,h17,hEI⟩ ?_
             clear hK KK hHeld
             intro hHeld
             try simp only[Act.put,List.setIfInBounds_toArray,List.set_cons_zero,List.set_cons_succ,List.getElem_toArray,List.getElem_cons_zero,List.getElem_cons_succ]
             refine tk 30 ⟨some 101,_,_,_,_,_⟩ ?_ hHeld ?_ ?_
             rotate_left
             ·(intro w9 hSw;(try dsimp only at hSw);go_simp)
              all_goals with_reducible rfl
             try simp only[Act.put,List.setIfInBounds_toArray,List.set_cons_zero,List.set_cons_succ]
             refine tk 31 ⟨some 6,_,_,_,_,_⟩ ?_ hHeld ?_ ?_
             rotate_left
             ·(intro w9 hSw;(try dsimp only at hSw);go_simp)
              all_goals with_reducible rfl
             try simp only[Act.put,List.setIfInBounds_toArray,List.set_cons_zero,List.set_cons_succ]
             refine wpAnyH_done (by kernel_rfl) ?_ _
             try simp only[Act.put,List.setIfInBounds_toArray,List.set_cons_zero,List.set_cons_succ,List.getElem_toArray,List.getElem_cons_zero,List.getElem_cons_succ]
             go_wp2_with fail
             go_ret
             exact⟨rfl,hB⟩
end Go.Proofs.YtmhfioimgllgeaaGreatDoor
namespace Go.Proofs.YtmhfioimgllgeaaGreatDoor
open Go Go.RowKit Go.Shelf
set_option maxRecDepth 100000 in
set_option maxHeartbeats 8000000 in
theorem law_logic0 (p:Option Addr) (c:Nat) (z0 z1:Rw) (w:World) (hE:Env w):Calls Tryz.prog 8 #[.slice p 0 c,.agg z0.c,.agg z1.c] w (Gives (.bool true) w):=by
 have HO0:=Lib.hid (show(z0.c).size=5 from rfl)
 obtain⟨R0,hR0⟩:∃R,R=z0.c:=⟨_,rfl⟩
 obtain⟨R1,hR1⟩:∃R,R=z1.c:=⟨_,rfl⟩
 rw[←hR0,←hR1]
 clear hR0 hR1
 obtain⟨W0,hW0⟩:∃W,W=(w.alloc (.cells R0 61)).alloc (.cells R1 61):=⟨_,rfl⟩
 have hB0:Below w.heap.size w W0:=by rw[hW0];exact((Below.refl _ w).alloc (Nat.le_refl _) _).alloc (by simp) _
 have HEX:=Lib.hid (examples_any W0 (hE.below hB0))
 clear hE HO0
 go_enter Tryz.func8,Tryz.ntmps8
 go_upto_region 1 with fail
 go_simp
 rw[←hW0]
 clear hW0
 go_wp2_with fail
 refine HEX.out.mono ?_
 rintro e1 w1 ⟨rfl,hB1⟩
 have hB1:=hB0.trans (hB1.mono hB0.size)
 clear hB0 HEX
 go_wp2_with fail
 go_loopw [8,11] (fun s i wr=>s=nilS∧i= .int .i64 0∧wr=w1) (fun _ _ _=>0)
 case atStart=>exact⟨rfl,rfl,rfl⟩
 case round=>
  obtain⟨rfl,rfl,rfl⟩:=hrel
  go_wp2_with fail
  go_ret
  exact⟨rfl,hB1⟩
/-- A slice of truths. -/
def BoolsIn (w:World) (v:Value) (bs:List Bool):Prop:=∃p c,v= .slice p bs.length c∧bs.length≤9223372036854775807∧(bs≠ []→∃g off,p=some ⟨g,off,none⟩∧g<w.heap.size∧BoolsAt w g off bs)
theorem law_logic (v:Value) (bs:List Bool) (z0 z1:Rw) (hz0:RwOk z0) (hz1:RwOk z1) (w:World) (h:BoolsIn w v bs) (hE:Env w):Calls Tryz.prog 8 #[v,.agg z0.c,.agg z1.c] w (Gives (.bool true) w):=by
 obtain⟨p,c,rfl,hl,h⟩:=h
 cases bs with
 |nil=>exact law_logic0 p c z0 z1 w hE
 |cons q l=>
  obtain⟨g,off,rfl,hg,hb⟩:=h (by simp)
  exact law_logic1 q (q :: l) g off c hl rfl z0 z1 hz0 hz1 w hg hb hE
end Go.Proofs.YtmhfioimgllgeaaGreatDoor
namespace Go.Proofs.YtmhfioimgllgeaaGreatDoor
open Go Go.ChangeShapes Go.WideShapes Go.Deep Go.Joins Go.RowKit
section
variable {H : Type} {enc : TypeId × Value → H} {w : World} {base : Nat} {spare : Nat → Bool} {held : Bool}
set_option maxRecDepth 100000 in
theorem bools_open {r:Reach} {b0:Nat} {v:Value} {d:DataW H} {p:List MemPlace} (hv:Value.okWide Tryz.prog w r b0 59 v) (h:DataW.Trod enc Tryz.prog w base spare held 59 v d p):∃bs,BoolsIn w v bs:=by
 obtain⟨a0,l0,k0,rfl⟩:=okWide_slice Tryz.underlying59 hv
 obtain⟨fuel,hf⟩:=h
 rcases open_slice Tryz.underlying59 hf with ⟨hc,_⟩|⟨a,len,cap,m,n,D,Pl,hcs,hb,hl,hm,hmm,hx,hi⟩
 ·simp[Value.cells]at hc
  obtain⟨rfl,rfl,rfl⟩:=hc
  exact⟨[],none,0,rfl,by simp,fun h=>absurd rfl h⟩
 ·simp[Value.cells]at hcs
  obtain⟨rfl,rfl,rfl⟩:=hcs
  have hlm:l0≤m:=by rw[hmm];split<;>omega
  obtain⟨g,off,spot⟩:=a
  have hz:∀i:Nat,∃b:Bool,i<l0→w.cell? (Addr.add ⟨g,off,spot⟩ i)=some (.bool b):=by
   intro i
   by_cases hil:i<l0
   ·obtain⟨cs,hc,ht⟩:=hi i (by omega)
    rw[c4]at hc
    obtain⟨_,hcl,hat⟩:=World.cells?_some hc
    obtain⟨b,e,_⟩:=DataW.trod_bool Tryz.underlying4 ht
    refine⟨b,fun _=> ?_⟩
    have:=hat 0 (by omega)
    rw[e]at this
    rw[Go.Deep.add_add,Nat.mul_one,Nat.add_zero]at this
    simpa using this
   ·exact⟨false,fun h=>absurd h hil⟩
  obtain⟨z,hz3⟩:=Classical.axiomOfChoice hz
  have hlen:l0≤9223372036854775807:=by unfold maxLen at hm;omega
  refine⟨(List.range l0).map z,some ⟨g,off,spot⟩,k0,by simp,by simpa using hlen,fun hne=> ?_⟩
  have hl0:0<l0:=by
   rcases Nat.eq_zero_or_pos l0 with h|h
   ·subst h;simp at hne
   ·exact h
  have hspot:spot=none:=by
   have h00:=hz3 0 hl0
   have:=World.cell?_spot h00
   unfold Addr.add at this
   rw[if_pos (by rfl)]at this
   exact this
  subst hspot
  refine⟨g,off,rfl,?_,fun K b hK=> ?_⟩
  ·have:=World.block_lt_of_cell? _ _ (hz3 0 hl0)
   unfold Addr.add at this
   split at this<;>exact this
  ·rw[List.getElem?_map]at hK
   have hil:K<l0:=by
    rcases Nat.lt_or_ge K l0 with h|h
    ·exact h
    ·rw[List.getElem?_eq_none (by simpa using h)]at hK
     simp at hK
   rw[List.getElem?_range hil]at hK
   simp only[Option.map_some,Option.some.injEq]at hK
   subst hK
   have:=hz3 K hil
   rw[add_at]at this
   exact this
end
end Go.Proofs.YtmhfioimgllgeaaGreatDoor
