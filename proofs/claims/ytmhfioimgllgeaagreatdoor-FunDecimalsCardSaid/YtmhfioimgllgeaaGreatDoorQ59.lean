/- Merged: Dst, Exb, Srt, Sqv, Sqa, Mnx. -/
import Derived.Test.YtmhfioimgllgeaaGreatDoorQ33
import Derived.Test.YtmhfioimgllgeaaGreatDoorQ48
import Derived.Test.YtmhfioimgllgeaaGreatDoorQ56
import Derived.Test.YtmhfioimgllgeaaGreatDoorQ01
import Derived.Test.YtmhfioimgllgeaaGreatDoorQ12
import Derived.RangeFuncBox
import Derived.RangeFuncNested
import Derived.RangeFuncBound
import Derived.RangeFuncCalls
import Derived.RangeFuncLeaves
import Derived.Shelf.Abstract
import Derived.WalkKit
import Derived.OwnWalkIn
import Derived.TacticsInMore
import Derived.LoopNIn
import Derived.LoopIn
import Derived.WalkMore
import Derived.ControlIn
import Derived.Maps.OwnIn
import Derived.Maps.AppendAt
namespace Go.Proofs.YtmhfioimgllgeaaGreatDoor
open Go Go.RowKit Go.Shelf
theorem dsC_set :∀(l:List (Int×Int)) (k:Nat) (y:Int×Int),k<l.length→dsC (l.set k y)=(dsC l).take (k*2)++([.int .i64 y.1,.int .i64 y.2]:List Value)++(dsC l).drop (k*2+2)
 | [],_,_,h=>absurd h (by simp)
 |x :: l,0,y,_=>by
  have e1:dsC (x :: l)=([.int .i64 x.1,.int .i64 x.2]:List Value)++dsC l:=rfl
  have e2:dsC (y :: l)=([.int .i64 y.1,.int .i64 y.2]:List Value)++dsC l:=rfl
  rw[List.set_cons_zero,e1,e2]
  simp
 |x :: l,k+1,y,h=>by
  have e1:dsC (x :: l)=([.int .i64 x.1,.int .i64 x.2]:List Value)++dsC l:=rfl
  have e2:dsC (x :: l.set k y)=([.int .i64 x.1,.int .i64 x.2]:List Value)++dsC (l.set k y):=rfl
  have h2:([.int .i64 x.1,.int .i64 x.2]:List Value).length=2:=rfl
  rw[List.set_cons_succ,e1,e2,dsC_set l k y (by simpa using h)]
  rw[List.take_append,h2,List.take_of_length_le (l:=([.int .i64 x.1,.int .i64 x.2]:List Value)) (by rw[h2];omega),show(k+1)*2-2=k*2 by omega]
  have d1:([.int .i64 x.1,.int .i64 x.2]:List Value).drop ((k+1)*2+2)= []:=List.drop_eq_nil_of_le (by rw[h2];omega)
  rw[List.drop_append,h2,d1,show(k+1)*2+2-2=k*2+2 by omega]
  simp
theorem dcr_store {w:World} {base:Nat} {v:Value} {l:List (Int×Int)} (h:World.dcr w base v l) {k:Nat} (hk:k<l.length) (y:Int×Int):
 ∃g cap,v= .slice (some ⟨g,0,none⟩) l.length cap∧base≤g∧g<w.heap.size∧(storeCells ⟨g,k*2,none⟩ ([.int .i64 y.1,.int .i64 y.2]:List Value) 0).run Tryz.prog w= .ok () (w.setCells g (k*2) ([.int .i64 y.1,.int .i64 y.2]:List Value))∧World.dcr (w.setCells g (k*2) ([.int .i64 y.1,.int .i64 y.2]:List Value)) base v (l.set k y):=by
 obtain⟨hlen,h|⟨g,cap,cur,rfl,hb,hc,hn,hm,hs,ht⟩⟩:=h
 ·obtain⟨_,h0⟩:=h;omega
 ·have h2:([.int .i64 y.1,.int .i64 y.2]:List Value).length=2:=rfl
  have hsz:k*2+2≤cur.size:=by rw[hs];omega
  refine⟨g,cap,rfl,hb,(Array.getElem?_eq_some_iff.1 hc).1,?_,?_⟩
  ·have:=run_storeCells_cells (P:=Tryz.prog) g (k*2) ([.int .i64 y.1,.int .i64 y.2]:List Value) 0 w (fun j hj=>by
    rw[cell_of_row w g _ _ _ _ hc,Array.getElem?_eq_getElem (by rw[h2]at hj;omega)];rfl) (fun j hj=>frozen_of_row w g _ _ _ hc) (fun u hu=>by
    simp at hu
    rcases hu with rfl|rfl<;>rfl)
   rwa [Nat.add_zero]at this
  ·refine⟨by rw[dsC_len,List.length_set],.inr ⟨g,cap,_,by rw[List.length_set],hb,heap_setCells g 34 _ _ _ _ hc,by rw[List.length_set];exact hn,hm,?_,?_⟩⟩
   ·rw[List.size_toArray,setR_len];simpa using hs
   ·rw[List.length_set]
    have hcl:cur.toList.length=cap*2:=by simpa using hs
    have h1:k*2+2≤l.length*2:=by omega
    rw[setR_eq _ _ _ (by rw[h2,hcl];omega),h2,dsC_set l k y hk,←ht]
    have e1:(cur.toList.take (k*2)).length=k*2:=by rw[List.length_take,hcl];omega
    rw[List.take_append,List.length_append,e1,h2,List.take_of_length_le (by rw[List.length_append,e1,h2];exact h1),List.take_take,Nat.min_eq_left (by omega),List.drop_take,show l.length*2-(k*2+2)=l.length*2-(k*2+2)from rfl]
end Go.Proofs.YtmhfioimgllgeaaGreatDoor
namespace Go.Proofs.YtmhfioimgllgeaaGreatDoor
open Go Go.RowKit Go.Shelf
theorem cat_at (Cs:List (Array Value)) (h12:∀C∈Cs,C.size=12) (i j:Nat) {C:Array Value} {u:Value} (hC:Cs[i]? =some C) (hj:C[j]? =some u):(Cs.flatMap (·.toList))[i*12+j]? =some u:=by
 have hj12:j<12:=by rw[←h12 C (List.mem_of_getElem? hC)];exact(Array.getElem?_eq_some_iff.1 hj).1
 induction Cs generalizing i with
 |nil=>simp at hC
 |cons D l ih=>
  have e:(D :: l).flatMap (·.toList)=D.toList++l.flatMap (·.toList):=rfl
  have hD:D.toList.length=12:=by rw[Array.length_toList];exact h12 D (List.mem_cons_self ..)
  rw[e]
  cases i with
  |zero=>
   injection hC with hC
   subst hC
   rw[Nat.zero_mul,Nat.zero_add,List.getElem?_append_left (by rw[hD];exact hj12)]
   simpa using hj
  |succ i=>
   rw[List.getElem?_append_right (by rw[hD];omega),hD,show(i+1)*12+j-12=i*12+j by omega]
   exact ih (fun C h=>h12 C (List.mem_cons_of_mem _ h)) i (by simpa using hC)
/-- Values in a block, one behind the other. -/
theorem args_blk {w:World} {g:Nat} (Cs:List (Array Value)) (xs:List Vl) (hl:Cs.length=xs.length) (hn:xs.length≤1000) (hne:xs≠ []) (h:∀(i:Nat) (x:Vl) (C:Array Value),xs[i]? =some x→Cs[i]? =some C→At x C w) (hb:World.vb w g (Cs.flatMap (·.toList)).toArray):ArgsAt w (.slice (some ⟨g,0,none⟩) xs.length xs.length) xs:=by
 have hC:∀(i:Nat) (x:Vl),xs[i]? =some x→∃C,Cs[i]? =some C:=fun i x hx=>⟨_,List.getElem?_eq_getElem (by rw[hl];exact(List.getElem?_eq_some_iff.1 hx).1)⟩
 have h12:∀C∈Cs,C.size=12:=fun C hc=>by
  obtain⟨i,hi,e⟩:=List.mem_iff_getElem.1 hc
  exact(h i _ C (List.getElem?_eq_getElem (by omega)) (by rw[←e];exact List.getElem?_eq_getElem hi)).2.1.1
 refine⟨⟨some ⟨g,0,none⟩,xs.length,rfl,Nat.le_refl _,(by unfold maxLen;omega),hn,fun e=>absurd e hne,fun i y hi=> ?_⟩,fun x hx=> ?_⟩
 ·obtain⟨C,hc⟩:=hC i y hi
  have hA:=h i y C hi hc
  refine⟨g,0,C,rfl,hb.lt,hA.2.1.1,hA.1,fun j u hj=> ?_⟩
  rw[Nat.zero_add]
  exact hb.cell (by rw[List.getElem?_toArray];exact cat_at Cs h12 i j hc hj)
 ·obtain⟨i,hi,e⟩:=List.mem_iff_getElem.1 hx
  have hi2:xs[i]? =some x:=by rw[←e];exact List.getElem?_eq_getElem hi
  obtain⟨C,hc⟩:=hC i x hi2
  exact(h i x C hi2 hc).2.2
theorem vr_blk {w:World} {g:Nat} {l:List Vl} (hb:World.vb w g (vsC l).toArray) (hn:l.length≤1000):World.vr w g (.slice (some ⟨g,0,none⟩) l.length l.length) l:=
 ⟨vsC_len l,.inr ⟨g,l.length,_,rfl,Nat.le_refl _,hb,Nat.le_refl _,by unfold maxLen;omega,by rw[List.size_toArray,vsC_len],by
  have:=vsC_len l
  rw[List.take_of_length_le (by rw[List.toList_toArray];omega)]⟩⟩
theorem at_vr {w:World} {D:Nat} {r c:Int} {l:List Vl} {L:Value} (h:World.vr w D L l) (hr:rightV 1 (arrV r c l)=true):At (arrV r c l) (vcs (arrV r c l) L nilS nilS) w:=
 ⟨rp_of_vr (n:=1) (m:=0) h hr (Nat.le_refl _),vr_one (r:=r) (c:=c) (l:=l) h,.inr ⟨rfl,hr⟩⟩
theorem bslice2 (x y:Vl) (w:World):(Instr.buildSlice 31 2 #[(0,.agg (pcs x)),(1,.agg (pcs y))]).run Tryz.prog w= .ok (.slice (some ⟨w.heap.size,0,none⟩) 2 2) (w.alloc (.cells (vsC [x,y]).toArray 39)):=by kernel_rfl
theorem bslice3 (x y z:Vl) (w:World):(Instr.buildSlice 31 3 #[(0,.agg (pcs x)),(1,.agg (pcs y)),(2,.agg (pcs z))]).run Tryz.prog w= .ok (.slice (some ⟨w.heap.size,0,none⟩) 3 3) (w.alloc (.cells (vsC [x,y,z]).toArray 39)):=by kernel_rfl
theorem bsliceA2 (x y:Vl) (L:Value) (w:World):(Instr.buildSlice 31 2 #[(0,.agg (vcs x L nilS nilS)),(1,.agg (pcs y))]).run Tryz.prog w= .ok (.slice (some ⟨w.heap.size,0,none⟩) 2 2) (w.alloc (.cells ([vcs x L nilS nilS,pcs y].flatMap (·.toList)).toArray 39)):=by kernel_rfl
theorem bsliceA5 (a x b c d:Vl) (L:Value) (w:World):(Instr.buildSlice 31 5 #[(0,.agg (pcs a)),(1,.agg (vcs x L nilS nilS)),(2,.agg (pcs b)),(3,.agg (pcs c)),(4,.agg (pcs d))]).run Tryz.prog w= .ok (.slice (some ⟨w.heap.size,0,none⟩) 5 5) (w.alloc (.cells ([pcs a,vcs x L nilS nilS,pcs b,pcs c,pcs d].flatMap (·.toList)).toArray 39)):=by kernel_rfl
theorem build_arrS (r c:Int) (l:List Vl) (p:Option Addr) (n k:Nat) (w:World):(Instr.build 39 #[(0,.int .i64 5),(5,.int .i64 r),(6,.int .i64 c),(7,.slice p n k)]).run Tryz.prog w= .ok (.agg (vcs (arrV r c l) (.slice p n k) nilS nilS)) w:=by kernel_rfl
section
variable {o : Oper} {a : Act} {w : World} {K : Act → World → Prop} {Q : Exit → Act → World → Prop}
theorem op_bsl2 {p q:Operand} {x y:Vl} (ho:o.op= .buildSlice 31 2 #[(0,p),(1,q)]) (hx:a.eval p= .agg (pcs x)) (hy:a.eval q= .agg (pcs y)) (h:K (a.put o.dst (.slice (some ⟨w.heap.size,0,none⟩) 2 2)) (w.alloc (.cells (vsC [x,y]).toArray 39))):o.wp Tryz.prog a w K Q:=by
 have hz:=bslice2 x y w
 unfold Oper.wp execOp
 simp[ho,hx,hy,hz]
 exact h
theorem op_bsl3 {p q r:Operand} {x y z:Vl} (ho:o.op= .buildSlice 31 3 #[(0,p),(1,q),(2,r)]) (hx:a.eval p= .agg (pcs x)) (hy:a.eval q= .agg (pcs y)) (hr:a.eval r= .agg (pcs z)) (h:K (a.put o.dst (.slice (some ⟨w.heap.size,0,none⟩) 3 3)) (w.alloc (.cells (vsC [x,y,z]).toArray 39))):o.wp Tryz.prog a w K Q:=by
 have hz:=bslice3 x y z w
 unfold Oper.wp execOp
 simp[ho,hx,hy,hr,hz]
 exact h
theorem op_bslA2 {p q:Operand} {x y:Vl} {L:Value} (ho:o.op= .buildSlice 31 2 #[(0,p),(1,q)]) (hx:a.eval p= .agg (vcs x L nilS nilS)) (hy:a.eval q= .agg (pcs y)) (h:K (a.put o.dst (.slice (some ⟨w.heap.size,0,none⟩) 2 2)) (w.alloc (.cells ([vcs x L nilS nilS,pcs y].flatMap (·.toList)).toArray 39))):o.wp Tryz.prog a w K Q:=by
 have hz:=bsliceA2 x y L w
 unfold Oper.wp execOp
 simp only[ho,List.map_toArray,List.map_cons,List.map_nil,hx,hy,hz,Sem.run_bind,Sem.run_pure,Result.andThen_ok]
 exact h
theorem op_bslA5 {p0 p1 p2 p3 p4:Operand} {u x b c d:Vl} {L:Value} (ho:o.op= .buildSlice 31 5 #[(0,p0),(1,p1),(2,p2),(3,p3),(4,p4)]) (h0:a.eval p0= .agg (pcs u)) (h1:a.eval p1= .agg (vcs x L nilS nilS)) (h2:a.eval p2= .agg (pcs b)) (h3:a.eval p3= .agg (pcs c)) (h4:a.eval p4= .agg (pcs d)) (h:K (a.put o.dst (.slice (some ⟨w.heap.size,0,none⟩) 5 5)) (w.alloc (.cells ([pcs u,vcs x L nilS nilS,pcs b,pcs c,pcs d].flatMap (·.toList)).toArray 39))):o.wp Tryz.prog a w K Q:=by
 have hz:=bsliceA5 u x b c d L w
 unfold Oper.wp execOp
 simp only[ho,List.map_toArray,List.map_cons,List.map_nil,h0,h1,h2,h3,h4,hz,Sem.run_bind,Sem.run_pure,Result.andThen_ok]
 exact h
theorem op_buildA {p q s:Operand} {r c:Int} (l:List Vl) {z:Option Addr} {n k:Nat} (ho:o.op= .build 39 #[(0,.const (.int .i64 5)),(5,p),(6,q),(7,s)]) (hx:a.eval p= .int .i64 r) (hy:a.eval q= .int .i64 c) (hs:a.eval s= .slice z n k) (h:K (a.put o.dst (.agg (vcs (arrV r c l) (.slice z n k) nilS nilS))) w):o.wp Tryz.prog a w K Q:=by
 have hz:=build_arrS r c l z n k w
 have he:a.eval (.const (.int .i64 5))= .int .i64 5:=rfl
 unfold Oper.wp execOp
 simp[ho,hx,hy,hs,he,hz]
 exact h
theorem op_alloc39v (ho:o.op= .alloc 39) (h:K (a.put o.dst (.pointer (some ⟨w.heap.size,0,none⟩))) (w.alloc (.cells vz 39))):o.wp Tryz.prog a w K Q:=by
 have hz:=zero34 w
 unfold Oper.wp execOp
 simp[ho,Instr.alloc,Sem.run_bind,hz,newVar,newRow,newObj,Value.cells]
 exact h
theorem op_store39v {x y:Operand} {g:Nat} {cs cs':Array Value} (ho:o.op= .store 39 x y) (hx:a.eval x= .pointer (some ⟨g,0,none⟩)) (hy:a.eval y= .agg cs') (hn:World.vb w g cs) (hs:cs.size=12) (h1:OneC cs')
 (h:∀w1,World.vb w1 g cs'→w.grownBy w1 (some g)→w1.heap.size=w.heap.size→K (a.put o.dst undef) w1):o.wp Tryz.prog a w K Q:=by
 exact wp_store_row 39 x y ho g _ hx hy 39 _ hn (by rw[h1.1];exact info34) (by rw[hs,h1.1]) h1.2 (h _ hn.setRow (setRow_grownBy _ _ _) (by simp))
end
section
variable {ops : Array Oper} {rest : List Oper} {o : Oper} {a : Act} {w : World} {Q : Exit → Act → World → Prop}
theorem wpList_bsl2 {p q:Operand} {x y:Vl} (hgd:o.guard=none) (ho:o.op= .buildSlice 31 2 #[(0,p),(1,q)]) (hx:a.eval p= .agg (pcs x)) (hy:a.eval q= .agg (pcs y)) (h:wpList Tryz.prog ops Q rest (a.put o.dst (.slice (some ⟨w.heap.size,0,none⟩) 2 2)) (w.alloc (.cells (vsC [x,y]).toArray 39))):wpList Tryz.prog ops Q (o :: rest) a w:=
 wpList_plain hgd fun _ hK=>op_bsl2 ho hx hy (hK _ _ h)
theorem wpList_bsl3 {p q r:Operand} {x y z:Vl} (hgd:o.guard=none) (ho:o.op= .buildSlice 31 3 #[(0,p),(1,q),(2,r)]) (hx:a.eval p= .agg (pcs x)) (hy:a.eval q= .agg (pcs y)) (hr:a.eval r= .agg (pcs z)) (h:wpList Tryz.prog ops Q rest (a.put o.dst (.slice (some ⟨w.heap.size,0,none⟩) 3 3)) (w.alloc (.cells (vsC [x,y,z]).toArray 39))):wpList Tryz.prog ops Q (o :: rest) a w:=
 wpList_plain hgd fun _ hK=>op_bsl3 ho hx hy hr (hK _ _ h)
theorem wpList_buildA {p q s:Operand} {r c:Int} (l:List Vl) {z:Option Addr} {n k:Nat} (hgd:o.guard=none) (ho:o.op= .build 39 #[(0,.const (.int .i64 5)),(5,p),(6,q),(7,s)]) (hx:a.eval p= .int .i64 r) (hy:a.eval q= .int .i64 c) (hs:a.eval s= .slice z n k) (h:wpList Tryz.prog ops Q rest (a.put o.dst (.agg (vcs (arrV r c l) (.slice z n k) nilS nilS))) w):wpList Tryz.prog ops Q (o :: rest) a w:=
 wpList_plain hgd fun _ hK=>op_buildA l ho hx hy hs (hK _ _ h)
end
end Go.Proofs.YtmhfioimgllgeaaGreatDoor
namespace Go.Proofs.YtmhfioimgllgeaaGreatDoor
open Go Go.RowKit Go.Shelf
theorem dcr_at0 {w:World} {base g cap n:Nat} {m e:Int} {r:List (Int×Int)} (h:World.dcr w base (.slice (some ⟨g,0,none⟩) n cap) ((m,e) :: r)):∀(j:Nat) (u:Value),(#[.int .i64 m,.int .i64 e]:Array Value)[j]? =some u→w.cell? ⟨g,0+j,none⟩=some u:=by
 have:=dcr_cells h (k:=0) rfl
 rwa [Nat.zero_mul]at this
theorem dcr_at1 {w:World} {base g cap n:Nat} {m e:Int} {x:Int×Int} {r:List (Int×Int)} (h:World.dcr w base (.slice (some ⟨g,0,none⟩) n cap) (x :: (m,e) :: r)):∀(j:Nat) (u:Value),(#[.int .i64 m,.int .i64 e]:Array Value)[j]? =some u→w.cell? ⟨g,2+j,none⟩=some u:=by
 have:=dcr_cells h (k:=1) rfl
 rwa [Nat.one_mul]at this
theorem yields_dat {a:Act} {o:Oper} {w:World} {x:Operand} {g off:Nat} {cs:Array Value} (ho:o.op= .load 34 x) (hx:a.eval x= .pointer (some ⟨g,off,none⟩)) (hs:cs.size=2) (hc:∀j u,cs[j]? =some u→w.cell? ⟨g,off+j,none⟩=some u):(execOp a.eval o).run Tryz.prog w= .ok (.value (.agg cs)) w:=by
 have:=run_load_at w g off 34 cs _ hc Tryz.underlying34 rfl (by rw[hs];exact info34d)
 unfold execOp
 simp only[ho,hx,Instr.loadAt,Instr.sureAddr,Sem.run_bind,Sem.run_pure,Result.andThen_ok,this]
theorem dcr_frozen {w:World} {base g cap n:Nat} {x:Int×Int} {r:List (Int×Int)} (h:World.dcr w base (.slice (some ⟨g,0,none⟩) n cap) (x :: r)) (o:Nat):w.frozen? ⟨g,o,none⟩=false:=by
 obtain⟨_,h|⟨g',cap',cur,e,hb,hc,_⟩⟩:=h
 ·cases h.1
 ·injection e with e _ _
  injection e with e
  injection e with e
  subst e
  exact frozen_of_row w g o _ _ hc
set_option maxRecDepth 100000 in
set_option maxHeartbeats 8000000 in
theorem ins2_t (pm pe qm qe:Int) (hp:RightP (pm,pe)) (hq:RightP (qm,qe)) (hcm:cmpD qm qe pm pe<0) (base g cap:Nat) (w:World) (hbz:base≤w.heap.size) (hd:World.dcr w base (.slice (some ⟨g,0,none⟩) 2 cap) [(pm,pe),(qm,qe)]):
 Calls Tryz.prog 339 #[.slice (some ⟨g,0,none⟩) 2 cap,.int .i64 0,.int .i64 2,.func (.func 37) #[] #[]] w fun e w'=>e= .returned (.tuple #[])∧Below base w w'∧World.dcr w' base (.slice (some ⟨g,0,none⟩) 2 cap) [(qm,qe),(pm,pe)]:=by
 have HC:=Lib.hid (fun W=>cmp_any qm qe pm pe W (by have:=hq.1;simp only at this;omega) (by have:=hq.2.1;simp only at this;omega) (by have:=hp.1;simp only at this;omega) (by have:=hp.2.1;simp only at this;omega))
 obtain⟨c,hc⟩:∃c,c=cmpD qm qe pm pe:=⟨_,rfl⟩
 rw[←hc]at HC hcm
 have hw0:IntKind.i64.wrap 0=0:=by rw[IntKind.wrap_i64];omega
 clear hp hq hc
 go_enter Tryz.func339,Tryz.ntmps339
 go_wp2_with fail
 go_loopw [8] (fun i wr=>(i= .int .i64 1∧World.dcr wr base (.slice (some ⟨g,0,none⟩) 2 cap) [(pm,pe),(qm,qe)]∧Below base w wr)∨(i= .int .i64 2∧World.dcr wr base (.slice (some ⟨g,0,none⟩) 2 cap) [(qm,qe),(pm,pe)]∧Below base w wr)) (fun i _=>2-(intOf i).toNat)
 case atStart=>exact .inl ⟨by go_num,hd,Below.refl _ _⟩
 case round=>
  clear hd
  rcases hrel with ⟨rfl,hd,hB⟩|⟨rfl,hd,hB⟩
  ·go_wp2_with fail
   obtain⟨wo,hwo⟩:∃W,W=wr:=⟨_,rfl⟩
   subst hwo
   go_loopw [9] (fun j wr=>(j= .int .i64 1∧World.dcr wr base (.slice (some ⟨g,0,none⟩) 2 cap) [(pm,pe),(qm,qe)]∧Below base w wr)∨(j= .int .i64 0∧World.dcr wr base (.slice (some ⟨g,0,none⟩) 2 cap) [(qm,qe),(pm,pe)]∧Below base w wr)) (fun j _=>(intOf j).toNat)
   case atStart=>exact .inl ⟨rfl,hd,hB⟩
   case round=>
    clear hd hB
    rcases hrel with ⟨rfl,hd,hB⟩|⟨rfl,hd,hB⟩
    ·go_upto_region 4 with fail
     refine wp_region_held_drew (S:=fun w9=>World.dcr w9 base (.slice (some ⟨g,0,none⟩) 2 cap) [(pm,pe),(qm,qe)]) (by kernel_rfl) hd (fun hHeld=> ?_)
     refine tk 0 ⟨some 18,_,_,_,_,_⟩ ?_ hHeld ?_ ?_
     rotate_left
     ·(intro w9 hSw;(try dsimp only at hSw);go_simp)
      all_goals with_reducible rfl
     try simp only[Act.put,List.setIfInBounds_toArray,List.set_cons_zero,List.set_cons_succ]
     refine tk 1 ⟨some 19,_,_,_,_,_⟩ ?_ hHeld ?_ ?_
     rotate_left
     ·(intro w9 hSw;(try dsimp only at hSw);go_simp)
      all_goals with_reducible rfl
     try simp only[Act.put,List.setIfInBounds_toArray,List.set_cons_zero,List.set_cons_succ]
     refine tk 2 ⟨some 20,_,_,_,_,_⟩ ?_ hHeld ?_ ?_
     rotate_left
     ·(intro w9 hSw;(try dsimp only at hSw);go_simp)
      all_goals with_reducible rfl
     try simp only[Act.put,List.setIfInBounds_toArray,List.set_cons_zero,List.set_cons_succ]
     refine tk 3 ⟨some 21,_,_,_,_,_⟩ ?_ hHeld ?_ ?_
     rotate_left
     ·(intro w9 hSw;(try dsimp only at hSw);go_simp)
      all_goals with_reducible rfl
     try simp only[Act.put,List.setIfInBounds_toArray,List.set_cons_zero,List.set_cons_succ]
     refine tk 4 ⟨some 22,_,_,_,_,_⟩ ?_ hHeld ?_ ?_
     rotate_left
     ·(intro w9 hSw;(try dsimp only at hSw);go_simp)
      all_goals with_reducible rfl
     try simp only[Act.put,List.setIfInBounds_toArray,List.set_cons_zero,List.set_cons_succ]
     refine tk 5 ⟨some 23,_,_,_,_,_⟩ ?_ hHeld ?_ ?_
     rotate_left
     ·(intro w9 hSw;(try dsimp only at hSw);go_simp)
      all_goals with_reducible rfl
     try simp only[Act.put,List.setIfInBounds_toArray,List.set_cons_zero,List.set_cons_succ]
     refine tk 6 ⟨some 24,_,_,_,_,_⟩ ?_ hHeld ?_ ?_
     rotate_left
     ·(intro w9 hSw;(try dsimp only at hSw);go_simp)
      all_goals with_reducible rfl
     try simp only[Act.put,List.setIfInBounds_toArray,List.set_cons_zero,List.set_cons_succ]
     refine tk 7 ⟨some 25,_,_,_,_,_⟩ ?_ hHeld ?_ ?_
     rotate_left
     ·(intro w9 hSw;(try dsimp only at hSw);go_simp)
      all_goals with_reducible rfl
     try simp only[Act.put,List.setIfInBounds_toArray,List.set_cons_zero,List.set_cons_succ]
     refine tk 8 ⟨some 26,_,_,_,_,_⟩ ?_ hHeld ?_ ?_
     rotate_left
     ·(intro w9 hSw;refine yields_dat (x:= .tmp 25) (g:=g) (off:=2) (cs:= #[.int .i64 qm,.int .i64 qe]) ?_ ?_ rfl (dcr_at1 hSw)<;>rfl)
     try simp only[Act.put,List.setIfInBounds_toArray,List.set_cons_zero,List.set_cons_succ]
     refine tk 9 ⟨some 27,_,_,_,_,_⟩ ?_ hHeld ?_ ?_
     rotate_left
     ·(intro w9 hSw;(try dsimp only at hSw);go_simp)
      all_goals with_reducible rfl
     try simp only[Act.put,List.setIfInBounds_toArray,List.set_cons_zero,List.set_cons_succ]
     refine tk 10 ⟨some 28,_,_,_,_,_⟩ ?_ hHeld ?_ ?_
     rotate_left
     ·(intro w9 hSw;(try dsimp only at hSw);go_simp)
      all_goals with_reducible rfl
     try simp only[Act.put,List.setIfInBounds_toArray,List.set_cons_zero,List.set_cons_succ]
     refine tk 11 ⟨some 29,_,_,_,_,_⟩ ?_ hHeld ?_ ?_
     rotate_left
     ·(intro w9 hSw;(try dsimp only at hSw);go_simp)
      all_goals with_reducible rfl
     try simp only[Act.put,List.setIfInBounds_toArray,List.set_cons_zero,List.set_cons_succ]
     refine tk 12 ⟨some 30,_,_,_,_,_⟩ ?_ hHeld ?_ ?_
     rotate_left
     ·(intro w9 hSw;(try dsimp only at hSw);go_simp)
      all_goals with_reducible rfl
     try simp only[Act.put,List.setIfInBounds_toArray,List.set_cons_zero,List.set_cons_succ]
     refine tk 13 ⟨some 31,_,_,_,_,_⟩ ?_ hHeld ?_ ?_
     rotate_left
     ·(intro w9 hSw;refine yields_dat (x:= .tmp 30) (g:=g) (off:=0) (cs:= #[.int .i64 pm,.int .i64 pe]) ?_ ?_ rfl (dcr_at0 hSw)<;>rfl)
     try simp only[Act.put,List.setIfInBounds_toArray,List.set_cons_zero,List.set_cons_succ]
     have hd:World.dcr wr.drew base (.slice (some ⟨g,0,none⟩) 2 cap) [(pm,pe),(qm,qe)]:=hd.below (Below.refl _ wr).drew
     have hB:=hB.drew
     refine wpAnyH_ready (rs:= [14]) (by kernel_rfl) (by simp) ?_
     refine(AllReadyH.cons (o:=⟨some 32,_,_,_,_,_⟩) rfl (fun KK hK=> ?_) AllReadyH.nil)
     ·(try rw[if_pos (by rfl)])
      go_simp
      refine(HC.out _).mono ?_
      rintro e x1 ⟨rfl,hb⟩
      have hd:=hd.below hb
      have hB:=hB.trans (hb.mono (Nat.le_trans hbz hB.size))
      clear hb
      refine hK.out _ _ hd ?_
      clear hK KK hHeld
      intro hHeld
      try simp only[Act.put,List.setIfInBounds_toArray,List.set_cons_zero,List.set_cons_succ,List.getElem_toArray,List.getElem_cons_zero,List.getElem_cons_succ]
      refine tk 15 ⟨some 33,_,_,_,_,_⟩ ?_ hHeld ?_ ?_
      rotate_left
      ·(intro w9 hSw;(try dsimp only at hSw);go_simp)
       all_goals with_reducible rfl
      try simp only[Act.put,List.setIfInBounds_toArray,List.set_cons_zero,List.set_cons_succ]
      refine tk 16 ⟨some 34,_,_,_,_,_⟩ ?_ hHeld ?_ ?_
      rotate_left
      ·(intro w9 hSw;(try dsimp only at hSw);go_simp)
       all_goals with_reducible rfl
      try simp only[Act.put,List.setIfInBounds_toArray,List.set_cons_zero,List.set_cons_succ]
      refine wpAnyH_done (by kernel_rfl) ?_ _
      try simp only[Act.put,List.setIfInBounds_toArray,List.set_cons_zero,List.set_cons_succ,List.getElem_toArray,List.getElem_cons_zero,List.getElem_cons_succ]
      go_upto_region 6 with fail
      have hc0:=dcr_at0 hd
      have hc1:=dcr_at1 hd
      have k0:x1.cell? ⟨g,0,none⟩=some (.int .i64 pm):=hc0 0 _ rfl
      have k1:x1.cell? ⟨g,1,none⟩=some (.int .i64 pe):=hc0 1 _ rfl
      have k2:x1.cell? ⟨g,2,none⟩=some (.int .i64 qm):=hc1 0 _ rfl
      have k3:x1.cell? ⟨g,3,none⟩=some (.int .i64 qe):=hc1 1 _ rfl
      have f0:=dcr_frozen hd 0
      have f1:=dcr_frozen hd 1
      have f2:=dcr_frozen hd 2
      have f3:=dcr_frozen hd 3
      clear hc0 hc1
      obtain⟨g1,cap1,e1,hg1,hl1,_,hs1⟩:=dcr_store hd (k:=1) (by simp) (pm,pe)
      injection e1 with e1 _ _
      injection e1 with e1
      injection e1 with e1
      subst e1
      obtain⟨g2,cap2,e2,hg2,hl2,_,hs2⟩:=dcr_store hs1 (k:=0) (by simp) (qm,qe)
      injection e2 with e2 _ _
      injection e2 with e2
      injection e2 with e2
      subst e2
      have hd9:World.dcr ((((x1.setCell ⟨g,2,none⟩ (.int .i64 pm)).setCell ⟨g,3,none⟩ (.int .i64 pe)).setCell ⟨g,0,none⟩ (.int .i64 qm)).setCell ⟨g,1,none⟩ (.int .i64 qe)).drew base (.slice (some ⟨g,0,none⟩) 2 cap) [(qm,qe),(pm,pe)]:=World.dcr.below (w:=(((x1.setCell ⟨g,2,none⟩ (.int .i64 pm)).setCell ⟨g,3,none⟩ (.int .i64 pe)).setCell ⟨g,0,none⟩ (.int .i64 qm)).setCell ⟨g,1,none⟩ (.int .i64 qe)) hs2 (Below.refl _ _).drew
      have hB9:Below base w ((((x1.setCell ⟨g,2,none⟩ (.int .i64 pm)).setCell ⟨g,3,none⟩ (.int .i64 pe)).setCell ⟨g,0,none⟩ (.int .i64 qm)).setCell ⟨g,1,none⟩ (.int .i64 qe)).drew:=(((((hB.setCell (p:=⟨g,2,none⟩) hg1 _).setCell (p:=⟨g,3,none⟩) hg1 _).setCell (p:=⟨g,0,none⟩) hg1 _).setCell (p:=⟨g,1,none⟩) hg1 _)).drew
      clear hs1 hs2 hd hB hg1 hl1 hg2 hl2
      go_region
      all_goals
       go_wp2_with fail
       exact⟨.inr ⟨by go_num,hd9,hB9⟩,by simp[intOf]⟩
    ·go_upto_region 4 with fail
     go_quiet (fail)
     go_wp2_with fail
     go_roundw
     case rel=>exact .inr ⟨by go_num,hd,⟨hB.os,hB.tape,hB.output,hB.size,hB.block⟩⟩
     case measure=>simp[intOf]
  ·go_wp2_with fail
   go_end0
   exact⟨rfl,hB,hd⟩
set_option maxRecDepth 100000 in
set_option maxHeartbeats 8000000 in
theorem ins2_f (pm pe qm qe:Int) (hp:RightP (pm,pe)) (hq:RightP (qm,qe)) (hcm:¬(cmpD qm qe pm pe<0)) (base g cap:Nat) (w:World) (hbz:base≤w.heap.size) (hd:World.dcr w base (.slice (some ⟨g,0,none⟩) 2 cap) [(pm,pe),(qm,qe)]):
 Calls Tryz.prog 339 #[.slice (some ⟨g,0,none⟩) 2 cap,.int .i64 0,.int .i64 2,.func (.func 37) #[] #[]] w fun e w'=>e= .returned (.tuple #[])∧Below base w w'∧World.dcr w' base (.slice (some ⟨g,0,none⟩) 2 cap) [(pm,pe),(qm,qe)]:=by
 have HC:=Lib.hid (fun W=>cmp_any qm qe pm pe W (by have:=hq.1;simp only at this;omega) (by have:=hq.2.1;simp only at this;omega) (by have:=hp.1;simp only at this;omega) (by have:=hp.2.1;simp only at this;omega))
 obtain⟨c,hc⟩:∃c,c=cmpD qm qe pm pe:=⟨_,rfl⟩
 rw[←hc]at HC hcm
 have hw0:IntKind.i64.wrap 0=0:=by rw[IntKind.wrap_i64];omega
 clear hp hq hc
 go_enter Tryz.func339,Tryz.ntmps339
 go_wp2_with fail
 go_loopw [8] (fun i wr=>(i= .int .i64 1∧World.dcr wr base (.slice (some ⟨g,0,none⟩) 2 cap) [(pm,pe),(qm,qe)]∧Below base w wr)∨(i= .int .i64 2∧World.dcr wr base (.slice (some ⟨g,0,none⟩) 2 cap) [(pm,pe),(qm,qe)]∧Below base w wr)) (fun i _=>2-(intOf i).toNat)
 case atStart=>exact .inl ⟨by go_num,hd,Below.refl _ _⟩
 case round=>
  clear hd
  rcases hrel with ⟨rfl,hd,hB⟩|⟨rfl,hd,hB⟩
  ·go_wp2_with fail
   obtain⟨wo,hwo⟩:∃W,W=wr:=⟨_,rfl⟩
   subst hwo
   go_loopw [9] (fun j wr=>(j= .int .i64 1∧World.dcr wr base (.slice (some ⟨g,0,none⟩) 2 cap) [(pm,pe),(qm,qe)]∧Below base w wr)) (fun j _=>(intOf j).toNat)
   case atStart=>exact⟨rfl,hd,hB⟩
   case round=>
    clear hd hB
    obtain⟨rfl,hd,hB⟩:=hrel
    go_upto_region 4 with fail
    refine wp_region_held_drew (S:=fun w9=>World.dcr w9 base (.slice (some ⟨g,0,none⟩) 2 cap) [(pm,pe),(qm,qe)]) (by kernel_rfl) hd (fun hHeld=> ?_)
    refine tk 0 ⟨some 18,_,_,_,_,_⟩ ?_ hHeld ?_ ?_
    rotate_left
    ·(intro w9 hSw;(try dsimp only at hSw);go_simp)
     all_goals with_reducible rfl
    try simp only[Act.put,List.setIfInBounds_toArray,List.set_cons_zero,List.set_cons_succ]
    refine tk 1 ⟨some 19,_,_,_,_,_⟩ ?_ hHeld ?_ ?_
    rotate_left
    ·(intro w9 hSw;(try dsimp only at hSw);go_simp)
     all_goals with_reducible rfl
    try simp only[Act.put,List.setIfInBounds_toArray,List.set_cons_zero,List.set_cons_succ]
    refine tk 2 ⟨some 20,_,_,_,_,_⟩ ?_ hHeld ?_ ?_
    rotate_left
    ·(intro w9 hSw;(try dsimp only at hSw);go_simp)
     all_goals with_reducible rfl
    try simp only[Act.put,List.setIfInBounds_toArray,List.set_cons_zero,List.set_cons_succ]
    refine tk 3 ⟨some 21,_,_,_,_,_⟩ ?_ hHeld ?_ ?_
    rotate_left
    ·(intro w9 hSw;(try dsimp only at hSw);go_simp)
     all_goals with_reducible rfl
    try simp only[Act.put,List.setIfInBounds_toArray,List.set_cons_zero,List.set_cons_succ]
    refine tk 4 ⟨some 22,_,_,_,_,_⟩ ?_ hHeld ?_ ?_
    rotate_left
    ·(intro w9 hSw;(try dsimp only at hSw);go_simp)
     all_goals with_reducible rfl
    try simp only[Act.put,List.setIfInBounds_toArray,List.set_cons_zero,List.set_cons_succ]
    refine tk 5 ⟨some 23,_,_,_,_,_⟩ ?_ hHeld ?_ ?_
    rotate_left
    ·(intro w9 hSw;(try dsimp only at hSw);go_simp)
     all_goals with_reducible rfl
    try simp only[Act.put,List.setIfInBounds_toArray,List.set_cons_zero,List.set_cons_succ]
    refine tk 6 ⟨some 24,_,_,_,_,_⟩ ?_ hHeld ?_ ?_
    rotate_left
    ·(intro w9 hSw;(try dsimp only at hSw);go_simp)
     all_goals with_reducible rfl
    try simp only[Act.put,List.setIfInBounds_toArray,List.set_cons_zero,List.set_cons_succ]
    refine tk 7 ⟨some 25,_,_,_,_,_⟩ ?_ hHeld ?_ ?_
    rotate_left
    ·(intro w9 hSw;(try dsimp only at hSw);go_simp)
     all_goals with_reducible rfl
    try simp only[Act.put,List.setIfInBounds_toArray,List.set_cons_zero,List.set_cons_succ]
    refine tk 8 ⟨some 26,_,_,_,_,_⟩ ?_ hHeld ?_ ?_
    rotate_left
    ·(intro w9 hSw;refine yields_dat (x:= .tmp 25) (g:=g) (off:=2) (cs:= #[.int .i64 qm,.int .i64 qe]) ?_ ?_ rfl (dcr_at1 hSw)<;>rfl)
    try simp only[Act.put,List.setIfInBounds_toArray,List.set_cons_zero,List.set_cons_succ]
    refine tk 9 ⟨some 27,_,_,_,_,_⟩ ?_ hHeld ?_ ?_
    rotate_left
    ·(intro w9 hSw;(try dsimp only at hSw);go_simp)
     all_goals with_reducible rfl
    try simp only[Act.put,List.setIfInBounds_toArray,List.set_cons_zero,List.set_cons_succ]
    refine tk 10 ⟨some 28,_,_,_,_,_⟩ ?_ hHeld ?_ ?_
    rotate_left
    ·(intro w9 hSw;(try dsimp only at hSw);go_simp)
     all_goals with_reducible rfl
    try simp only[Act.put,List.setIfInBounds_toArray,List.set_cons_zero,List.set_cons_succ]
    refine tk 11 ⟨some 29,_,_,_,_,_⟩ ?_ hHeld ?_ ?_
    rotate_left
    ·(intro w9 hSw;(try dsimp only at hSw);go_simp)
     all_goals with_reducible rfl
    try simp only[Act.put,List.setIfInBounds_toArray,List.set_cons_zero,List.set_cons_succ]
    refine tk 12 ⟨some 30,_,_,_,_,_⟩ ?_ hHeld ?_ ?_
    rotate_left
    ·(intro w9 hSw;(try dsimp only at hSw);go_simp)
     all_goals with_reducible rfl
    try simp only[Act.put,List.setIfInBounds_toArray,List.set_cons_zero,List.set_cons_succ]
    refine tk 13 ⟨some 31,_,_,_,_,_⟩ ?_ hHeld ?_ ?_
    rotate_left
    ·(intro w9 hSw;refine yields_dat (x:= .tmp 30) (g:=g) (off:=0) (cs:= #[.int .i64 pm,.int .i64 pe]) ?_ ?_ rfl (dcr_at0 hSw)<;>rfl)
    try simp only[Act.put,List.setIfInBounds_toArray,List.set_cons_zero,List.set_cons_succ]
    have hd:World.dcr wr.drew base (.slice (some ⟨g,0,none⟩) 2 cap) [(pm,pe),(qm,qe)]:=hd.below (Below.refl _ wr).drew
    have hB:=hB.drew
    refine wpAnyH_ready (rs:= [14]) (by kernel_rfl) (by simp) ?_
    refine(AllReadyH.cons (o:=⟨some 32,_,_,_,_,_⟩) rfl (fun KK hK=> ?_) AllReadyH.nil)
    ·(try rw[if_pos (by rfl)])
     go_simp
     refine(HC.out _).mono ?_
     rintro e x1 ⟨rfl,hb⟩
     have hd:=hd.below hb
     have hB:=hB.trans (hb.mono (Nat.le_trans hbz hB.size))
     clear hb
     refine hK.out _ _ hd ?_
     clear hK KK hHeld
     intro hHeld
     try simp only[Act.put,List.setIfInBounds_toArray,List.set_cons_zero,List.set_cons_succ,List.getElem_toArray,List.getElem_cons_zero,List.getElem_cons_succ]
     refine tk 15 ⟨some 33,_,_,_,_,_⟩ ?_ hHeld ?_ ?_
     rotate_left
     ·(intro w9 hSw;(try dsimp only at hSw);go_simp)
      all_goals with_reducible rfl
     try simp only[Act.put,List.setIfInBounds_toArray,List.set_cons_zero,List.set_cons_succ]
     refine tk 16 ⟨some 34,_,_,_,_,_⟩ ?_ hHeld ?_ ?_
     rotate_left
     ·(intro w9 hSw;(try dsimp only at hSw);go_simp)
      all_goals with_reducible rfl
     try simp only[Act.put,List.setIfInBounds_toArray,List.set_cons_zero,List.set_cons_succ]
     refine wpAnyH_done (by kernel_rfl) ?_ _
     try simp only[Act.put,List.setIfInBounds_toArray,List.set_cons_zero,List.set_cons_succ,List.getElem_toArray,List.getElem_cons_zero,List.getElem_cons_succ]
     go_wp2_with fail
     go_roundw
     case rel=>exact .inr ⟨by go_num,hd,hB⟩
     case measure=>simp[intOf]
  ·go_wp2_with fail
   go_end0
   exact⟨rfl,hB,hd⟩
end Go.Proofs.YtmhfioimgllgeaaGreatDoor
namespace Go.Proofs.YtmhfioimgllgeaaGreatDoor
open Go Go.RowKit Go.Shelf
attribute [local go_sem] Oper.semAt_some
abbrev encD (x:Int×Int):Array Value:= #[.agg #[.int .i64 x.1,.int .i64 x.2]]
set_option maxRecDepth 100000 in
set_option maxHeartbeats 4000000 in
theorem vals303 (l Bs n₀ b cap:Nat) (pt:Option Addr) (ds:List (Int×Int)) (hpt:ds≠ []→pt=some ⟨b,0,none⟩) (hb:b<n₀) (hlen:ds.length≤20000) (J Jx:List (Int×Int)→World→Prop)
 (W:World) (hJ:AbidesFrom W.heap.size J)
 (hY:∀pre x W1,J pre W1→pre.length<ds.length→YieldAt Fence.wide (3-1) Tryz.prog l (encD x) W1 fun e W'=>
  (e= .returned (.bool true)∧J (pre++ [x]) W'∧Below n₀ W1 W')∨(e= .returned (.bool false)∧Jx (pre++ [x]) W'))
 (hBs:W.cell? ⟨Bs,0,none⟩=some (.slice pt ds.length cap)) (hn₀:n₀≤W.heap.size)
 (hc:∀(j:Nat) (x:Int×Int),ds[j]? =some x→W.cell? ⟨b,j*2,none⟩=some (.int .i64 x.1)∧W.cell? ⟨b,j*2+1,none⟩=some (.int .i64 x.2)) (h0:J [] W):
 CallsIn Fence.wide 3 Tryz.prog 303 #[.func (.yield l) #[] #[],.pointer (some ⟨Bs,0,none⟩)] W fun e W'=>(∃v,e= .returned v)∧
  ((∃ys,ys=ds∧J ys W')∨(∃pre,pre <+: ds∧Jx pre W')):=by
 refine callsIn_of_wp Tryz.func303 rfl trivial ?_ rfl
 simp only[Tryz.ntmps303,List.size_toArray,List.length_cons,List.length_nil,Nat.reduceAdd,Nat.reduceSub,Array.replicate_succ,Array.replicate_zero,List.push_toArray,List.append_toArray,List.nil_append,List.cons_append]
 gi_wp2
 gi_loopw [7] (fun i wr=>∃k:Nat,k≤ds.length∧i= .int .i64 (k:Int)∧J (ds.take k) wr∧Below n₀ W wr)
  (fun i _=>ds.length-(intOf i).toNat)
 case atStart=>exact⟨0,Nat.zero_le _,rfl,h0,Below.refl _ _⟩
 case round=>
  obtain⟨k,hk,rfl,hJs,hnx⟩:=hrel
  by_cases hlt:k<ds.length
  ·obtain⟨x,hx⟩:∃x,ds[k]? =some x:=⟨_,List.getElem?_eq_getElem hlt⟩
   have e1:=(hnx.cell (p:=⟨b,k*2,none⟩) hb).trans (hc k x hx).1
   have e2:=(hnx.cell (p:=⟨b,k*2+1,none⟩) hb).trans (hc k x hx).2
   have hkI:(k:Int)<(ds.length:Int):=by omega
   obtain rfl:=hpt (by intro e;rw[e]at hlt;simp at hlt)
   obtain⟨M,E⟩:=x
   simp only at e1 e2
   gi_wp2
   obtain⟨W4,hW4⟩:∃W4,W4=wr.alloc (.cells #[.int .i64 M,.int .i64 E] 34):=⟨_,rfl⟩
   rw[←hW4]
   have hB4:Below wr.heap.size wr W4:=by rw[hW4];exact(Below.refl _ _).alloc (Nat.le_refl _) _
   have d0:World.dec W4 wr.heap.size M E:=by rw[hW4];exact World.dec_new _ _ _ _ rfl
   have a0:=d0.c0
   have a1:=d0.c1
   have hJ4:J (ds.take k) W4:=hJ _ _ _ none hJs ⟨hB4.os,hB4.tape,hB4.output,hB4.size,fun k hk _=>hB4.block k hk⟩ (fun r e=>by cases e)
   obtain⟨fn,tmps,assign,body,hy,hR⟩:=hY _ (M,E) W4 hJ4 (by rw[List.length_take];omega)
   have hnx4:Below n₀ W W4:=hnx.trans (hB4.mono (Nat.le_trans hn₀ hnx.size))
   have hTK:ds.take (k+1)=ds.take k++ [(M,E)]:=by rw[List.take_add_one,hx];rfl
   simp only[encD]at hy
   clear hW4 e1 e2
   rw[hy]
   gi_wp2
   refine hR.mono ?_
   rintro e W5 (⟨rfl,hJ5,hk5⟩|⟨rfl,hJx5⟩)
   ·gi_wp2
    go_roundw
    case rel=>exact⟨k+1,by omega,by simp,by rw[hTK];exact hJ5,hnx4.trans hk5⟩
    case measure=>simp[intOf];omega
   ·gi_wp2
    refine bodyPost_ret (results_none rfl _ _ _) rfl ?_
    exact⟨⟨_,rfl⟩,.inr ⟨_,by rw[←hTK];exact List.take_prefix _ _,hJx5⟩⟩
  ·obtain rfl:k=ds.length:=by omega
   gi_wp2
   go_end0
   exact⟨⟨_,rfl⟩,.inl ⟨_,List.take_length,hJs⟩⟩
theorem vals_stops (Bs n₀:Nat) (sv:Value) (ds:List (Int×Int)) (base:Nat) (w:World) (hBs:Bs<w.heap.size) (hn₀:n₀≤w.heap.size) (hn1:0<n₀) (hlen:ds.length≤20000) (hc:w.cell? ⟨Bs,0,none⟩=some sv) (hD:World.dcr w base sv ds) (hown:∀k,sv.ownBlock=some k→k<n₀):
 SeqStopsK Fence.wide (4-1) Tryz.prog 303 #[.pointer (some ⟨Bs,0,none⟩)] encD (Below n₀) (fun ys=>ys=ds) (fun pre=>pre <+: ds) ds.length w:=fun l J Jx W hW hJ _ hY h0=>by
 have hc':=(hW.cell (p:=⟨Bs,0,none⟩) hBs).trans hc
 obtain⟨pt,cap,rfl,hp⟩:=dcr_slice hD
 by_cases hne:ds= []
 ·exact vals303 l Bs n₀ 0 cap pt ds (fun h=>absurd hne h) hn1 hlen J Jx W hJ hY hc' (Nat.le_trans hn₀ hW.size) (fun j x hx=>by rw[hne]at hx;simp at hx) h0
 ·obtain⟨b,rfl⟩:=hp hne
  have hbn:=hown b rfl
  have hDW:=hD.below hW
  refine vals303 l Bs n₀ b cap _ ds (fun _=>rfl) hbn hlen J Jx W hJ hY hc' (Nat.le_trans hn₀ hW.size) (fun j x hx=>⟨?_,?_⟩) h0
  ·have:=dcr_cells hDW hx 0 (.int .i64 x.1) rfl
   rwa [Nat.add_zero]at this
  ·exact dcr_cells hDW hx 1 (.int .i64 x.2) rfl
end Go.Proofs.YtmhfioimgllgeaaGreatDoor
namespace Go.Proofs.YtmhfioimgllgeaaGreatDoor
open Go Go.RowKit Go.Maps Go.Shelf
attribute [local go_sem] Oper.semAt_some
theorem dec_new_cells (w:World) (M E:Int):∀j u,([.int .i64 M,.int .i64 E]:List Value)[j]? =some u→(w.alloc (.cells #[.int .i64 M,.int .i64 E] 34)).cell? ((⟨w.heap.size,0,none⟩:Addr).add j)=some u:=by
 intro j u hj
 have h:=World.dec_new w M E _ rfl
 have:=dec_cells h j u (by simpa using hj)
 rw[add_at]
 exact this
theorem dec_kept {X Y:World} {B:Nat} {M E:Int} {row:Option Nat} (h:World.dec X B M E) (hg:X.grownBy Y row) (hr:∀r,row=some r→∃o:Obj,X.heap[r]? =some o∧o.isCells=false):World.dec Y B M E:=by
 have h0:X.heap[B]? =some (.cells #[.int .i64 M,.int .i64 E] 34 (0,0)):=h
 show Y.heap[B]? =_
 rw[hg.block B (Array.getElem?_eq_some_iff.1 h0).1 (fun e=> ?_)]
 ·exact h0
 ·obtain⟨o,ho,hc⟩:=hr B e.symm
  rw[h0]at ho
  cases ho
  cases hc
set_option maxRecDepth 100000 in
set_option maxHeartbeats 4000000 in
theorem append325 (Bs:Nat) (sv:Value) (ds:List (Int×Int)) (base:Nat) (w:World) (hBs:Bs<w.heap.size) (hlen:ds.length≤20000) (hc:w.cell? ⟨Bs,0,none⟩=some sv) (hD:World.dcr w base sv ds):
 Calls Tryz.prog 325 #[.slice none 0 0,.func (.func 303) #[] #[.pointer (some ⟨Bs,0,none⟩)]] w fun e w'=>∃v,e= .returned v∧World.dcr w' w.heap.size v ds∧Below w.heap.size w w':=by
 obtain⟨i0,hi,hz0,hz1,hz2⟩:=info_parts info34f
 refine(callsIn_wide (n:=4)).1 ?_
 refine callsIn_of_wp_marks Tryz.func325 rfl trivial ?_ rfl
 simp only[Tryz.ntmps325,List.size_toArray,List.length_cons,List.length_nil,Nat.reduceAdd,Nat.reduceSub,Array.replicate_succ,Array.replicate_zero,List.push_toArray,List.append_toArray,List.nil_append,List.cons_append]
 gi_wp2
 obtain⟨W0,hW0⟩:∃W0,W0=w.alloc (.cells #[.slice none 0 0] 156):=⟨_,rfl⟩
 rw[←hW0]
 have hsz0:W0.heap.size=w.heap.size+1:=by rw[hW0];simp
 have hB0:Below w.heap.size w W0:=by rw[hW0];exact(Below.refl _ w).alloc (Nat.le_refl _) _
 have bO:Boxed W0 w.heap.size 156 nilS:=by rw[hW0];exact Boxed.new w 156 nilS
 clear hW0
 have hown:∀k,sv.ownBlock=some k→k<w.heap.size:=fun k hk=>(World.ownsRow.lt hD k hk).2
 have hc0:=(hB0.cell (p:=⟨Bs,0,none⟩) hBs).trans hc
 refine wpIn_rangeFunc_ownH (n:=4) rfl (by omega) (gf:=303) (lb:= #[.pointer (some ⟨Bs,0,none⟩)]) rfl trivial (enters_of Tryz.func303 (by kernel_rfl) rfl)
  (vals_stops Bs w.heap.size sv ds base W0 (by omega) (by omega) (by omega) hlen hc0 (hD.below hB0) hown) belowK_t (belowK_b (by omega)) (Below.refl _ _) (fun _=>rfl)
  (fun pre W=>(∃v,Boxed W w.heap.size 156 v∧W.ownsRow w.heap.size 34 2 v pre.length (dsC pre)∧True)∧Below w.heap.size w W)
  (fun _ _ _=>False)
  (OwnFrom.and (Own.from (holdsRow_own w.heap.size w.heap.size 156 34 2 (fun pre=>pre.length) (fun pre=>dsC pre) (fun _ _=>True)) _) (ownFrom_below (Nat.le_refl _) (by omega)))
  (fun _ _ _ _ _ hs _ _=>hs)
  ⟨⟨_,bO,World.ownsRow_nil _ _ _ _,trivial⟩,hB0⟩
  (fun x a' W=>∃Bx,w.heap.size<Bx∧World.dec W Bx x.1 x.2∧a'= {tmps:= #[.slice none 0 0,.func (.func 303) #[] #[.pointer (some ⟨Bs,0,none⟩)],.pointer (some ⟨w.heap.size,0,none⟩),undef,.slice none 0 0,.pointer (some ⟨Bx,0,none⟩),.func (.func 303) #[] #[.pointer (some ⟨Bs,0,none⟩)],.agg #[.int .i64 x.1,.int .i64 x.2],undef,undef,undef,undef,undef],defers:= []})
  (fun x a' _ X Y row hs hg hr=>by
   obtain⟨Bx,h1,h2,h3⟩:=hs
   exact⟨Bx,h1,dec_kept h2 hg (fun r e=>(hr r e).2),h3⟩)
  ?assign ?body ?done ?stop
 case assign=>
  rintro l pre x W K ⟨⟨v,hv,hrow,_⟩,hB1⟩ hK
  obtain⟨M,E⟩:=x
  gi_wp2
  have hvl:=hv.lt
  have hsW:=hB1.size
  exact hK _ _ ((KeepsOthers.alloc _ _).from _) ((Below.refl _ W).alloc hsW _) ⟨⟨v,hv.alloc _,hrow.alloc _,trivial⟩,hB1.alloc hB1.size _⟩ ⟨W.heap.size,hvl,World.dec_new W M E _ rfl,rfl⟩
 case body=>
  rintro l pre x a' W hl0 ⟨_,hr'⟩ ⟨⟨v,hv,hrow,_⟩,hB1⟩ ⟨Bx,hBx,bX,rfl⟩ hlt
  obtain⟨M,E⟩:=x
  simp only at bX
  have hvl:=hv.lt
  have hsW:=hB1.size
  have a0:=bX.c0
  have a1:=bX.c1
  have cO:=hv.cell
  have hbsl:=bslice_dec M E
  gi_wp2_with (first
   |(gi_at_builtin;refine wpListIn_append_own_at _ rfl _ _ 156 rfl w.heap.size 34 i0 (.agg #[.int .i64 0,.int .i64 0]) 2 16 Tryz.underlying156 hi hz0 hz1 hz2 rfl (by decide) _ _ _ rfl (hrow.alloc _) ⟨W.heap.size,0,none⟩ 1 1 [.int .i64 M,.int .i64 E] rfl rfl (dec_new_cells _ _ _) (by simp[Value.oneCell']) (by unfold maxLen;omega) (by omega) (by simp;omega) ?_;intro v' w3 hown' hgrow _ hat;obtain⟨g',cap',rfl⟩:=ownsRow_succ hown';obtain⟨hv3,hv4,hr4,hk4,hb4⟩:=hv.appended (by decide) hrow (by omega) (by omega) hown' hgrow;have hc3:=hv3.cell;have hf3:=hv3.frozen)
   |fail)
  have e1:dsC (pre++ [(M,E)])=dsC pre++ [.int .i64 M,.int .i64 E]:=by simp[dsC]
  have e2:(pre++ [(M,E)]).length=pre.length+1:=by simp
  refine⟨hk4.from _,hb4,⟨_,hv4,?_⟩,hB1.trans hb4⟩
  rw[e1,e2]
  exact hr4
 case done=>
  rintro D ys W hD' rfl ⟨⟨v,hv,hrow,_⟩,hB1⟩ hK
  have cO:=hv.cell
  gi_wp2
  have hsW:=hB1.size
  refine⟨by simp,.inl ⟨_,_,rfl,run_takeDeferred hK,?_⟩⟩
  refine⟨_,results_tmp rfl _ _ _,v,rfl,ownsRow_putObj hrow _ hK rfl,hB1.trans (belowK_b (w:=w) (Nat.le_refl _) W D _ _ (by omega) hK rfl rfl)⟩
 case stop=>
  rintro D c pre W _ _ h
  exact h.elim
end Go.Proofs.YtmhfioimgllgeaaGreatDoor
namespace Go.Proofs.YtmhfioimgllgeaaGreatDoor
open Go Go.RowKit Go.Shelf
def sort2 (p q:Int×Int):List (Int×Int):=if cmpD q.1 q.2 p.1 p.2<0 then [q,p]else [p,q]
theorem ins2 (p q:Int×Int) (hp:RightP p) (hq:RightP q) (base g cap:Nat) (w:World) (hbz:base≤w.heap.size) (hd:World.dcr w base (.slice (some ⟨g,0,none⟩) 2 cap) [p,q]):
 Calls Tryz.prog 339 #[.slice (some ⟨g,0,none⟩) 2 cap,.int .i64 0,.int .i64 2,.func (.func 37) #[] #[]] w fun e w'=>e= .returned (.tuple #[])∧Below base w w'∧World.dcr w' base (.slice (some ⟨g,0,none⟩) 2 cap) (sort2 p q):=by
 obtain⟨pm,pe⟩:=p
 obtain⟨qm,qe⟩:=q
 unfold sort2
 by_cases h:cmpD qm qe pm pe<0
 ·rw[if_pos h];exact ins2_t pm pe qm qe hp hq h base g cap w hbz hd
 ·rw[if_neg h];exact ins2_f pm pe qm qe hp hq h base g cap w hbz hd
set_option maxRecDepth 100000 in
set_option maxHeartbeats 4000000 in
theorem pdq2 (p q:Int×Int) (hp:RightP p) (hq:RightP q) (n:Int) (base g cap:Nat) (w:World) (hbz:base≤w.heap.size) (hd:World.dcr w base (.slice (some ⟨g,0,none⟩) 2 cap) [p,q]):
 Calls Tryz.prog 326 #[.slice (some ⟨g,0,none⟩) 2 cap,.int .i64 0,.int .i64 2,.int .i64 n,.func (.func 37) #[] #[]] w fun e w'=>e= .returned (.tuple #[])∧Below base w w'∧World.dcr w' base (.slice (some ⟨g,0,none⟩) 2 cap) (sort2 p q):=by
 have HI:=Lib.hid (ins2 p q hp hq base g cap w hbz hd)
 clear hd hp hq
 go_enter Tryz.func326,Tryz.ntmps326
 go_wp2_with fail
 go_loopw [1,2] (fun a b wr=>a= .int .i64 0∧b= .int .i64 2∧wr=w) (fun _ _ _=>0)
 case atStart=>exact⟨rfl,rfl,rfl⟩
 case round=>
  obtain⟨rfl,rfl,rfl⟩:=hrel
  go_wp2_with fail
  refine HI.out.mono ?_
  rintro e w1 ⟨rfl,hB,hd⟩
  go_wp2_with fail
  refine bodyPost_ret (results_none rfl _ _ _) rfl ?_
  exact⟨rfl,hB,hd⟩
set_option maxRecDepth 100000 in
set_option maxHeartbeats 4000000 in
theorem len90 (w:World):Calls Tryz.prog 90 #[.int .u64 2] w fun e w'=>(∃n,e= .returned (.int .i64 n))∧w'=w:=by
 go_enter Tryz.func90,Tryz.ntmps90
 go_wp2
 go_ret
 exact⟨⟨_,rfl⟩,rfl⟩
set_option maxRecDepth 100000 in
set_option maxHeartbeats 4000000 in
theorem sort302 (p q:Int×Int) (hp:RightP p) (hq:RightP q) (base g cap:Nat) (w:World) (hbz:base≤w.heap.size) (hd:World.dcr w base (.slice (some ⟨g,0,none⟩) 2 cap) [p,q]):
 Calls Tryz.prog 302 #[.slice (some ⟨g,0,none⟩) 2 cap,.func (.func 37) #[] #[]] w fun e w'=>e= .returned (.tuple #[])∧Below base w w'∧World.dcr w' base (.slice (some ⟨g,0,none⟩) 2 cap) (sort2 p q):=by
 have HI:=Lib.hid (fun n=>pdq2 p q hp hq n base g cap w hbz hd)
 clear hd hp hq
 go_enter Tryz.func302,Tryz.ntmps302
 go_wp2_with fail
 refine(len90 _).mono ?_
 rintro e w1 ⟨⟨n,rfl⟩,rfl⟩
 go_wp2_with fail
 refine(HI.out _).mono ?_
 rintro e w2 ⟨rfl,hB,hd⟩
 go_wp2_with fail
 go_end0
 exact⟨rfl,hB,hd⟩
end Go.Proofs.YtmhfioimgllgeaaGreatDoor
