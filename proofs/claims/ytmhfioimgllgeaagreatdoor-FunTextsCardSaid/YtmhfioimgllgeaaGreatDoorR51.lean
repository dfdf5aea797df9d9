/- Slices of values that a law makes: plain ones and an array. (By genexb.py.) -/
import Derived.Test.YtmhfioimgllgeaaGreatDoorR49
namespace Go.Proofs.YtmhfioimgllgeaaGreatDoor
open Go Go.RowKit Go.Shelf
theorem cat_at (Cs:List (Array Value)) (h12:∀C∈Cs,C.size=12) (i j:Nat) {C:Array Value} {u:Value} (hC:Cs[i]? =some C) (hj:C[j]? =some u):(Cs.flatMap (·.toList))[i*12+j]? =some u:=by
 have hj12:j<12:=by rw[←h12 C (List.mem_of_getElem? hC)];exact(Array.getElem?_eq_some_iff.1 hj).1
 induction Cs generalizing i with
 |nil=>simp at hC
 |cons D l ih=>
  have e:(D :: l).flatMap (·.toList)=D.toList++l.flatMap (·.toList):=rfl
  have hD:D.toList.length=12:=by rw[Array.length_toList];exact h12 D (List.mem_cons_self ..)
  rw[e]
  cases i with
  |zero=>
   injection hC with hC
   subst hC
   rw[Nat.zero_mul,Nat.zero_add,List.getElem?_append_left (by rw[hD];exact hj12)]
   simpa using hj
  |succ i=>
   rw[List.getElem?_append_right (by rw[hD];omega),hD,show(i+1)*12+j-12=i*12+j by omega]
   exact ih (fun C h=>h12 C (List.mem_cons_of_mem _ h)) i (by simpa using hC)
/-- Values in a block, one behind the other. -/
theorem args_blk {w:World} {g:Nat} (Cs:List (Array Value)) (xs:List Vl) (hl:Cs.length=xs.length) (hn:xs.length≤1000) (hne:xs≠ []) (h:∀(i:Nat) (x:Vl) (C:Array Value),xs[i]? =some x→Cs[i]? =some C→At x C w) (hb:World.vb w g (Cs.flatMap (·.toList)).toArray):ArgsAt w (.slice (some ⟨g,0,none⟩) xs.length xs.length) xs:=by
 have hC:∀(i:Nat) (x:Vl),xs[i]? =some x→∃C,Cs[i]? =some C:=fun i x hx=>⟨_,List.getElem?_eq_getElem (by rw[hl];exact(List.getElem?_eq_some_iff.1 hx).1)⟩
 have h12:∀C∈Cs,C.size=12:=fun C hc=>by
  obtain⟨i,hi,e⟩:=List.mem_iff_getElem.1 hc
  exact(h i _ C (List.getElem?_eq_getElem (by omega)) (by rw[←e];exact List.getElem?_eq_getElem hi)).2.1.1
 refine⟨⟨some ⟨g,0,none⟩,xs.length,rfl,Nat.le_refl _,(by unfold maxLen;omega),hn,fun e=>absurd e hne,fun i y hi=> ?_⟩,fun x hx=> ?_⟩
 ·obtain⟨C,hc⟩:=hC i y hi
  have hA:=h i y C hi hc
  refine⟨g,0,C,rfl,hb.lt,hA.2.1.1,hA.1,fun j u hj=> ?_⟩
  rw[Nat.zero_add]
  exact hb.cell (by rw[List.getElem?_toArray];exact cat_at Cs h12 i j hc hj)
 ·obtain⟨i,hi,e⟩:=List.mem_iff_getElem.1 hx
  have hi2:xs[i]? =some x:=by rw[←e];exact List.getElem?_eq_getElem hi
  obtain⟨C,hc⟩:=hC i x hi2
  exact(h i x C hi2 hc).2.2
theorem vr_blk {w:World} {g:Nat} {l:List Vl} (hb:World.vb w g (vsC l).toArray) (hn:l.length≤1000):World.vr w g (.slice (some ⟨g,0,none⟩) l.length l.length) l:=
 ⟨vsC_len l,.inr ⟨g,l.length,_,rfl,Nat.le_refl _,hb,Nat.le_refl _,by unfold maxLen;omega,by rw[List.size_toArray,vsC_len],by
  have:=vsC_len l
  rw[List.take_of_length_le (by rw[List.toList_toArray];omega)]⟩⟩
theorem at_vr {w:World} {D:Nat} {r c:Int} {l:List Vl} {L:Value} (h:World.vr w D L l) (hr:rightV 1 (arrV r c l)=true):At (arrV r c l) (vcs (arrV r c l) L nilS nilS) w:=
 ⟨rp_of_vr (n:=1) (m:=0) h hr (Nat.le_refl _),vr_one (r:=r) (c:=c) (l:=l) h,.inr ⟨rfl,hr⟩⟩
theorem bslice2 (x y:Vl) (w:World):(Instr.buildSlice 31 2 #[(0,.agg (pcs x)),(1,.agg (pcs y))]).run Tryz.prog w= .ok (.slice (some ⟨w.heap.size,0,none⟩) 2 2) (w.alloc (.cells (vsC [x,y]).toArray 39)):=by kernel_rfl
theorem bslice3 (x y z:Vl) (w:World):(Instr.buildSlice 31 3 #[(0,.agg (pcs x)),(1,.agg (pcs y)),(2,.agg (pcs z))]).run Tryz.prog w= .ok (.slice (some ⟨w.heap.size,0,none⟩) 3 3) (w.alloc (.cells (vsC [x,y,z]).toArray 39)):=by kernel_rfl
theorem bsliceA2 (x y:Vl) (L:Value) (w:World):(Instr.buildSlice 31 2 #[(0,.agg (vcs x L nilS nilS)),(1,.agg (pcs y))]).run Tryz.prog w= .ok (.slice (some ⟨w.heap.size,0,none⟩) 2 2) (w.alloc (.cells ([vcs x L nilS nilS,pcs y].flatMap (·.toList)).toArray 39)):=by kernel_rfl
theorem bsliceA5 (a x b c d:Vl) (L:Value) (w:World):(Instr.buildSlice 31 5 #[(0,.agg (pcs a)),(1,.agg (vcs x L nilS nilS)),(2,.agg (pcs b)),(3,.agg (pcs c)),(4,.agg (pcs d))]).run Tryz.prog w= .ok (.slice (some ⟨w.heap.size,0,none⟩) 5 5) (w.alloc (.cells ([pcs a,vcs x L nilS nilS,pcs b,pcs c,pcs d].flatMap (·.toList)).toArray 39)):=by kernel_rfl
theorem build_arrS (r c:Int) (l:List Vl) (p:Option Addr) (n k:Nat) (w:World):(Instr.build 39 #[(0,.int .i64 5),(5,.int .i64 r),(6,.int .i64 c),(7,.slice p n k)]).run Tryz.prog w= .ok (.agg (vcs (arrV r c l) (.slice p n k) nilS nilS)) w:=by kernel_rfl
section
variable {o : Oper} {a : Act} {w : World} {K : Act → World → Prop} {Q : Exit → Act → World → Prop}
theorem op_bsl2 {p q:Operand} {x y:Vl} (ho:o.op= .buildSlice 31 2 #[(0,p),(1,q)]) (hx:a.eval p= .agg (pcs x)) (hy:a.eval q= .agg (pcs y)) (h:K (a.put o.dst (.slice (some ⟨w.heap.size,0,none⟩) 2 2)) (w.alloc (.cells (vsC [x,y]).toArray 39))):o.wp Tryz.prog a w K Q:=by
 have hz:=bslice2 x y w
 unfold Oper.wp execOp
 simp[ho,hx,hy,hz]
 exact h
theorem op_bsl3 {p q r:Operand} {x y z:Vl} (ho:o.op= .buildSlice 31 3 #[(0,p),(1,q),(2,r)]) (hx:a.eval p= .agg (pcs x)) (hy:a.eval q= .agg (pcs y)) (hr:a.eval r= .agg (pcs z)) (h:K (a.put o.dst (.slice (some ⟨w.heap.size,0,none⟩) 3 3)) (w.alloc (.cells (vsC [x,y,z]).toArray 39))):o.wp Tryz.prog a w K Q:=by
 have hz:=bslice3 x y z w
 unfold Oper.wp execOp
 simp[ho,hx,hy,hr,hz]
 exact h
theorem op_bslA2 {p q:Operand} {x y:Vl} {L:Value} (ho:o.op= .buildSlice 31 2 #[(0,p),(1,q)]) (hx:a.eval p= .agg (vcs x L nilS nilS)) (hy:a.eval q= .agg (pcs y)) (h:K (a.put o.dst (.slice (some ⟨w.heap.size,0,none⟩) 2 2)) (w.alloc (.cells ([vcs x L nilS nilS,pcs y].flatMap (·.toList)).toArray 39))):o.wp Tryz.prog a w K Q:=by
 have hz:=bsliceA2 x y L w
 unfold Oper.wp execOp
 simp only[ho,List.map_toArray,List.map_cons,List.map_nil,hx,hy,hz,Sem.run_bind,Sem.run_pure,Result.andThen_ok]
 exact h
theorem op_bslA5 {p0 p1 p2 p3 p4:Operand} {u x b c d:Vl} {L:Value} (ho:o.op= .buildSlice 31 5 #[(0,p0),(1,p1),(2,p2),(3,p3),(4,p4)]) (h0:a.eval p0= .agg (pcs u)) (h1:a.eval p1= .agg (vcs x L nilS nilS)) (h2:a.eval p2= .agg (pcs b)) (h3:a.eval p3= .agg (pcs c)) (h4:a.eval p4= .agg (pcs d)) (h:K (a.put o.dst (.slice (some ⟨w.heap.size,0,none⟩) 5 5)) (w.alloc (.cells ([pcs u,vcs x L nilS nilS,pcs b,pcs c,pcs d].flatMap (·.toList)).toArray 39))):o.wp Tryz.prog a w K Q:=by
 have hz:=bsliceA5 u x b c d L w
 unfold Oper.wp execOp
 simp only[ho,List.map_toArray,List.map_cons,List.map_nil,h0,h1,h2,h3,h4,hz,Sem.run_bind,Sem.run_pure,Result.andThen_ok]
 exact h
theorem op_buildA {p q s:Operand} {r c:Int} (l:List Vl) {z:Option Addr} {n k:Nat} (ho:o.op= .build 39 #[(0,.const (.int .i64 5)),(5,p),(6,q),(7,s)]) (hx:a.eval p= .int .i64 r) (hy:a.eval q= .int .i64 c) (hs:a.eval s= .slice z n k) (h:K (a.put o.dst (.agg (vcs (arrV r c l) (.slice z n k) nilS nilS))) w):o.wp Tryz.prog a w K Q:=by
 have hz:=build_arrS r c l z n k w
 have he:a.eval (.const (.int .i64 5))= .int .i64 5:=rfl
 unfold Oper.wp execOp
 simp[ho,hx,hy,hs,he,hz]
 exact h
theorem op_alloc39v (ho:o.op= .alloc 39) (h:K (a.put o.dst (.pointer (some ⟨w.heap.size,0,none⟩))) (w.alloc (.cells vz 39))):o.wp Tryz.prog a w K Q:=by
 have hz:=zero34 w
 unfold Oper.wp execOp
 simp[ho,Instr.alloc,Sem.run_bind,hz,newVar,newRow,newObj,Value.cells]
 exact h
theorem op_store39v {x y:Operand} {g:Nat} {cs cs':Array Value} (ho:o.op= .store 39 x y) (hx:a.eval x= .pointer (some ⟨g,0,none⟩)) (hy:a.eval y= .agg cs') (hn:World.vb w g cs) (hs:cs.size=12) (h1:OneC cs')
 (h:∀w1,World.vb w1 g cs'→w.grownBy w1 (some g)→w1.heap.size=w.heap.size→K (a.put o.dst undef) w1):o.wp Tryz.prog a w K Q:=by
 exact wp_store_row 39 x y ho g _ hx hy 39 _ hn (by rw[h1.1];exact info34) (by rw[hs,h1.1]) h1.2 (h _ hn.setRow (setRow_grownBy _ _ _) (by simp))
end
section
variable {ops : Array Oper} {rest : List Oper} {o : Oper} {a : Act} {w : World} {Q : Exit → Act → World → Prop}
theorem wpList_bsl2 {p q:Operand} {x y:Vl} (hgd:o.guard=none) (ho:o.op= .buildSlice 31 2 #[(0,p),(1,q)]) (hx:a.eval p= .agg (pcs x)) (hy:a.eval q= .agg (pcs y)) (h:wpList Tryz.prog ops Q rest (a.put o.dst (.slice (some ⟨w.heap.size,0,none⟩) 2 2)) (w.alloc (.cells (vsC [x,y]).toArray 39))):wpList Tryz.prog ops Q (o :: rest) a w:=
 wpList_plain hgd fun _ hK=>op_bsl2 ho hx hy (hK _ _ h)
theorem wpList_bsl3 {p q r:Operand} {x y z:Vl} (hgd:o.guard=none) (ho:o.op= .buildSlice 31 3 #[(0,p),(1,q),(2,r)]) (hx:a.eval p= .agg (pcs x)) (hy:a.eval q= .agg (pcs y)) (hr:a.eval r= .agg (pcs z)) (h:wpList Tryz.prog ops Q rest (a.put o.dst (.slice (some ⟨w.heap.size,0,none⟩) 3 3)) (w.alloc (.cells (vsC [x,y,z]).toArray 39))):wpList Tryz.prog ops Q (o :: rest) a w:=
 wpList_plain hgd fun _ hK=>op_bsl3 ho hx hy hr (hK _ _ h)
theorem wpList_buildA {p q s:Operand} {r c:Int} (l:List Vl) {z:Option Addr} {n k:Nat} (hgd:o.guard=none) (ho:o.op= .build 39 #[(0,.const (.int .i64 5)),(5,p),(6,q),(7,s)]) (hx:a.eval p= .int .i64 r) (hy:a.eval q= .int .i64 c) (hs:a.eval s= .slice z n k) (h:wpList Tryz.prog ops Q rest (a.put o.dst (.agg (vcs (arrV r c l) (.slice z n k) nilS nilS))) w):wpList Tryz.prog ops Q (o :: rest) a w:=
 wpList_plain hgd fun _ hK=>op_buildA l ho hx hy hs (hK _ _ h)
end
end Go.Proofs.YtmhfioimgllgeaaGreatDoor
