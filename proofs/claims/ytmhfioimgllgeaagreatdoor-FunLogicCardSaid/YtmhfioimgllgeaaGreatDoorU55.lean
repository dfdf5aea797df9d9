/- Merged: Exb, Lib5, Nam, Nml. -/
import Derived.Test.YtmhfioimgllgeaaGreatDoorU48
import Derived.Test.YtmhfioimgllgeaaGreatDoorU40
import Derived.Shelf.Sort.Plain
import Derived.Shelf.Slices.In.SortNone
import Derived.Test.YtmhfioimgllgeaaGreatDoorU47
import Derived.Sort.OwnSorted
namespace Go.Proofs.YtmhfioimgllgeaaGreatDoor
open Go Go.RowKit Go.Shelf
theorem cat_at (Cs:List (Array Value)) (h12:∀C∈Cs,C.size=12) (i j:Nat) {C:Array Value} {u:Value} (hC:Cs[i]? =some C) (hj:C[j]? =some u):(Cs.flatMap (·.toList))[i*12+j]? =some u:=by
 have hj12:j<12:=by rw[←h12 C (List.mem_of_getElem? hC)];exact(Array.getElem?_eq_some_iff.1 hj).1
 induction Cs generalizing i with
 |nil=>simp at hC
 |cons D l ih=>
  have e:(D :: l).flatMap (·.toList)=D.toList++l.flatMap (·.toList):=rfl
  have hD:D.toList.length=12:=by rw[Array.length_toList];exact h12 D (List.mem_cons_self ..)
  rw[e]
  cases i with
  |zero=>
   injection hC with hC
   subst hC
   rw[Nat.zero_mul,Nat.zero_add,List.getElem?_append_left (by rw[hD];exact hj12)]
   simpa using hj
  |succ i=>
   rw[List.getElem?_append_right (by rw[hD];omega),hD,show(i+1)*12+j-12=i*12+j by omega]
   exact ih (fun C h=>h12 C (List.mem_cons_of_mem _ h)) i (by simpa using hC)
/-- Values in a block, one behind the other. -/
theorem args_blk {w:World} {g:Nat} (Cs:List (Array Value)) (xs:List Vl) (hl:Cs.length=xs.length) (hn:xs.length≤1000) (hne:xs≠ []) (h:∀(i:Nat) (x:Vl) (C:Array Value),xs[i]? =some x→Cs[i]? =some C→At x C w) (hb:World.vb w g (Cs.flatMap (·.toList)).toArray):ArgsAt w (.slice (some ⟨g,0,none⟩) xs.length xs.length) xs:=by
 have hC:∀(i:Nat) (x:Vl),xs[i]? =some x→∃C,Cs[i]? =some C:=fun i x hx=>⟨_,List.getElem?_eq_getElem (by rw[hl];exact(List.getElem?_eq_some_iff.1 hx).1)⟩
 have h12:∀C∈Cs,C.size=12:=fun C hc=>by
  obtain⟨i,hi,e⟩:=List.mem_iff_getElem.1 hc
  exact(h i _ C (List.getElem?_eq_getElem (by omega)) (by rw[←e];exact List.getElem?_eq_getElem hi)).2.1.1
 refine⟨⟨some ⟨g,0,none⟩,xs.length,rfl,Nat.le_refl _,(by unfold maxLen;omega),hn,fun e=>absurd e hne,fun i y hi=> ?_⟩,fun x hx=> ?_⟩
 ·obtain⟨C,hc⟩:=hC i y hi
  have hA:=h i y C hi hc
  refine⟨g,0,C,rfl,hb.lt,hA.2.1.1,hA.1,fun j u hj=> ?_⟩
  rw[Nat.zero_add]
  exact hb.cell (by rw[List.getElem?_toArray];exact cat_at Cs h12 i j hc hj)
 ·obtain⟨i,hi,e⟩:=List.mem_iff_getElem.1 hx
  have hi2:xs[i]? =some x:=by rw[←e];exact List.getElem?_eq_getElem hi
  obtain⟨C,hc⟩:=hC i x hi2
  exact(h i x C hi2 hc).2.2
theorem vr_blk {w:World} {g:Nat} {l:List Vl} (hb:World.vb w g (vsC l).toArray) (hn:l.length≤1000):World.vr w g (.slice (some ⟨g,0,none⟩) l.length l.length) l:=
 ⟨vsC_len l,.inr ⟨g,l.length,_,rfl,Nat.le_refl _,hb,Nat.le_refl _,by unfold maxLen;omega,by rw[List.size_toArray,vsC_len],by
  have:=vsC_len l
  rw[List.take_of_length_le (by rw[List.toList_toArray];omega)]⟩⟩
theorem at_vr {w:World} {D:Nat} {r c:Int} {l:List Vl} {L:Value} (h:World.vr w D L l) (hr:rightV 1 (arrV r c l)=true):At (arrV r c l) (vcs (arrV r c l) L nilS nilS) w:=
 ⟨rp_of_vr (n:=1) (m:=0) h hr (Nat.le_refl _),vr_one (r:=r) (c:=c) (l:=l) h,.inr ⟨rfl,hr⟩⟩
theorem bslice2 (x y:Vl) (w:World):(Instr.buildSlice 31 2 #[(0,.agg (pcs x)),(1,.agg (pcs y))]).run Tryz.prog w= .ok (.slice (some ⟨w.heap.size,0,none⟩) 2 2) (w.alloc (.cells (vsC [x,y]).toArray 39)):=by kernel_rfl
theorem bslice3 (x y z:Vl) (w:World):(Instr.buildSlice 31 3 #[(0,.agg (pcs x)),(1,.agg (pcs y)),(2,.agg (pcs z))]).run Tryz.prog w= .ok (.slice (some ⟨w.heap.size,0,none⟩) 3 3) (w.alloc (.cells (vsC [x,y,z]).toArray 39)):=by kernel_rfl
theorem bsliceA2 (x y:Vl) (L:Value) (w:World):(Instr.buildSlice 31 2 #[(0,.agg (vcs x L nilS nilS)),(1,.agg (pcs y))]).run Tryz.prog w= .ok (.slice (some ⟨w.heap.size,0,none⟩) 2 2) (w.alloc (.cells ([vcs x L nilS nilS,pcs y].flatMap (·.toList)).toArray 39)):=by kernel_rfl
theorem bsliceA5 (a x b c d:Vl) (L:Value) (w:World):(Instr.buildSlice 31 5 #[(0,.agg (pcs a)),(1,.agg (vcs x L nilS nilS)),(2,.agg (pcs b)),(3,.agg (pcs c)),(4,.agg (pcs d))]).run Tryz.prog w= .ok (.slice (some ⟨w.heap.size,0,none⟩) 5 5) (w.alloc (.cells ([pcs a,vcs x L nilS nilS,pcs b,pcs c,pcs d].flatMap (·.toList)).toArray 39)):=by kernel_rfl
theorem build_arrS (r c:Int) (l:List Vl) (p:Option Addr) (n k:Nat) (w:World):(Instr.build 39 #[(0,.int .i64 5),(5,.int .i64 r),(6,.int .i64 c),(7,.slice p n k)]).run Tryz.prog w= .ok (.agg (vcs (arrV r c l) (.slice p n k) nilS nilS)) w:=by kernel_rfl
section
variable {o : Oper} {a : Act} {w : World} {K : Act → World → Prop} {Q : Exit → Act → World → Prop}
theorem op_bsl2 {p q:Operand} {x y:Vl} (ho:o.op= .buildSlice 31 2 #[(0,p),(1,q)]) (hx:a.eval p= .agg (pcs x)) (hy:a.eval q= .agg (pcs y)) (h:K (a.put o.dst (.slice (some ⟨w.heap.size,0,none⟩) 2 2)) (w.alloc (.cells (vsC [x,y]).toArray 39))):o.wp Tryz.prog a w K Q:=by
 have hz:=bslice2 x y w
 unfold Oper.wp execOp
 simp[ho,hx,hy,hz]
 exact h
theorem op_bsl3 {p q r:Operand} {x y z:Vl} (ho:o.op= .buildSlice 31 3 #[(0,p),(1,q),(2,r)]) (hx:a.eval p= .agg (pcs x)) (hy:a.eval q= .agg (pcs y)) (hr:a.eval r= .agg (pcs z)) (h:K (a.put o.dst (.slice (some ⟨w.heap.size,0,none⟩) 3 3)) (w.alloc (.cells (vsC [x,y,z]).toArray 39))):o.wp Tryz.prog a w K Q:=by
 have hz:=bslice3 x y z w
 unfold Oper.wp execOp
 simp[ho,hx,hy,hr,hz]
 exact h
theorem op_bslA2 {p q:Operand} {x y:Vl} {L:Value} (ho:o.op= .buildSlice 31 2 #[(0,p),(1,q)]) (hx:a.eval p= .agg (vcs x L nilS nilS)) (hy:a.eval q= .agg (pcs y)) (h:K (a.put o.dst (.slice (some ⟨w.heap.size,0,none⟩) 2 2)) (w.alloc (.cells ([vcs x L nilS nilS,pcs y].flatMap (·.toList)).toArray 39))):o.wp Tryz.prog a w K Q:=by
 have hz:=bsliceA2 x y L w
 unfold Oper.wp execOp
 simp only[ho,List.map_toArray,List.map_cons,List.map_nil,hx,hy,hz,Sem.run_bind,Sem.run_pure,Result.andThen_ok]
 exact h
theorem op_bslA5 {p0 p1 p2 p3 p4:Operand} {u x b c d:Vl} {L:Value} (ho:o.op= .buildSlice 31 5 #[(0,p0),(1,p1),(2,p2),(3,p3),(4,p4)]) (h0:a.eval p0= .agg (pcs u)) (h1:a.eval p1= .agg (vcs x L nilS nilS)) (h2:a.eval p2= .agg (pcs b)) (h3:a.eval p3= .agg (pcs c)) (h4:a.eval p4= .agg (pcs d)) (h:K (a.put o.dst (.slice (some ⟨w.heap.size,0,none⟩) 5 5)) (w.alloc (.cells ([pcs u,vcs x L nilS nilS,pcs b,pcs c,pcs d].flatMap (·.toList)).toArray 39))):o.wp Tryz.prog a w K Q:=by
 have hz:=bsliceA5 u x b c d L w
 unfold Oper.wp execOp
 simp only[ho,List.map_toArray,List.map_cons,List.map_nil,h0,h1,h2,h3,h4,hz,Sem.run_bind,Sem.run_pure,Result.andThen_ok]
 exact h
theorem op_buildA {p q s:Operand} {r c:Int} (l:List Vl) {z:Option Addr} {n k:Nat} (ho:o.op= .build 39 #[(0,.const (.int .i64 5)),(5,p),(6,q),(7,s)]) (hx:a.eval p= .int .i64 r) (hy:a.eval q= .int .i64 c) (hs:a.eval s= .slice z n k) (h:K (a.put o.dst (.agg (vcs (arrV r c l) (.slice z n k) nilS nilS))) w):o.wp Tryz.prog a w K Q:=by
 have hz:=build_arrS r c l z n k w
 have he:a.eval (.const (.int .i64 5))= .int .i64 5:=rfl
 unfold Oper.wp execOp
 simp[ho,hx,hy,hs,he,hz]
 exact h
theorem op_alloc39v (ho:o.op= .alloc 39) (h:K (a.put o.dst (.pointer (some ⟨w.heap.size,0,none⟩))) (w.alloc (.cells vz 39))):o.wp Tryz.prog a w K Q:=by
 have hz:=zero34 w
 unfold Oper.wp execOp
 simp[ho,Instr.alloc,Sem.run_bind,hz,newVar,newRow,newObj,Value.cells]
 exact h
theorem op_store39v {x y:Operand} {g:Nat} {cs cs':Array Value} (ho:o.op= .store 39 x y) (hx:a.eval x= .pointer (some ⟨g,0,none⟩)) (hy:a.eval y= .agg cs') (hn:World.vb w g cs) (hs:cs.size=12) (h1:OneC cs')
 (h:∀w1,World.vb w1 g cs'→w.grownBy w1 (some g)→w1.heap.size=w.heap.size→K (a.put o.dst undef) w1):o.wp Tryz.prog a w K Q:=by
 exact wp_store_row 39 x y ho g _ hx hy 39 _ hn (by rw[h1.1];exact info34) (by rw[hs,h1.1]) h1.2 (h _ hn.setRow (setRow_grownBy _ _ _) (by simp))
end
section
variable {ops : Array Oper} {rest : List Oper} {o : Oper} {a : Act} {w : World} {Q : Exit → Act → World → Prop}
theorem wpList_bsl2 {p q:Operand} {x y:Vl} (hgd:o.guard=none) (ho:o.op= .buildSlice 31 2 #[(0,p),(1,q)]) (hx:a.eval p= .agg (pcs x)) (hy:a.eval q= .agg (pcs y)) (h:wpList Tryz.prog ops Q rest (a.put o.dst (.slice (some ⟨w.heap.size,0,none⟩) 2 2)) (w.alloc (.cells (vsC [x,y]).toArray 39))):wpList Tryz.prog ops Q (o :: rest) a w:=
 wpList_plain hgd fun _ hK=>op_bsl2 ho hx hy (hK _ _ h)
theorem wpList_bsl3 {p q r:Operand} {x y z:Vl} (hgd:o.guard=none) (ho:o.op= .buildSlice 31 3 #[(0,p),(1,q),(2,r)]) (hx:a.eval p= .agg (pcs x)) (hy:a.eval q= .agg (pcs y)) (hr:a.eval r= .agg (pcs z)) (h:wpList Tryz.prog ops Q rest (a.put o.dst (.slice (some ⟨w.heap.size,0,none⟩) 3 3)) (w.alloc (.cells (vsC [x,y,z]).toArray 39))):wpList Tryz.prog ops Q (o :: rest) a w:=
 wpList_plain hgd fun _ hK=>op_bsl3 ho hx hy hr (hK _ _ h)
theorem wpList_buildA {p q s:Operand} {r c:Int} (l:List Vl) {z:Option Addr} {n k:Nat} (hgd:o.guard=none) (ho:o.op= .build 39 #[(0,.const (.int .i64 5)),(5,p),(6,q),(7,s)]) (hx:a.eval p= .int .i64 r) (hy:a.eval q= .int .i64 c) (hs:a.eval s= .slice z n k) (h:wpList Tryz.prog ops Q rest (a.put o.dst (.agg (vcs (arrV r c l) (.slice z n k) nilS nilS))) w):wpList Tryz.prog ops Q (o :: rest) a w:=
 wpList_plain hgd fun _ hK=>op_buildA l ho hx hy hs (hK _ _ h)
end
end Go.Proofs.YtmhfioimgllgeaaGreatDoor
namespace Go.Proofs
open Go.Shelf
def Tryz.lays190_ren :Go.Shelf.Ren:=⟨fun|190=>40|125=>90|258=>89|128=>218|129=>219|302=>209|303=>210|304=>211|305=>212|306=>213|307=>214|308=>215|309=>216|310=>217|333=>274|329=>275|330=>276|334=>277|335=>278|336=>279|344=>309|n=>n,fun|31=>23|9=>9|3=>3|46=>135|0=>0|51=>190|53=>114|4=>4|183=>183|182=>182|131=>158|5=>5|218=>225|222=>229|228=>263|229=>264|n=>n,fun|n=>n⟩
theorem Tryz.lays190 :Go.Proofs.Lays.n190 Tryz.prog Tryz.lays190_ren:= {
 mixed:=by kernel_rfl
 f125:=Tryz.func90.trans (congrArg some (by kernel_rfl))
 f128:=Tryz.func218.trans (congrArg some (by kernel_rfl))
 f129:=Tryz.func219.trans (congrArg some (by kernel_rfl))
 f190:=Tryz.func40.trans (congrArg some (by kernel_rfl))
 f258:=Tryz.func89.trans (congrArg some (by kernel_rfl))
 f302:=Tryz.func209.trans (congrArg some (by kernel_rfl))
 f303:=Tryz.func210.trans (congrArg some (by kernel_rfl))
 f304:=Tryz.func211.trans (congrArg some (by kernel_rfl))
 f305:=Tryz.func212.trans (congrArg some (by kernel_rfl))
 f306:=Tryz.func213.trans (congrArg some (by kernel_rfl))
 f307:=Tryz.func214.trans (congrArg some (by kernel_rfl))
 f308:=Tryz.func215.trans (congrArg some (by kernel_rfl))
 f309:=Tryz.func216.trans (congrArg some (by kernel_rfl))
 f310:=Tryz.func217.trans (congrArg some (by kernel_rfl))
 f329:=Tryz.func275.trans (congrArg some (by kernel_rfl))
 f330:=Tryz.func276.trans (congrArg some (by kernel_rfl))
 f333:=Tryz.func274.trans (congrArg some (by kernel_rfl))
 f334:=Tryz.func277.trans (congrArg some (by kernel_rfl))
 f335:=Tryz.func278.trans (congrArg some (by kernel_rfl))
 f336:=Tryz.func279.trans (congrArg some (by kernel_rfl))
 f344:=Tryz.func309.trans (congrArg some (by kernel_rfl))
 t0:=Tryz.underlying0
 a0:=Tryz.isAgg0
 z0:=Tryz.sizeOf0
 v0:=Tryz.zeroValue0
 t3:=Tryz.underlying3
 a3:=Tryz.isAgg3
 z3:=Tryz.sizeOf3
 v3:=Tryz.zeroValue3
 t4:=Tryz.underlying4
 a4:=Tryz.isAgg4
 z4:=Tryz.sizeOf4
 v4:=Tryz.zeroValue4
 t5:=Tryz.underlying5
 a5:=Tryz.isAgg5
 z5:=Tryz.sizeOf5
 v5:=Tryz.zeroValue5
 t9:=Tryz.underlying9
 a9:=Tryz.isAgg9
 z9:=Tryz.sizeOf9
 v9:=Tryz.zeroValue9
 t31:=Tryz.underlying23
 a31:=Tryz.isAgg23
 z31:=Tryz.sizeOf23
 v31:=Tryz.zeroValue23
 t46:=Tryz.underlying135
 a46:=Tryz.isAgg135
 z46:=Tryz.sizeOf135
 v46:=Tryz.zeroValue135
 t51:=Tryz.underlying190
 a51:=Tryz.isAgg190
 z51:=Tryz.sizeOf190
 v51:=Tryz.zeroValue190
 t53:=Tryz.underlying114
 a53:=Tryz.isAgg114
 z53:=Tryz.sizeOf114
 v53:=Tryz.zeroValue114
 t131:=Tryz.underlying158
 a131:=Tryz.isAgg158
 z131:=Tryz.sizeOf158
 v131:=Tryz.zeroValue158
 t182:=Tryz.underlying182
 a182:=Tryz.isAgg182
 z182:=Tryz.sizeOf182
 v182:=Tryz.zeroValue182
 t183:=Tryz.underlying183
 a183:=Tryz.isAgg183
 z183:=Tryz.sizeOf183
 v183:=Tryz.zeroValue183
 t218:=Tryz.underlying225
 a218:=Tryz.isAgg225
 z218:=Tryz.sizeOf225
 v218:=Tryz.zeroValue225
 t222:=Tryz.underlying229
 a222:=Tryz.isAgg229
 z222:=Tryz.sizeOf229
 v222:=Tryz.zeroValue229
 t228:=Tryz.underlying263
 a228:=Tryz.isAgg263
 z228:=Tryz.sizeOf263
 v228:=Tryz.zeroValue263
 t229:=Tryz.underlying264
 a229:=Tryz.isAgg264
 z229:=Tryz.sizeOf264
 v229:=Tryz.zeroValue264}
open Go.Sort Go.RowKit in
theorem Tryz.slices_Sort_string (blk off cap:Nat) (ss:List (List UInt8)) (w:World) (hH:Holds encStr w blk off ss.toArray) (hblk:blk<w.heap.size) (hsz:ss.length<4611686018427387904):
 Calls Tryz.prog 40 #[.slice (some ⟨blk,off,none⟩) ss.length cap] w fun e w'=>
  e= .returned (.tuple #[])∧∃n os,w'=grow (putRow encStr (Sort.ahead w n) blk off (ss.mergeSort fun x y=>decide (x≤y)).toArray) os:=Any.slices_Sort_string Tryz.lays190 blk off cap ss w hH hblk hsz
theorem Tryz.slices_Sort_string_none (p:Option Addr) (cap:Nat) (w:World):
 Calls Tryz.prog 40 #[.slice p 0 cap] w fun e w'=>e= .returned (.tuple #[])∧w'=w:=Any.slices_Sort_string_none Tryz.lays190 p cap w
end Go.Proofs
namespace Go.Proofs.YtmhfioimgllgeaaGreatDoor
open Go Go.RowKit Go.Shelf Go.Maps Go.Sort
theorem sort_names (base:Nat) (v:Value) (ss:List (List UInt8)) (w:World) (hown:World.sr w base v (ss.map mk)) (hl:ss.length≤100000):
 Calls Tryz.prog 40 #[v] w fun e w'=>e= .returned (.tuple #[])∧World.sr w' base v ((ss.mergeSort fun x y=>decide (x≤y)).map mk)∧w.grownBy w' v.ownBlock:=by
 have hle:((ss.map mk).map Value.string)=ss.map encStr:=by rw[List.map_map];rfl
 unfold World.sr at hown
 rw[hle,List.length_map]at hown
 have fin:∀W,W.ownsRow base 9 1 v ss.length ((ss.mergeSort fun x y=>decide (x≤y)).map encStr)→World.sr W base v ((ss.mergeSort fun x y=>decide (x≤y)).map mk):=by
  intro W h
  unfold World.sr
  rw[List.map_map,List.length_map,List.length_mergeSort]
  exact h
 rcases hown.2 with ⟨rfl,h0⟩|⟨g,cap,cur,rfl,hbase,hb,h1,h2,h3,h4⟩
 ·have:ss= []:=List.eq_nil_of_length_eq_zero h0
  subst this
  exact(Tryz.slices_Sort_string_none none 0 w).mono fun e w' ⟨he,hw⟩=>⟨he,fin _ (by subst hw;simp only[List.mergeSort_nil];exact World.ownsRow_nil _ _ _ _),by subst hw;exact⟨rfl,rfl,rfl,Nat.le_refl _,fun _ _ _=>rfl⟩⟩
 ·have hg:g<w.heap.size:=(Array.getElem?_eq_some_iff.1 hb).1
  have hH:Holds encStr w g 0 ss.toArray:=holds_of_block hb (by simpa using h4)
  refine(Tryz.slices_Sort_string g 0 cap ss w hH hg (by omega)).mono ?_
  rintro e w' ⟨rfl,n,os,rfl⟩
  exact⟨rfl,fin _ (ownsRow_sorted (by simp) hbase hb h1 h2 h3),grownBy_sorted _⟩
def NamesPost (w:World) (e:Ending) (w':World):Prop:=∃(v:Value) (D:List (List UInt8)),e= .returned v∧World.sr w' w.heap.size v ((D.mergeSort fun x y=>decide (x≤y)).map mk)∧D.Nodup∧(∀x,x∈D↔(look (tabAll 0 0) x).isSome=true)∧Below w.heap.size w w'
set_option maxRecDepth 100000 in
set_option maxHeartbeats 4000000 in
theorem names_any (w:World):Calls Tryz.prog 12 #[] w (NamesPost w):=by
 go_enter Tryz.func12,Tryz.ntmps12
 go_wp2_with fail
 refine(funs_any 0 0 _).mono ?_
 rintro e1 w1 ⟨b,rfl,hT,hB1⟩
 have hbl:=hT.lt
 obtain⟨D0,hown,htl⟩:=hT
 have HS:=Lib.hid htl
 have hsz:=hown.size_le
 go_wp2_with (at_range;refine wpList_range_own _ rfl _ 74 rfl 9 83 keyed9 Tryz.underlying74 RV b 100 _ rfl hown ?_;intro w0 hrg0 hg0 hs0)
 go_frame
 have hB0:Below w.heap.size w w0:=hB1.grown hg0 hB1.size (fun k hk=>by cases hk)
 obtain⟨r,hr⟩:∃r,r=w1.heap.size:=⟨_,rfl⟩
 rw[←hr]at hrg0 hs0 hbl⊢
 have hrw:w.heap.size≤r:=by rw[hr];exact hB1.size
 clear hr hg0 hB1 hown
 go_loopw [1] (fun v wr=>∃(left:Lit→Bool) (cnt:Nat) (D:List (List UInt8)),wr.ranges Tryz.prog 9 RV b r 100 D0 left cnt∧D.length+cnt≤100∧Hid (World.sr wr (r+1) v (D.map mk))∧Hid (∀x,x∈D↔((look (tabAll 0 0) x).isSome=true∧left (.string x)=false))∧Hid D.Nodup∧Below w.heap.size w wr∧r<wr.heap.size) (fun _ wr=>wr.rangeLeft b r)
 case atStart=>
  refine⟨_,_,[],hrg0,by simpa using hsz,World.sr_nil,fun x=>⟨fun h=>(by cases h),fun h=> ?_⟩,List.nodup_nil,hB0,by omega⟩
  exfalso
  have h2:=HS.out x
  split at h2
  ·obtain⟨v,h3,_⟩:=h2
   have:=has_true_of_atKey h3
   rw[h.2]at this;cases this
  ·rename_i hn
   rw[hn]at h;cases h.1
 case round=>
  clear hrg0 hs0 hB0
  obtain⟨left,cnt,D,hrg,hcs,HR,HM,HND,hB,hrl⟩:=hrel
  go_wp2_with (at_next;refine wpList_next_ranges _ rfl _ rfl 9 keyed9 RV id id (fun key _ _=>⟨key,rfl⟩) (fun v _ _=>⟨v,rfl⟩) b r 100 _ _ _ rfl hrg ?_ ?_)
  ·intro hc0 hl0
   have HDl:Hid (D.length≤100000):=Lib.hid (by omega)
   have HMM:Hid (∀x,x∈D↔(look (tabAll 0 0) x).isSome=true):=Lib.hid fun x=>(HM.out x).trans ⟨fun h=>h.1,fun h=>⟨h,hl0 _⟩⟩
   have HLT:=Lib.hid (World.ownsRow.lt HR.out)
   clear hc0 hl0 hrg HM
   go_wp2_with (go_at_call 40;refine(sort_names _ _ _ _ HR.out HDl.out).mono ?_;rintro e w4 ⟨rfl,hr4,hg4⟩)
   go_ret
   refine⟨_,D,rfl,?_,HND.out,HMM.out,hB.grown hg4 hB.size (fun k hk=>by have:=(HLT.out k hk).1;omega)⟩
   refine⟨hr4.1,?_⟩
   rcases hr4.2 with h|⟨g,cap,cur,e,hg,h3⟩
   ·exact .inl h
   ·exact .inr ⟨g,cap,cur,e,by omega,h3⟩
  ·intro x c kl y ps w1 cnt1 hkey hlx hv hat hrg1 hlt hg1 hs1' hen
   obtain⟨s,hxs,hks,hsz⟩:=Go.WideMaps.string_of_keyOf Tryz.underlying9 hkey
   change x=_ at hxs
   subst hxs hks
   have hy:y= .held c:=by unfold RV at hv;injection hv with hv;injection hv with hv;exact hv.symm
   subst hy
   have he:(look (tabAll 0 0) s.data.toList).isSome=true:=by
    have h2:=HS.out s.data.toList
    split at h2
    ·rename_i e he
     rw[he];rfl
    ·have:=(h2 .nil).symm.trans (hat .nil)
     cases this
   have HE:=Lib.hid he
   have HL:=Lib.hid hlx
   have hr1:=HR.out.grown hg1 (Nat.lt_succ_self _)
   have hB1:=hB.grown hg1 hB.size (fun k hk=>by cases hk;exact hrw)
   have HR1:=Lib.hid (hr1.alloc (.cells #[.string s] 9))
   have HLN:Hid ((D.map mk).length≤100000):=Lib.hid (by rw[List.length_map];omega)
   have HLT:=Lib.hid (World.ownsRow.lt HR1.out)
   have hrl1:r<w1.heap.size:=by omega
   clear he hlx hat hv hkey hr1
   go_wp2_with (first|refine wpList_bslS rfl rfl rfl ?_|(refine wpList_pushS rfl rfl HR1.out HLN.out rfl rfl (cell_new_one w1 _ _) (by simp;omega) ?_;intro v8 w8 hr8 hg8))
   have hrg3:=(hrg1.alloc (.cells #[.string s] 9)).kept hg8 (fun e=>by have:=(HLT.out _ e.symm).1;omega) (fun e=>by have:=(HLT.out _ e.symm).1;omega)
   have hB8:=(hB1.alloc hB1.size (.cells #[.string s] 9)).grown hg8 (by have:=hB1.size;simp;omega) (fun k hk=>by have:=(HLT.out k hk).1;omega)
   go_roundw
   case rel=>
    refine⟨_,cnt1,D++ [s.data.toList],hrg3,by rw[List.length_append,List.length_singleton];omega,?_,?_,?_,hB8,?_⟩
    ·show World.sr _ _ _ _
     rw[List.map_append,List.map_singleton]
     exact hr8
    ·intro z
     rw[List.mem_append,List.mem_singleton,HM.out z]
     by_cases hz:z=s.data.toList
     ·subst hz
      refine⟨fun _=>⟨HE.out,?_⟩,fun _=> .inr rfl⟩
      show(left _&& !(Lit.string s.data.toList).sameKey (.string s.data.toList))=false
      rw[WideAt.sameKey_self (show WideAt.IsKeyLit (.string s.data.toList)from trivial)];simp
     ·have:(Lit.string z).sameKey (.string s.data.toList)=false:=sameKey_ne (fun e=>by injection e with e;exact hz e)
      constructor
      ·rintro(h|h)
       ·exact⟨h.1,by show(left _&& !(Lit.string z).sameKey (.string s.data.toList))=false;rw[h.2];rfl⟩
       ·exact absurd h hz
      ·rintro⟨h1,h2⟩
       have h2:(left (.string z)&& !(Lit.string z).sameKey (.string s.data.toList))=false:=h2
       rw[this]at h2
       exact .inl ⟨h1,by simpa using h2⟩
    ·show(D++ [s.data.toList]).Nodup
     rw[List.nodup_append]
     refine⟨HND.out,by simp,fun a ha b hb=> ?_⟩
     rw[List.mem_singleton.1 hb]
     intro e
     have h:=((HM.out a).1 ha).2
     rw[e,HL.out]at h;cases h
    ·have:=hg8.size;simp at this;omega
   case measure=>rw[hrg3.left_eq,hrg.left_eq];exact hlt
end Go.Proofs.YtmhfioimgllgeaaGreatDoor
namespace Go.Proofs.YtmhfioimgllgeaaGreatDoor
open Go Go.RowKit Go.Shelf
def NL :List (List UInt8):= [
 [65,66,83],
 [65,78,68],
 [65,86,69,82,65,71,69],
 [67,72,65,82],
 [67,72,79,79,83,69],
 [67,79,68,69],
 [67,79,76,85,77,78,83],
 [67,79,78,67,65,84],
 [67,79,85,78,84],
 [67,79,85,78,84,65],
 [67,79,85,78,84,66,76,65,78,75],
 [67,79,85,78,84,73,70],
 [69,88,65,67,84],
 [70,65,67,84],
 [70,65,76,83,69],
 [70,73,76,84,69,82],
 [70,73,78,68],
 [73,70],
 [73,70,69,82,82,79,82],
 [73,70,78,65],
 [73,78,68,69,88],
 [73,78,84],
 [73,83,66,76,65,78,75],
 [73,83,69,82,82,79,82],
 [73,83,69,86,69,78],
 [73,83,76,79,71,73,67,65,76],
 [73,83,78,65],
 [73,83,78,85,77,66,69,82],
 [73,83,79,68,68],
 [73,83,84,69,88,84],
 [76,65,82,71,69],
 [76,69,70,84],
 [76,69,78],
 [76,79,87,69,82],
 [77,65,84,67,72],
 [77,65,88],
 [77,69,68,73,65,78],
 [77,73,68],
 [77,73,78],
 [77,79,68],
 [78,65],
 [78,79,84],
 [78,79,87],
 [79,82],
 [80,79,87,69,82],
 [80,82,79,68,85,67,84],
 [81,85,79,84,73,69,78,84],
 [82,69,80,84],
 [82,73,71,72,84],
 [82,79,85,78,68],
 [82,79,87,83],
 [83,69,81,85,69,78,67,69],
 [83,73,71,78],
 [83,77,65,76,76],
 [83,79,82,84],
 [83,85,66,83,84,73,84,85,84,69],
 [83,85,77],
 [83,85,77,73,70],
 [84,69,88,84,74,79,73,78],
 [84,82,65,78,83,80,79,83,69],
 [84,82,73,77],
 [84,82,85,69],
 [84,82,85,78,67],
 [84,89,80,69],
 [85,78,73,81,85,69],
 [85,80,80,69,82],
 [86,65,76,85,69],
 [86,76,79,79,75,85,80],
 [88,79,82]]
theorem look_keys (x:List UInt8):∀T:List (List UInt8×Ent),(look T x).isSome=true↔x∈T.map (·.1)
 | []=>by simp[look]
 |(k,e) :: T=>by
  rw[look,List.map_cons,List.mem_cons]
  by_cases h:k=x
  ·rw[if_pos h];simp[h]
  ·rw[if_neg h,look_keys x T]
   constructor
   ·exact .inr
   ·rintro(h2|h2)
    ·exact absurd h2.symm h
    ·exact h2
set_option maxRecDepth 100000 in
theorem nl_keys :(NL.all fun x=>((tabAll 0 0).map (·.1)).elem x)=true∧(((tabAll 0 0).map (·.1)).all fun x=>NL.elem x)=true:=⟨by kernel_rfl,by kernel_rfl⟩
theorem nl_mem (x:List UInt8):x∈NL↔(look (tabAll 0 0) x).isSome=true:=by
 rw[look_keys]
 constructor
 ·intro h
  exact List.elem_iff.1 (List.all_eq_true.1 nl_keys.1 x h)
 ·intro h
  exact List.elem_iff.1 (List.all_eq_true.1 nl_keys.2 x h)
/-- Each is ahead of the next. -/
def risesB :List (List UInt8)→Bool
 | []=>true
 |x :: l=>l.all (fun y=>decide (x<y))&&risesB l
theorem rises_pair :∀l,risesB l=true→l.Pairwise (· < ·)
 | [],_=> .nil
 |x :: l,h=>by
  rw[risesB,Bool.and_eq_true,List.all_eq_true]at h
  exact .cons (fun y hy=>of_decide_eq_true (h.1 y hy)) (rises_pair l h.2)
set_option maxRecDepth 100000 in
theorem nl_rises :NL.Pairwise (· < ·):=rises_pair NL (by kernel_rfl)
theorem nl_nodup :NL.Nodup:=nl_rises.imp fun h e=>by subst e;exact List.lt_irrefl _ h
theorem names_sorted {D:List (List UInt8)} (hn:D.Nodup) (hm:∀x,x∈D↔(look (tabAll 0 0) x).isSome=true):(D.mergeSort fun x y=>decide (x≤y))=NL:=by
 have h1:=List.pairwise_mergeSort (le:=fun x y:List UInt8=>decide (x≤y)) (fun a b c h h'=>decide_eq_true (List.le_trans (of_decide_eq_true h) (of_decide_eq_true h'))) (fun a b=>by
  rcases List.le_total a b with h|h
  ·simp[h]
  ·simp[h]) D
 refine List.Perm.eq_of_pairwise (le:=fun x y=>decide (x≤y)=true) (fun a b _ _ h h'=>List.le_antisymm (of_decide_eq_true h) (of_decide_eq_true h')) h1 (nl_rises.imp fun h=>decide_eq_true (List.le_of_lt h)) ?_
 refine(List.mergeSort_perm D _).trans ?_
 rw[List.perm_ext_iff_of_nodup hn nl_nodup]
 intro x
 rw[hm,nl_mem]
theorem names12 (w:World):Calls Tryz.prog 12 #[] w fun e w'=>∃v,e= .returned v∧World.sr w' w.heap.size v (NL.map mk)∧Below w.heap.size w w':=
 (names_any w).mono fun e w' ⟨v,D,h1,h2,h3,h4,h5⟩=>⟨v,h1,by rw[names_sorted h3 h4]at h2;exact h2,h5⟩
end Go.Proofs.YtmhfioimgllgeaaGreatDoor
