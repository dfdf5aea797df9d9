/- The cells of a number: a sign, ninety-six digits, and whether something smaller is left; what reading and writing one of them does. -/
import Derived.Test.YtmhfioimgllgeaaGreatDoorRows
import Derived.WalkKit
import Derived.WalkSpells
import Derived.WalkLawsBesides
import Derived.Deep.QuietTactic
import Derived.BigQuiet
import Derived.Laws.ResultCell
import Derived.Laws.Tables
namespace Go.Proofs.YtmhfioimgllgeaaGreatDoor
open Go.RowKit
@[go_sem] theorem alloc_drewN (w:World) (n:Nat) (o:Obj):(w.drewN n).alloc o=(w.alloc o).drewN n:=rfl
@[go_sem] theorem setCell_drewN (w:World) (n:Nat) (a:Addr) (v:Value):(w.drewN n).setCell a v=(w.setCell a v).drewN n:=rfl
@[go_sem] theorem shape_drewN (w:World) (n:Nat) (r:Nat):(w.drewN n).shape? r=w.shape? r:=rfl
theorem ret_bool {a b:Bool} (h:a=b):Ending.returned (.bool a)= .returned (.bool b):=by rw[h]
theorem ret_int {k:IntKind} {a b:Int} (h:a=b):Ending.returned (.int k a)= .returned (.int k b):=by rw[h]
def numF (s:Bool) (f:Nat→Int) (m:Bool):Array Value:=(Value.bool s :: ((List.range 96).map (fun k=>Value.int .i8 (f k))++ [Value.bool m])).toArray
theorem numF_size (s:Bool) (f:Nat→Int) (m:Bool):(numF s f m).size=98:=by simp[numF]
theorem numF_sign (s:Bool) (f:Nat→Int) (m:Bool):(numF s f m)[0]? =some (.bool s):=by simp[numF]
theorem numF_dig (s:Bool) (f:Nat→Int) (m:Bool) {k:Nat} (h:k<96):(numF s f m)[1+k]? =some (.int .i8 (f k)):=by
 rw[Nat.add_comm];simp[numF,List.getElem?_append,h]
theorem numF_more (s:Bool) (f:Nat→Int) (m:Bool):(numF s f m)[97]? =some (.bool m):=by simp[numF]
theorem numF_one (s:Bool) (f:Nat→Int) (m:Bool):(numF s f m).all (·.oneCell')=true:=by
 refine Array.all_eq_true_iff_forall_mem.2 (fun v hv=> ?_)
 simp[numF]at hv
 rcases hv with rfl|⟨k,_,rfl⟩|rfl<;>rfl
theorem numF_congr {s:Bool} {f g:Nat→Int} {m:Bool} (h:∀k,k<96→f k=g k):numF s f m=numF s g m:=by
 unfold numF
 rw[List.map_congr_left (fun k hk=>by rw[h k (by simpa using hk)])]
theorem numF_set (s:Bool) (f:Nat→Int) (m:Bool) (k:Nat) (h:k<96) (v:Int):(numF s f m).setIfInBounds (1+k) (.int .i8 v)=numF s (fun j=>if j=k then v else f j) m:=by
 apply Array.ext_getElem?
 intro i
 rw[Array.getElem?_setIfInBounds]
 by_cases h0:i=0
 ·subst h0;rw[numF_sign,if_neg (by omega),numF_sign]
 by_cases h1:i<97
 ·obtain⟨j,rfl⟩:∃j,i=1+j:=⟨i-1,by omega⟩
  rw[numF_dig _ _ _ (by omega:j<96),numF_dig _ _ _ (by omega:j<96),numF_size]
  by_cases hj:j=k
  ·subst hj;rw[if_pos rfl,if_pos (by omega),if_pos rfl]
  ·rw[if_neg (by omega),if_neg hj]
 by_cases h2:i=97
 ·subst h2;rw[numF_more,if_neg (by omega),numF_more]
 ·rw[if_neg (by omega),Array.getElem?_eq_none (by rw[numF_size];omega),Array.getElem?_eq_none (by rw[numF_size];omega)]
theorem numF_setMore (s:Bool) (f:Nat→Int) (m m':Bool):(numF s f m).setIfInBounds 97 (.bool m')=numF s f m':=by
 apply Array.ext_getElem?
 intro i
 rw[Array.getElem?_setIfInBounds]
 by_cases h0:i=0
 ·subst h0;rw[numF_sign,if_neg (by omega),numF_sign]
 by_cases h1:i<97
 ·obtain⟨j,rfl⟩:∃j,i=1+j:=⟨i-1,by omega⟩
  rw[numF_dig _ _ _ (by omega:j<96),numF_dig _ _ _ (by omega:j<96),if_neg (by omega)]
 by_cases h2:i=97
 ·subst h2;rw[numF_more,numF_size,if_pos rfl,if_pos (by omega),numF_more]
 ·rw[if_neg (by omega),Array.getElem?_eq_none (by rw[numF_size];omega),Array.getElem?_eq_none (by rw[numF_size];omega)]
/-- Block b holds a number. -/
def World.num (w:World) (b:Nat) (s:Bool) (f:Nat→Int) (m:Bool):Prop:=w.heap[b]? =some (.cells (numF s f m) 105 (0,0))
section
variable {w w' : World} {b : Nat} {s : Bool} {f g : Nat → Int} {m : Bool}
theorem World.num.sign (h:World.num w b s f m):w.cell? ⟨b,0,none⟩=some (.bool s):=by rw[cell_of_row w b 0 _ _ _ h,numF_sign]
theorem World.num.dig (h:World.num w b s f m) {k:Nat} (hk:k<96):w.cell? ⟨b,1+k,none⟩=some (.int .i8 (f k)):=by rw[cell_of_row w b _ _ _ _ h,numF_dig _ _ _ hk]
theorem World.num.more (h:World.num w b s f m):w.cell? ⟨b,97,none⟩=some (.bool m):=by rw[cell_of_row w b _ _ _ _ h,numF_more]
theorem World.num.frozen (h:World.num w b s f m) (o:Nat):w.frozen? ⟨b,o,none⟩=false:=frozen_of_row w b o _ _ h
theorem World.num.lt (h:World.num w b s f m):b<w.heap.size:=(Array.getElem?_eq_some_iff.1 h).1
theorem World.num.congr (h:World.num w b s f m) (hg:∀k,k<96→f k=g k):World.num w b s g m:=by unfold World.num at *;rw[h,numF_congr hg]
theorem World.num.set (h:World.num w b s f m) {k:Nat} (hk:k<96) (v:Int):World.num (w.setCell ⟨b,1+k,none⟩ (.int .i8 v)) b s (fun j=>if j=k then v else f j) m:=by
 unfold World.num;rw[heap_setCell_same w b (1+k) _ 105 _ h,numF_set _ _ _ _ hk]
theorem World.num.setMore (h:World.num w b s f m) (m':Bool):World.num (w.setCell ⟨b,97,none⟩ (.bool m')) b s f m':=by
 unfold World.num;rw[heap_setCell_same w b 97 _ 105 _ h,numF_setMore]
theorem World.num.other (h:World.num w b s f m) {a:Addr} (hne:b≠a.block) (v:Value):World.num (w.setCell a v) b s f m:=by
 unfold World.num;rw[heap_setCell_other w a b v hne];exact h
theorem World.num.alloc (h:World.num w b s f m) (o:Obj):World.num (w.alloc o) b s f m:=by
 unfold World.num;rw[heap_alloc_old w o h.lt];exact h
theorem World.num.drew (h:World.num w b s f m):World.num w.drew b s f m:=h
theorem World.num.drewN (h:World.num w b s f m) (n:Nat):World.num (w.drewN n) b s f m:=h
theorem World.num.below {B:Nat} (h:World.num w b s f m) (hb:Below B w w') (hlt:b<B):World.num w' b s f m:=by
 unfold World.num;rw[hb.block b hlt];exact h
theorem World.num_new (w:World) (s:Bool) (f:Nat→Int) (m:Bool):World.num (w.alloc (.cells (numF s f m) 105)) w.heap.size s f m:=heap_alloc_new w _
theorem World.num.setRow (h:World.num w b s f m) (s':Bool) (m':Bool):World.num (w.setRow b (numF s' g m')) b s' g m':=by
 unfold World.num;exact setRow_heap w b _ _ 105 _ h
end
theorem info56 :(Tryz.prog.info? 105).map (·.size)=some 98:=by kernel_rfl
theorem info56' (s:Bool) (f:Nat→Int) (m:Bool):(Tryz.prog.info? 105).map (·.size)=some (numF s f m).size:=by rw[numF_size];exact info56
def z96 :Nat→Int:=fun _=>0
theorem zero56 (w:World):(zeroValue 105).run Tryz.prog w= .ok (.agg (numF false z96 false)) w:=by
 kernel_rfl
theorem build56 (s:Bool) (w:World):(Instr.build 105 #[(0,.bool s)]).run Tryz.prog w= .ok (.agg (numF s z96 false)) w:=by
 kernel_rfl
theorem World.num.grown {w w':World} {b:Nat} {s:Bool} {f:Nat→Int} {m:Bool} {row:Option Nat} (h:World.num w b s f m) (hg:w.grownBy w' row) (hne:some b≠row):World.num w' b s f m:=by
 unfold World.num;rw[hg.block b h.lt hne];exact h
theorem World.num_new' (w:World) (s:Bool) (f:Nat→Int) (m:Bool) (n:Nat) (hn:n=w.heap.size):World.num (w.alloc (.cells (numF s f m) 105)) n s f m:=by subst hn;exact heap_alloc_new w _
/-- A number's cells as the walk reads one of them. -/
theorem World.num.at {w:World} {b:Nat} {s:Bool} {f:Nat→Int} {m:Bool} (h:World.num w b s f m) (k:Nat) (hk:k<96):w.cell? ⟨b,1+k,none⟩=some (.int .i8 (f k))∧w.frozen? ⟨b,1+k,none⟩=false:=⟨h.dig hk,h.frozen _⟩
section
variable {ops : Array Oper} {rest : List Oper} {o : Oper} {a : Act} {w : World} {Q : Exit → Act → World → Prop}
theorem wpList_alloc56 (hgd:o.guard=none) (ho:o.op= .alloc 105)
 (h:wpList Tryz.prog ops Q rest (a.put o.dst (.pointer (some ⟨w.heap.size,0,none⟩))) (w.alloc (.cells (numF false z96 false) 105))):wpList Tryz.prog ops Q (o :: rest) a w:=
 wpList_plain hgd fun K hK=>by
  have hz:=zero56 w
  unfold Oper.wp execOp
  simp[ho,Instr.alloc,Sem.run_bind,hz,newVar,newRow,newObj,Value.cells]
  exact hK _ _ h
theorem wpList_build56 {x:Operand} {s:Bool} (hgd:o.guard=none) (ho:o.op= .build 105 #[(0,x)]) (hx:a.eval x= .bool s)
 (h:wpList Tryz.prog ops Q rest (a.put o.dst (.agg (numF s z96 false))) w):wpList Tryz.prog ops Q (o :: rest) a w:=
 wpList_plain hgd fun K hK=>by
  have hz:=build56 s w
  unfold Oper.wp execOp
  simp[ho,hx,hz]
  exact hK _ _ h
theorem wpList_load56 {x:Operand} {g:Nat} {s:Bool} {f:Nat→Int} {m:Bool} (hgd:o.guard=none) (ho:o.op= .load 105 x) (hx:a.eval x= .pointer (some ⟨g,0,none⟩)) (hn:World.num w g s f m)
 (h:wpList Tryz.prog ops Q rest (a.put o.dst (.agg (numF s f m))) w):wpList Tryz.prog ops Q (o :: rest) a w:=
 wpList_load_row hgd 105 x ho g hx 105 _ (0,0) _ hn Tryz.underlying105 rfl (info56' s f m) h
theorem setRow_grownBy (w:World) (g:Nat) (cs:Array Value):w.grownBy (w.setRow g cs) (some g):=
 ⟨rfl,rfl,rfl,by simp,fun k _ hk=>setRow_other w g k _ (fun e=>hk (by rw[e]))⟩
theorem wpList_store56 {x y:Operand} {g:Nat} {s s':Bool} {f f':Nat→Int} {m m':Bool} (hgd:o.guard=none) (ho:o.op= .store 105 x y) (hx:a.eval x= .pointer (some ⟨g,0,none⟩)) (hy:a.eval y= .agg (numF s' f' m'))
 (hn:World.num w g s f m) (h:∀w1,World.num w1 g s' f' m'→w.grownBy w1 (some g)→w1.heap.size=w.heap.size→wpList Tryz.prog ops Q rest (a.put o.dst undef) w1):wpList Tryz.prog ops Q (o :: rest) a w:=
 wpList_store_row hgd 105 x y ho g _ hx hy 105 _ hn (info56' s' f' m') (by rw[numF_size,numF_size]) (numF_one _ _ _) (h _ (World.num.setRow hn _ _) (setRow_grownBy _ _ _) (by simp))
end
end Go.Proofs.YtmhfioimgllgeaaGreatDoor
