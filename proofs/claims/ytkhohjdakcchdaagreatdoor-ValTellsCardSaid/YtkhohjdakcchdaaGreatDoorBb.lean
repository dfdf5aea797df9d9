/- Merged: Pk, Num, Digits. -/
import Derived.OrdersHeld
import Derived.KernelRfl
import Derived.Test.YtkhohjdakcchdaaGreatDoorRows
import Derived.WalkKit
import Derived.WalkSpells
import Derived.WalkLawsBesides
import Derived.Deep.QuietTactic
import Derived.BigQuiet
import Derived.Laws.ResultCell
import Derived.Laws.Tables
namespace Go.Proofs.YtkhohjdakcchdaaGreatDoor
open Go
theorem pk1 {α : Type} {xs : List α} {i : Nat} {x : α} : xs.toArray.setIfInBounds i x = (xs.set i x).toArray := List.setIfInBounds_toArray ..
theorem pk2 {α : Type} {a b : α} {l : List α} : (a :: l).set 0 b = b :: l := List.set_cons_zero ..
theorem pk3 {α : Type} {a b : α} {l : List α} {i : Nat} : (a :: l).set (i + 1) b = a :: l.set i b := List.set_cons_succ ..
theorem tk {P : Program} {ops : Array Oper} {Q : Exit → Act → World → Prop} {md : Region.Mode} {S : World → Prop} {fuel : Nat} {listed : Array Bool} {a : Act} {w : World} (i : Nat) (oi : Oper) (v : Value) (hS : S w)
    (hy : ∀ w, S w → (execOp a.eval oi).run P w = .ok (.value v) w) (h : wpAnyH P md ops Q S fuel (listed.setIfInBounds i true) (a.put oi.dst v) w)
    (hi : ops[i]? = some oi := by rfl) (hs : Region.noSelect ops = true := by kernel_rfl) (hf : Region.free md ops listed i = true := by kernel_rfl) (hr : (Region.ready md ops listed).contains i = true := by kernel_rfl)
    (hQ : ∀ c a w, Q (.panic c) (a.put oi.dst v) w → Q (.panic c) a w := by exact fun _ _ _ h => h) (hw : Region.wanted oi (yielded ops a.tmps) = true := by rfl) : wpAnyH P md ops Q S (fuel + 1) listed a w :=
  wpAnyH_take hi hs hf hr hQ (Or.inl ⟨hw, hy⟩) hS h
end Go.Proofs.YtkhohjdakcchdaaGreatDoor
namespace Go.Proofs.YtkhohjdakcchdaaGreatDoor
open Go.RowKit
@[go_sem] theorem alloc_drewN (w:World) (n:Nat) (o:Obj):(w.drewN n).alloc o=(w.alloc o).drewN n:=rfl
@[go_sem] theorem setCell_drewN (w:World) (n:Nat) (a:Addr) (v:Value):(w.drewN n).setCell a v=(w.setCell a v).drewN n:=rfl
@[go_sem] theorem shape_drewN (w:World) (n:Nat) (r:Nat):(w.drewN n).shape? r=w.shape? r:=rfl
theorem ret_bool {a b:Bool} (h:a=b):Ending.returned (.bool a)= .returned (.bool b):=by rw[h]
theorem ret_int {k:IntKind} {a b:Int} (h:a=b):Ending.returned (.int k a)= .returned (.int k b):=by rw[h]
def numF (s:Bool) (f:Nat→Int) (m:Bool):Array Value:=(Value.bool s :: ((List.range 96).map (fun k=>Value.int .i8 (f k))++ [Value.bool m])).toArray
theorem numF_size (s:Bool) (f:Nat→Int) (m:Bool):(numF s f m).size=98:=by simp[numF]
theorem numF_sign (s:Bool) (f:Nat→Int) (m:Bool):(numF s f m)[0]? =some (.bool s):=by simp[numF]
theorem numF_dig (s:Bool) (f:Nat→Int) (m:Bool) {k:Nat} (h:k<96):(numF s f m)[1+k]? =some (.int .i8 (f k)):=by
 rw[Nat.add_comm];simp[numF,List.getElem?_append,h]
theorem numF_more (s:Bool) (f:Nat→Int) (m:Bool):(numF s f m)[97]? =some (.bool m):=by simp[numF]
theorem numF_one (s:Bool) (f:Nat→Int) (m:Bool):(numF s f m).all (·.oneCell')=true:=by
 refine Array.all_eq_true_iff_forall_mem.2 (fun v hv=> ?_)
 simp[numF]at hv
 rcases hv with rfl|⟨k,_,rfl⟩|rfl<;>rfl
theorem numF_congr {s:Bool} {f g:Nat→Int} {m:Bool} (h:∀k,k<96→f k=g k):numF s f m=numF s g m:=by
 unfold numF
 rw[List.map_congr_left (fun k hk=>by rw[h k (by simpa using hk)])]
theorem numF_set (s:Bool) (f:Nat→Int) (m:Bool) (k:Nat) (h:k<96) (v:Int):(numF s f m).setIfInBounds (1+k) (.int .i8 v)=numF s (fun j=>if j=k then v else f j) m:=by
 apply Array.ext_getElem?
 intro i
 rw[Array.getElem?_setIfInBounds]
 by_cases h0:i=0
 ·subst h0;rw[numF_sign,if_neg (by omega),numF_sign]
 by_cases h1:i<97
 ·obtain⟨j,rfl⟩:∃j,i=1+j:=⟨i-1,by omega⟩
  rw[numF_dig _ _ _ (by omega:j<96),numF_dig _ _ _ (by omega:j<96),numF_size]
  by_cases hj:j=k
  ·subst hj;rw[if_pos rfl,if_pos (by omega),if_pos rfl]
  ·rw[if_neg (by omega),if_neg hj]
 by_cases h2:i=97
 ·subst h2;rw[numF_more,if_neg (by omega),numF_more]
 ·rw[if_neg (by omega),Array.getElem?_eq_none (by rw[numF_size];omega),Array.getElem?_eq_none (by rw[numF_size];omega)]
theorem numF_setMore (s:Bool) (f:Nat→Int) (m m':Bool):(numF s f m).setIfInBounds 97 (.bool m')=numF s f m':=by
 apply Array.ext_getElem?
 intro i
 rw[Array.getElem?_setIfInBounds]
 by_cases h0:i=0
 ·subst h0;rw[numF_sign,if_neg (by omega),numF_sign]
 by_cases h1:i<97
 ·obtain⟨j,rfl⟩:∃j,i=1+j:=⟨i-1,by omega⟩
  rw[numF_dig _ _ _ (by omega:j<96),numF_dig _ _ _ (by omega:j<96),if_neg (by omega)]
 by_cases h2:i=97
 ·subst h2;rw[numF_more,numF_size,if_pos rfl,if_pos (by omega),numF_more]
 ·rw[if_neg (by omega),Array.getElem?_eq_none (by rw[numF_size];omega),Array.getElem?_eq_none (by rw[numF_size];omega)]
/-- Block b holds a number. -/
def World.num (w:World) (b:Nat) (s:Bool) (f:Nat→Int) (m:Bool):Prop:=w.heap[b]? =some (.cells (numF s f m) 100 (0,0))
section
variable {w w' : World} {b : Nat} {s : Bool} {f g : Nat → Int} {m : Bool}
theorem World.num.sign (h:World.num w b s f m):w.cell? ⟨b,0,none⟩=some (.bool s):=by rw[cell_of_row w b 0 _ _ _ h,numF_sign]
theorem World.num.dig (h:World.num w b s f m) {k:Nat} (hk:k<96):w.cell? ⟨b,1+k,none⟩=some (.int .i8 (f k)):=by rw[cell_of_row w b _ _ _ _ h,numF_dig _ _ _ hk]
theorem World.num.more (h:World.num w b s f m):w.cell? ⟨b,97,none⟩=some (.bool m):=by rw[cell_of_row w b _ _ _ _ h,numF_more]
theorem World.num.frozen (h:World.num w b s f m) (o:Nat):w.frozen? ⟨b,o,none⟩=false:=frozen_of_row w b o _ _ h
theorem World.num.lt (h:World.num w b s f m):b<w.heap.size:=(Array.getElem?_eq_some_iff.1 h).1
theorem World.num.congr (h:World.num w b s f m) (hg:∀k,k<96→f k=g k):World.num w b s g m:=by unfold World.num at *;rw[h,numF_congr hg]
theorem World.num.set (h:World.num w b s f m) {k:Nat} (hk:k<96) (v:Int):World.num (w.setCell ⟨b,1+k,none⟩ (.int .i8 v)) b s (fun j=>if j=k then v else f j) m:=by
 unfold World.num;rw[heap_setCell_same w b (1+k) _ 100 _ h,numF_set _ _ _ _ hk]
theorem World.num.setMore (h:World.num w b s f m) (m':Bool):World.num (w.setCell ⟨b,97,none⟩ (.bool m')) b s f m':=by
 unfold World.num;rw[heap_setCell_same w b 97 _ 100 _ h,numF_setMore]
theorem World.num.other (h:World.num w b s f m) {a:Addr} (hne:b≠a.block) (v:Value):World.num (w.setCell a v) b s f m:=by
 unfold World.num;rw[heap_setCell_other w a b v hne];exact h
theorem World.num.alloc (h:World.num w b s f m) (o:Obj):World.num (w.alloc o) b s f m:=by
 unfold World.num;rw[heap_alloc_old w o h.lt];exact h
theorem World.num.drew (h:World.num w b s f m):World.num w.drew b s f m:=h
theorem World.num.drewN (h:World.num w b s f m) (n:Nat):World.num (w.drewN n) b s f m:=h
theorem World.num.below {B:Nat} (h:World.num w b s f m) (hb:Below B w w') (hlt:b<B):World.num w' b s f m:=by
 unfold World.num;rw[hb.block b hlt];exact h
theorem World.num_new (w:World) (s:Bool) (f:Nat→Int) (m:Bool):World.num (w.alloc (.cells (numF s f m) 100)) w.heap.size s f m:=heap_alloc_new w _
theorem World.num.setRow (h:World.num w b s f m) (s':Bool) (m':Bool):World.num (w.setRow b (numF s' g m')) b s' g m':=by
 unfold World.num;exact setRow_heap w b _ _ 100 _ h
end
theorem info56 :(Tryz.prog.info? 100).map (·.size)=some 98:=by kernel_rfl
theorem info56' (s:Bool) (f:Nat→Int) (m:Bool):(Tryz.prog.info? 100).map (·.size)=some (numF s f m).size:=by rw[numF_size];exact info56
def z96 :Nat→Int:=fun _=>0
theorem zero56 (w:World):(zeroValue 100).run Tryz.prog w= .ok (.agg (numF false z96 false)) w:=by
 kernel_rfl
theorem build56 (s:Bool) (w:World):(Instr.build 100 #[(0,.bool s)]).run Tryz.prog w= .ok (.agg (numF s z96 false)) w:=by
 kernel_rfl
theorem World.num.grown {w w':World} {b:Nat} {s:Bool} {f:Nat→Int} {m:Bool} {row:Option Nat} (h:World.num w b s f m) (hg:w.grownBy w' row) (hne:some b≠row):World.num w' b s f m:=by
 unfold World.num;rw[hg.block b h.lt hne];exact h
theorem World.num_new' (w:World) (s:Bool) (f:Nat→Int) (m:Bool) (n:Nat) (hn:n=w.heap.size):World.num (w.alloc (.cells (numF s f m) 100)) n s f m:=by subst hn;exact heap_alloc_new w _
/-- A number's cells as the walk reads one of them. -/
theorem World.num.at {w:World} {b:Nat} {s:Bool} {f:Nat→Int} {m:Bool} (h:World.num w b s f m) (k:Nat) (hk:k<96):w.cell? ⟨b,1+k,none⟩=some (.int .i8 (f k))∧w.frozen? ⟨b,1+k,none⟩=false:=⟨h.dig hk,h.frozen _⟩
section
variable {ops : Array Oper} {rest : List Oper} {o : Oper} {a : Act} {w : World} {Q : Exit → Act → World → Prop}
theorem wpList_alloc56 (hgd:o.guard=none) (ho:o.op= .alloc 100)
 (h:wpList Tryz.prog ops Q rest (a.put o.dst (.pointer (some ⟨w.heap.size,0,none⟩))) (w.alloc (.cells (numF false z96 false) 100))):wpList Tryz.prog ops Q (o :: rest) a w:=
 wpList_plain hgd fun K hK=>by
  have hz:=zero56 w
  unfold Oper.wp execOp
  simp[ho,Instr.alloc,Sem.run_bind,hz,newVar,newRow,newObj,Value.cells]
  exact hK _ _ h
theorem wpList_build56 {x:Operand} {s:Bool} (hgd:o.guard=none) (ho:o.op= .build 100 #[(0,x)]) (hx:a.eval x= .bool s)
 (h:wpList Tryz.prog ops Q rest (a.put o.dst (.agg (numF s z96 false))) w):wpList Tryz.prog ops Q (o :: rest) a w:=
 wpList_plain hgd fun K hK=>by
  have hz:=build56 s w
  unfold Oper.wp execOp
  simp[ho,hx,hz]
  exact hK _ _ h
theorem wpList_load56 {x:Operand} {g:Nat} {s:Bool} {f:Nat→Int} {m:Bool} (hgd:o.guard=none) (ho:o.op= .load 100 x) (hx:a.eval x= .pointer (some ⟨g,0,none⟩)) (hn:World.num w g s f m)
 (h:wpList Tryz.prog ops Q rest (a.put o.dst (.agg (numF s f m))) w):wpList Tryz.prog ops Q (o :: rest) a w:=
 wpList_load_row hgd 100 x ho g hx 100 _ (0,0) _ hn Tryz.underlying100 rfl (info56' s f m) h
theorem setRow_grownBy (w:World) (g:Nat) (cs:Array Value):w.grownBy (w.setRow g cs) (some g):=
 ⟨rfl,rfl,rfl,by simp,fun k _ hk=>setRow_other w g k _ (fun e=>hk (by rw[e]))⟩
theorem wpList_store56 {x y:Operand} {g:Nat} {s s':Bool} {f f':Nat→Int} {m m':Bool} (hgd:o.guard=none) (ho:o.op= .store 100 x y) (hx:a.eval x= .pointer (some ⟨g,0,none⟩)) (hy:a.eval y= .agg (numF s' f' m'))
 (hn:World.num w g s f m) (h:∀w1,World.num w1 g s' f' m'→w.grownBy w1 (some g)→w1.heap.size=w.heap.size→wpList Tryz.prog ops Q rest (a.put o.dst undef) w1):wpList Tryz.prog ops Q (o :: rest) a w:=
 wpList_store_row hgd 100 x y ho g _ hx hy 100 _ hn (info56' s' f' m') (by rw[numF_size,numF_size]) (numF_one _ _ _) (h _ (World.num.setRow hn _ _) (setRow_grownBy _ _ _) (by simp))
end
end Go.Proofs.YtkhohjdakcchdaaGreatDoor
namespace Go.Proofs.YtkhohjdakcchdaaGreatDoor
/-- The digit of D that stands at ten to k. -/
def dg (D k:Nat):Int:=((D / 10 ^ k%10:Nat):Int)
theorem dg_nonneg (D k:Nat):0≤dg D k:=Int.natCast_nonneg _
theorem dg_le (D k:Nat):dg D k≤9:=by unfold dg;have:=Nat.mod_lt (D / 10 ^ k) (show 0<10 by decide);omega
theorem pow10_pos (k:Nat):0<10 ^ k:=Nat.pow_pos (by decide)
theorem dg_shift_low (V p i:Nat) (h:i<p):dg (V*10 ^ p) i=0:=by
 unfold dg
 obtain⟨d,rfl⟩:∃d,p=i+1+d:=⟨p-i-1,by omega⟩
 have e:V*10 ^ (i+1+d)=(V*10 ^ d*10)*10 ^ i:=by
  rw[Nat.pow_add,Nat.pow_succ];ac_rfl
 rw[e,Nat.mul_div_cancel _ (pow10_pos i),Nat.mul_mod_left];rfl
theorem dg_shift (V p K:Nat) (h:p≤K):dg (V*10 ^ p) K=((V / 10 ^ (K-p)%10:Nat):Int):=by
 unfold dg
 obtain⟨d,rfl⟩:∃d,K=p+d:=⟨K-p,by omega⟩
 rw[Nat.pow_add,Nat.add_sub_cancel_left,Nat.mul_comm V,Nat.mul_div_mul_left _ _ (pow10_pos p)]
theorem dg_zero (k:Nat):dg 0 k=0:=by simp[dg]
theorem dg_of_lt {D k:Nat} (h:D<10 ^ k):dg D k=0:=by unfold dg;rw[Nat.div_eq_of_lt h];rfl
theorem lt_of_rest {V p K:Nat} (hp:p≤K) (hb:V*10 ^ p<10 ^ 96) (h:V / 10 ^ (K-p)≠0):K<96:=by
 have h1:10 ^ (K-p)≤V:=by
  rcases Nat.lt_or_ge V (10 ^ (K-p))with h2|h2
  ·exact absurd (Nat.div_eq_of_lt h2) h
  ·exact h2
 have h2:10 ^ K≤V*10 ^ p:=by
  calc 10 ^ K=10 ^ (K-p)*10 ^ p:=by rw[←Nat.pow_add];congr 1;omega
   _≤V*10 ^ p:=Nat.mul_le_mul_right _ h1
 exact(Nat.pow_lt_pow_iff_right (by decide:1<10)).1 (Nat.lt_of_le_of_lt h2 hb)
theorem div_succ (V K p:Nat) (h:p≤K):V / 10 ^ (K+1-p)=V / 10 ^ (K-p) / 10:=by
 rw[show K+1-p=(K-p)+1 by omega,Nat.pow_succ,Nat.div_div_eq_div_mul]
/-- The digits below K alone. -/
def lowTo (D K:Nat):Nat→Int:=fun i=>if i<K then dg D i else 0
theorem lowTo_start (V p:Nat) (i:Nat):lowTo (V*10 ^ p) p i=0:=by
 unfold lowTo;split
 ·exact dg_shift_low _ _ _ ‹_›
 ·rfl
theorem lowTo_succ (D K:Nat) (i:Nat):(if i=K then dg D K else lowTo D K i)=lowTo D (K+1) i:=by
 unfold lowTo
 by_cases h:i=K
 ·subst h;simp
 ·by_cases h2:i<K
  ·rw[if_neg h,if_pos h2,if_pos (by omega)]
  ·rw[if_neg h,if_neg h2,if_neg (by omega)]
theorem lowTo_end {V p K:Nat} (hp:p≤K) (h:V / 10 ^ (K-p)=0) (i:Nat):lowTo (V*10 ^ p) K i=dg (V*10 ^ p) i:=by
 unfold lowTo
 split
 ·rfl
 ·rename_i hi
  rw[dg_shift _ _ _ (by omega)]
  have:V / 10 ^ (i-p)=0:=by
   obtain⟨d,rfl⟩:∃d,i=K+d:=⟨i-K,by omega⟩
   rw[show K+d-p=(K-p)+d by omega,Nat.pow_add,←Nat.div_div_eq_div_mul,h,Nat.zero_div]
  rw[this];rfl
def cutTo (f:Nat→Int) (K:Nat):Nat→Int:=fun i=>if i<K then 0 else f i
theorem carry_nine (D K:Nat) (h:dg D K=9):(D / 10 ^ K+1)*10 ^ K=(D / 10 ^ (K+1)+1)*10 ^ (K+1):=by
 unfold dg at h
 have e:D / 10 ^ (K+1)=D / 10 ^ K / 10:=by rw[Nat.pow_succ,Nat.div_div_eq_div_mul]
 rw[e,Nat.pow_succ,Nat.mul_comm (10 ^ K) 10,←Nat.mul_assoc]
 congr 1
 omega
theorem carry_lt {D K:Nat} (h:(D / 10 ^ K+1)*10 ^ K<10 ^ 96):K<96:=by
 have:10 ^ K≤(D / 10 ^ K+1)*10 ^ K:=Nat.le_mul_of_pos_left _ (Nat.succ_pos _)
 exact(Nat.pow_lt_pow_iff_right (by decide:1<10)).1 (Nat.lt_of_le_of_lt this h)
theorem dg_cut (D k i:Nat):dg (D / 10 ^ k*10 ^ k) i=cutTo (dg D) k i:=by
 unfold cutTo
 split
 ·exact dg_shift_low _ _ _ ‹_›
 ·rename_i h
  rw[dg_shift _ _ _ (by omega)]
  unfold dg
  rw[Nat.div_div_eq_div_mul,←Nat.pow_add,show k+(i-k)=i by omega]
theorem dg_carry (D K i:Nat) (h:dg D K≠9):dg ((D / 10 ^ K+1)*10 ^ K) i=if i=K then dg D K+1 else cutTo (dg D) K i:=by
 unfold cutTo
 by_cases h1:i<K
 ·rw[if_neg (by omega),if_pos h1];exact dg_shift_low _ _ _ h1
 ·rw[dg_shift _ _ _ (by omega),if_neg h1]
  unfold dg at h⊢
  by_cases h2:i=K
  ·subst h2
   rw[if_pos rfl,Nat.sub_self,Nat.pow_zero,Nat.div_one]
   omega
  ·rw[if_neg h2]
   obtain⟨d,rfl⟩:∃d,i=K+(d+1):=⟨i-K-1,by omega⟩
   have e1:D / 10 ^ (K+(d+1))=D / 10 ^ K / 10 / 10 ^ d:=by rw[Nat.pow_add,Nat.pow_succ,Nat.mul_comm (10 ^ d) 10,Nat.div_div_eq_div_mul,Nat.div_div_eq_div_mul]
   have e2:(D / 10 ^ K+1) / 10 ^ (d+1)=(D / 10 ^ K+1) / 10 / 10 ^ d:=by rw[Nat.pow_succ,Nat.mul_comm (10 ^ d) 10,Nat.div_div_eq_div_mul]
   have e3:(D / 10 ^ K+1) / 10=D / 10 ^ K / 10:=by omega
   rw[show K+(d+1)-K=d+1 by omega,e1,e2,e3]
/-- One step of parting a two-word number by ten. -/
theorem step10 (H L N:Int) (h:H*18446744073709551616+L=N) (_h0:0≤H) (l0:0≤L) (l1:L≤18446744073709551615):
 (H / 10)*18446744073709551616+(H%10*18446744073709551616+L) / 10=N / 10∧(H%10*18446744073709551616+L)%10=N%10∧0≤(H%10*18446744073709551616+L) / 10∧(H%10*18446744073709551616+L) / 10≤18446744073709551615:=by
 subst h;omega
end Go.Proofs.YtkhohjdakcchdaaGreatDoor
