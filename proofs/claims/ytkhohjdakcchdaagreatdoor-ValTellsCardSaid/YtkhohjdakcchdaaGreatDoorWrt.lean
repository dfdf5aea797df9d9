/- val.names; val.written at plain values that are no texts. -/
import Derived.Test.YtkhohjdakcchdaaGreatDoorBl
import Derived.Test.YtkhohjdakcchdaaGreatDoorBk
namespace Go.Proofs.YtkhohjdakcchdaaGreatDoor
open Go Go.RowKit Go.Shelf
/-- The nine names. -/
def namesC :Array Value:= #[.string (mk (errL 1)),.string (mk (errL 2)),.string (mk (errL 3)),.string (mk (errL 4)),.string (mk (errL 5)),.string (mk (errL 6)),.string (mk (errL 7)),.string (mk (errL 8)),.string (mk (errL 9))]
theorem build_names (w:World):(Instr.build 78 #[(0,.string ⟨#[35,78,85,76,76,33]⟩),(1,.string ⟨#[35,68,73,86,47,48,33]⟩),(2,.string ⟨#[35,86,65,76,85,69,33]⟩),(3,.string ⟨#[35,82,69,70,33]⟩),(4,.string ⟨#[35,78,65,77,69,63]⟩),(5,.string ⟨#[35,78,85,77,33]⟩),(6,.string ⟨#[35,78,47,65]⟩),(7,.string ⟨#[35,83,80,73,76,76,33]⟩),(8,.string ⟨#[35,67,73,82,67,33]⟩)]).run Tryz.prog w= .ok (.agg namesC) w:=by kernel_rfl
theorem info78 :(Tryz.prog.info? 78).map (·.size)=some 9:=by kernel_rfl
def z78 :Array Value:= #[.string ⟨#[]⟩,.string ⟨#[]⟩,.string ⟨#[]⟩,.string ⟨#[]⟩,.string ⟨#[]⟩,.string ⟨#[]⟩,.string ⟨#[]⟩,.string ⟨#[]⟩,.string ⟨#[]⟩]
theorem zero78 (w:World):(zeroValue 78).run Tryz.prog w= .ok (.agg z78) w:=by kernel_rfl
theorem names_one :namesC.all (·.oneCell')=true:=by simp[namesC,Value.oneCell']
section
variable {ops : Array Oper} {rest : List Oper} {o : Oper} {a : Act} {w : World} {Q : Exit → Act → World → Prop}
theorem wpList_alloc78 (hgd:o.guard=none) (ho:o.op= .alloc 78)
 (h:wpList Tryz.prog ops Q rest (a.put o.dst (.pointer (some ⟨w.heap.size,0,none⟩))) (w.alloc (.cells z78 78))):wpList Tryz.prog ops Q (o :: rest) a w:=
 wpList_plain hgd fun K hK=>by
  have hz:=zero78 w
  unfold Oper.wp execOp
  simp[ho,Instr.alloc,Sem.run_bind,hz,newVar,newRow,newObj,Value.cells]
  exact hK _ _ h
theorem wpList_build_names (hgd:o.guard=none) (ho:o.op= .build 78 #[(0,.const (.string ⟨#[35,78,85,76,76,33]⟩)),(1,.const (.string ⟨#[35,68,73,86,47,48,33]⟩)),(2,.const (.string ⟨#[35,86,65,76,85,69,33]⟩)),(3,.const (.string ⟨#[35,82,69,70,33]⟩)),(4,.const (.string ⟨#[35,78,65,77,69,63]⟩)),(5,.const (.string ⟨#[35,78,85,77,33]⟩)),(6,.const (.string ⟨#[35,78,47,65]⟩)),(7,.const (.string ⟨#[35,83,80,73,76,76,33]⟩)),(8,.const (.string ⟨#[35,67,73,82,67,33]⟩))])
 (h:wpList Tryz.prog ops Q rest (a.put o.dst (.agg namesC)) w):wpList Tryz.prog ops Q (o :: rest) a w:=
 wpList_plain hgd fun K hK=>by
  have hz:=build_names w
  have he:∀v,a.eval (.const v)=v:=fun _=>rfl
  unfold Oper.wp execOp
  simp[ho,he,hz]
  exact hK _ _ h
theorem wpList_store78 {x y:Operand} {g:Nat} (hgd:o.guard=none) (ho:o.op= .store 78 x y) (hx:a.eval x= .pointer (some ⟨g,0,none⟩)) (hy:a.eval y= .agg namesC)
 (hn:w.heap[g]? =some (.cells z78 78 (0,0))) (h:∀w1,w1.heap[g]? =some (.cells namesC 78 (0,0))→w.grownBy w1 (some g)→w1.heap.size=w.heap.size→wpList Tryz.prog ops Q rest (a.put o.dst undef) w1):wpList Tryz.prog ops Q (o :: rest) a w:=
 wpList_store_row hgd 78 x y ho g _ hx hy 78 _ hn info78 rfl names_one (h _ (setRow_heap w g _ _ 78 _ hn) (setRow_grownBy _ _ _) (by simp))
end
set_option maxRecDepth 100000 in
set_option maxHeartbeats 1000000 in
theorem names_any (w:World):Calls Tryz.prog 47 #[] w (Gives (.agg namesC) w):=by
 go_enter Tryz.func47,Tryz.ntmps47
 go_wp2_with (first|refine wpList_alloc78 rfl rfl ?_|refine wpList_build_names rfl rfl ?_|(refine wpList_store78 rfl rfl rfl rfl (heap_alloc_new w _) ?_;intro w1 hn1 hg1 hz1))
 refine bodyPost_ret (results_cell_row rfl _ _ _ 78 _ (0,0) _ rfl hn1 Tryz.underlying78 rfl info78) rfl ?_
 exact⟨rfl,((Below.refl _ w).alloc (Nat.le_refl _) _).grown hg1 (by simp) (fun k hk=>by cases hk;simp)⟩
theorem names_idx {n:Nat} (h1:1≤n) (h2:n≤9) (W:World):(Instr.index 78 (.agg namesC) (.int .i64 (IntKind.i64.wrap ((n:Int)-1)))).run Tryz.prog W= .ok (.string (mk (errL n))) W:=by
 rcases(show n=1∨n=2∨n=3∨n=4∨n=5∨n=6∨n=7∨n=8∨n=9 by omega)with e|e|e|e|e|e|e|e|e<;>subst e<;>kernel_rfl
theorem names_idxK {K:Nat} (h:K<9) (W:World):(Instr.index 78 (.agg namesC) (.int .i64 (K:Int))).run Tryz.prog W= .ok (.string (mk (errL (K+1)))) W:=by
 rcases(show K=0∨K=1∨K=2∨K=3∨K=4∨K=5∨K=6∨K=7∨K=8 by omega)with e|e|e|e|e|e|e|e|e<;>subst e<;>kernel_rfl
set_option maxRecDepth 100000 in
set_option maxHeartbeats 4000000 in
theorem writ_0 (w:World):Calls Tryz.prog 62 #[.agg (pcs {})] w (Gives (.string (mk [])) w):=by
 obtain⟨C,hC⟩:∃C,pcs {}=C:=⟨_,rfl⟩
 have x0:C[0]? =some (.int .i64 0):=by rw[←hC];rfl
 rw[hC]
 clear hC
 go_enter Tryz.func62,Tryz.ntmps62
 go_wp2_with fail
 go_ret
 exact⟨rfl,(Below.refl _ w).alloc (Nat.le_refl _) _⟩
set_option maxRecDepth 100000 in
set_option maxHeartbeats 4000000 in
theorem writ_1 (M E:Int) (w:World) (h0: -9223372036854775808≤M) (h1:M≤9223372036854775807):Calls Tryz.prog 62 #[.agg (pcs (numV (M,E)))] w (Gives (.string (mk (textD M E).1)) w):=by
 have HT:=Lib.hid (text_any M E · h0 h1)
 obtain⟨C,hC⟩:∃C,pcs (numV (M,E))=C:=⟨_,rfl⟩
 have x0:C[0]? =some (.int .i64 1):=by rw[←hC];rfl
 have x1:C[1]? =some (.int .i64 M):=by rw[←hC];rfl
 have x2:C[2]? =some (.int .i64 E):=by rw[←hC];rfl
 rw[hC]
 clear hC
 go_enter Tryz.func62,Tryz.ntmps62
 go_wp2_with fail
 refine(HT.out _).mono ?_
 rintro e2 w2 ⟨rfl,hB2⟩
 have hB:=((Below.refl _ w).alloc (Nat.le_refl _) (.cells C 34)).trans (hB2.mono (by simp))
 go_wp2_with fail
 go_ret
 exact⟨rfl,hB⟩
set_option maxRecDepth 100000 in
set_option maxHeartbeats 4000000 in
theorem writ_3 (b:Bool) (w:World):Calls Tryz.prog 62 #[.agg (pcs (trV b))] w (Gives (.string (mk (if b then TRUEL else FALSEL))) w):=by
 obtain⟨C,hC⟩:∃C,pcs (trV b)=C:=⟨_,rfl⟩
 have x0:C[0]? =some (.int .i64 3):=by rw[←hC];rfl
 have x4:C[4]? =some (.bool b):=by rw[←hC];rfl
 rw[hC]
 clear hC
 cases b
 all_goals
  go_enter Tryz.func62,Tryz.ntmps62
  go_wp2_with fail
  go_ret
  exact⟨rfl,(Below.refl _ w).alloc (Nat.le_refl _) _⟩
set_option maxRecDepth 100000 in
set_option maxHeartbeats 4000000 in
theorem writ_4 (n:Nat) (w:World) (h1:1≤n) (h2:n≤9):Calls Tryz.prog 62 #[.agg (pcs (errV n))] w (Gives (.string (mk (errL n))) w):=by
 have hna:=names_idx h1 h2
 obtain⟨S,hS⟩:∃S,mk (errL n)=S:=⟨_,rfl⟩
 obtain⟨C,hC⟩:∃C,pcs (errV n)=C:=⟨_,rfl⟩
 have x0:C[0]? =some (.int .i64 4):=by rw[←hC];rfl
 have x5:C[5]? =some (.int .i64 (n:Int)):=by rw[←hC];rfl
 rw[hC,hS]
 rw[hS]at hna
 have HN:=Lib.hid names_any
 obtain⟨NC,hNC⟩:∃NC,namesC=NC:=⟨_,rfl⟩
 rw[hNC]at hna HN
 clear hC hS hNC
 go_enter Tryz.func62,Tryz.ntmps62
 go_wp2_with fail
 obtain⟨W,hW⟩:∃W,W=w.alloc (.cells C 34):=⟨_,rfl⟩
 rw[←hW]
 have hvx:World.vb W w.heap.size C:=by rw[hW];exact World.vb_new w C
 have hB:Below w.heap.size w W:=by rw[hW];exact(Below.refl _ w).alloc (Nat.le_refl _) _
 clear hW
 have hvx:=hvx.drew
 have hB:=hB.drew
 have c5:=hvx.cell x5
 go_region_held3 (fun w'=>w'.cell? ⟨w.heap.size,5,none⟩=some (.int .i64 (n:Int)))
  (first|exact c5|fail)
  (first|(go_at_call 47;refine(HN.out _).mono ?_;rintro e2 w2 ⟨rfl,hB2⟩;have hvx:=hvx.below hB2 hvx.lt;have hB:=hB.trans (hB2.mono hB.size);have c5:=hvx.cell x5)|fail)
 all_goals
  go_wp2_with fail
  go_ret
  exact⟨rfl,hB⟩
/-- What is written of a plain value that is no text. -/
theorem writ_any (x:Vl) (w:World) (hp:plainV x=true) (hk:x.k≠2):Calls Tryz.prog 62 #[.agg (pcs x)] w (Gives (.string (mk (writL x))) w):=by
 rcases plain_cases hp with e|⟨p,e,hr⟩|⟨s,e,_⟩|⟨b,e⟩|⟨n,e,h1,h2⟩<;>subst e
 ·exact writ_0 w
 ·unfold RightP at hr
  exact writ_1 p.1 p.2 w (by omega) (by omega)
 ·exact absurd rfl hk
 ·exact writ_3 b w
 ·have:=writ_4 n.toNat w (by omega) (by omega)
  rw[show ((n.toNat:Nat):Int)=n by omega]at this
  exact this
end Go.Proofs.YtkhohjdakcchdaaGreatDoor
