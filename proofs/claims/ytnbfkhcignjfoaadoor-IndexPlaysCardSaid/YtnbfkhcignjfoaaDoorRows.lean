/-
  NARROWER THAN 'FOR EVERY INPUT', by the rows' own cells (each row's printed sentence says how): IndexPlays: laid · IndexOrder: laid · IndexHits: laid · IndexDrops: laid.
  DERIVED. THE GIVEN ROWS OF THIS SEAT. 4 by the template 'for every input the law returns true; each argument reads behind the call as it read before'; 0 by the template 'total and deterministic' (their statements: YtnbfkhcignjfoaaDoorTotals.lean).
  GIVEN WITH THE SEED: the statements are not yours to turn. If you find one false, say at which input.
  Laid BY PROGRAM, IN A SANDBOX (cutbox-rows.mjs): the forced cells as the released guide's own fill.sh prints them over the translation 7bce799c6c7b6f59… (all of the seat's roots in one cut). By AI agents, Wed Nov 11 2026. No macro, syntax, notation, axiom, sorry.
-/
import Derived.Test.YtnbfkhcignjfoaaDoorChecked
import GoSem.Claim
import GoSem.ClaimJoined
import GoSem.ClaimMapViews
import Derived.JoinedTies
import Derived.KernelRfl
namespace Go.Proofs.YtnbfkhcignjfoaaDoor
/- THE CELL 'sum', in the pinned program and in every row, IS THE sha256 OF THE DUMP (.gsa) THAT YtnbfkhcignjfoaaDoorProg.lean LOADS. Nothing in Lean hashes anything: it is a label: what it is worth is what the hold of that sum in a sandbox is worth. -/
noncomputable def Tryd.pinned : Pinned := { name := "ytnbfkhcignjfoaadoor", sum := "7bce799c6c7b6f5959d928e8c351fe7acc7d6f05096880231c58ba47b26746cd", checked := Tryd.checked }
namespace Rows
def none {H : Type} : Left H := { results := [], args := [] }

/- WHAT THE LISTED PACKAGE-LEVEL VARIABLES READ AS WHEN THE CALL BEGINS. Each datum BY PROGRAM (the guide's laid-datum.mjs) off the statement by which the dump's own 'gosem.cut.vars' lays the variable. In a bare row this is a premise. The card (YtnbfkhcignjfoaaDoorCards.lean) ties it to the program's text. -/
def laid_tabula_index_errArg {H : Type} : DataW H := .iface "*errors.errorString" (.ptr (.agg [.lit (.string [110, 111, 32, 97, 114, 101, 97])]))
def laid_tabula_index_errHas {H : Type} : DataW H := .iface "*errors.errorString" (.ptr (.agg [.lit (.string [97, 32, 110, 117, 109, 98, 101, 114, 32, 116, 119, 105, 99, 101])]))

/-- 'tabulalaw11.IndexPlays': WHATEVER THE INPUT: true; the input reads as it did. -/
def indexPlaysSpec : ChangeSpec := { name := "indexPlays", fn := fun _ => fun
  | [d] => { results := [.lit (.bool true)], args := [d] }
  | _ => none }
def indexPlaysRow : OpenClaim := { program := "ytnbfkhcignjfoaadoor", sum := "7bce799c6c7b6f5959d928e8c351fe7acc7d6f05096880231c58ba47b26746cd", func := "tabula/tabulalaw11.IndexPlays", spec := "indexPlays", inPlace := ["internal/reflectlite.TypeOf"], unfollowed := true, recurses := true, named := ["tabula/index.errArg", "tabula/index.errHas"], plainKeys := false, apart := false, laid := [("tabula/index.errArg", laid_tabula_index_errArg), ("tabula/index.errHas", laid_tabula_index_errHas)] }
def IndexPlaysSaid : Prop := indexPlaysRow.holds Tryd.pinned (OpenSpec.ofChange indexPlaysSpec)

/-- ITS FALSE NEIGHBOUR: 'it returns false'. Refute it at one input. -/
def indexPlaysWrong : ChangeSpec := { name := "indexPlays", fn := fun _ => fun
  | [d] => { results := [.lit (.bool false)], args := [d] }
  | _ => none }
def IndexPlaysWrongFalsely : Prop := indexPlaysRow.holds Tryd.pinned (OpenSpec.ofChange indexPlaysWrong)

/-- 'tabulalaw11.IndexOrder': WHATEVER THE INPUT: true; the input reads as it did. -/
def indexOrderSpec : ChangeSpec := { name := "indexOrder", fn := fun _ => fun
  | [d1, d2, d3] => { results := [.lit (.bool true)], args := [d1, d2, d3] }
  | _ => none }
def indexOrderRow : OpenClaim := { program := "ytnbfkhcignjfoaadoor", sum := "7bce799c6c7b6f5959d928e8c351fe7acc7d6f05096880231c58ba47b26746cd", func := "tabula/tabulalaw11.IndexOrder", spec := "indexOrder", inPlace := ["internal/reflectlite.TypeOf"], unfollowed := true, recurses := true, named := ["tabula/index.errArg", "tabula/index.errHas"], plainKeys := false, apart := false, laid := [("tabula/index.errArg", laid_tabula_index_errArg), ("tabula/index.errHas", laid_tabula_index_errHas)] }
def IndexOrderSaid : Prop := indexOrderRow.holds Tryd.pinned (OpenSpec.ofChange indexOrderSpec)

/-- ITS FALSE NEIGHBOUR: 'it returns false'. Refute it at one input. -/
def indexOrderWrong : ChangeSpec := { name := "indexOrder", fn := fun _ => fun
  | [d1, d2, d3] => { results := [.lit (.bool false)], args := [d1, d2, d3] }
  | _ => none }
def IndexOrderWrongFalsely : Prop := indexOrderRow.holds Tryd.pinned (OpenSpec.ofChange indexOrderWrong)

/-- 'tabulalaw11.IndexHits': WHATEVER THE INPUT: true; the input reads as it did. -/
def indexHitsSpec : ChangeSpec := { name := "indexHits", fn := fun _ => fun
  | [d1, d2, d3] => { results := [.lit (.bool true)], args := [d1, d2, d3] }
  | _ => none }
def indexHitsRow : OpenClaim := { program := "ytnbfkhcignjfoaadoor", sum := "7bce799c6c7b6f5959d928e8c351fe7acc7d6f05096880231c58ba47b26746cd", func := "tabula/tabulalaw11.IndexHits", spec := "indexHits", inPlace := ["internal/reflectlite.TypeOf"], unfollowed := true, recurses := true, named := ["tabula/index.errArg", "tabula/index.errHas"], plainKeys := false, apart := false, laid := [("tabula/index.errArg", laid_tabula_index_errArg), ("tabula/index.errHas", laid_tabula_index_errHas)] }
def IndexHitsSaid : Prop := indexHitsRow.holds Tryd.pinned (OpenSpec.ofChange indexHitsSpec)

/-- ITS FALSE NEIGHBOUR: 'it returns false'. Refute it at one input. -/
def indexHitsWrong : ChangeSpec := { name := "indexHits", fn := fun _ => fun
  | [d1, d2, d3] => { results := [.lit (.bool false)], args := [d1, d2, d3] }
  | _ => none }
def IndexHitsWrongFalsely : Prop := indexHitsRow.holds Tryd.pinned (OpenSpec.ofChange indexHitsWrong)

/-- 'tabulalaw11.IndexDrops': WHATEVER THE INPUT: true; the input reads as it did. -/
def indexDropsSpec : ChangeSpec := { name := "indexDrops", fn := fun _ => fun
  | [d1, d2, d3] => { results := [.lit (.bool true)], args := [d1, d2, d3] }
  | _ => none }
def indexDropsRow : OpenClaim := { program := "ytnbfkhcignjfoaadoor", sum := "7bce799c6c7b6f5959d928e8c351fe7acc7d6f05096880231c58ba47b26746cd", func := "tabula/tabulalaw11.IndexDrops", spec := "indexDrops", inPlace := ["internal/reflectlite.TypeOf"], unfollowed := true, recurses := true, named := ["tabula/index.errArg", "tabula/index.errHas"], plainKeys := false, apart := false, laid := [("tabula/index.errArg", laid_tabula_index_errArg), ("tabula/index.errHas", laid_tabula_index_errHas)] }
def IndexDropsSaid : Prop := indexDropsRow.holds Tryd.pinned (OpenSpec.ofChange indexDropsSpec)

/-- ITS FALSE NEIGHBOUR: 'it returns false'. Refute it at one input. -/
def indexDropsWrong : ChangeSpec := { name := "indexDrops", fn := fun _ => fun
  | [d1, d2, d3] => { results := [.lit (.bool false)], args := [d1, d2, d3] }
  | _ => none }
def IndexDropsWrongFalsely : Prop := indexDropsRow.holds Tryd.pinned (OpenSpec.ofChange indexDropsWrong)

/- THE SECOND FORM. 'bulk': how many values and letters a reading holds, each counted each time it is reached (what is shared counts as often as it is met; a slice's spare places count too). A statement '..UptoSaid' is the law's where the arguments, and the package variables that the reading takes, are together of bulk at most 1048576: NARROWER than '..Said'. Prove '..Said' where nothing that the law and all that it calls make is longer than what came in: it says more and counts as full. Else prove '..UptoSaid'. A law counts once. -/
mutual
def uptoBulk {H : Type} : DataW H → Nat
  | .lit (.string bytes) => bytes.length + 1
  | .lit _ => 1
  | .nil => 1
  | .ptr d => uptoBulk d + 1
  | .slice elems spare => uptoBulkAll elems + uptoBulkAll spare + 1
  | .agg parts => uptoBulkAll parts + 1
  | .iface _ d => uptoBulk d + 1
  | .map entries => uptoBulkEntries entries + 1
  | .held _ => 1
def uptoBulkAll {H : Type} : List (DataW H) → Nat
  | [] => 0
  | d :: r => uptoBulk d + uptoBulkAll r
def uptoBulkEntries {H : Type} : List (Lit × DataW H) → Nat
  | [] => 0
  | x :: r => uptoBulkEntry x + uptoBulkEntries r
def uptoBulkEntry {H : Type} : Lit × DataW H → Nat
  | (.string bytes, d) => bytes.length + uptoBulk d + 1
  | (_, d) => uptoBulk d + 1
 end
def uptoSmall : (H : Type) → List (DataW H) → Bool := fun _ ds => decide (uptoBulkAll ds ≤ 1048576)
def OpenSpec.upto (s : _root_.Go.ChangeSpec) : _root_.Go.OpenSpec := { _root_.Go.OpenSpec.ofChange s with cond := some uptoSmall }

/-- 'tabulalaw11.IndexPlays', WHERE WHAT IT READS IS OF BULK AT MOST 1048576: true; the input reads as it did. -/
def indexPlaysUptoRow : OpenClaim := { program := "ytnbfkhcignjfoaadoor", sum := "7bce799c6c7b6f5959d928e8c351fe7acc7d6f05096880231c58ba47b26746cd", func := "tabula/tabulalaw11.IndexPlays", spec := "indexPlays", inPlace := ["internal/reflectlite.TypeOf"], unfollowed := true, recurses := true, named := ["tabula/index.errArg", "tabula/index.errHas"], plainKeys := false, apart := false, laid := [("tabula/index.errArg", laid_tabula_index_errArg), ("tabula/index.errHas", laid_tabula_index_errHas)], narrowed := true }
def IndexPlaysUptoSaid : Prop := indexPlaysUptoRow.holds Tryd.pinned (OpenSpec.upto indexPlaysSpec)

/-- 'tabulalaw11.IndexOrder', WHERE WHAT IT READS IS OF BULK AT MOST 1048576: true; the input reads as it did. -/
def indexOrderUptoRow : OpenClaim := { program := "ytnbfkhcignjfoaadoor", sum := "7bce799c6c7b6f5959d928e8c351fe7acc7d6f05096880231c58ba47b26746cd", func := "tabula/tabulalaw11.IndexOrder", spec := "indexOrder", inPlace := ["internal/reflectlite.TypeOf"], unfollowed := true, recurses := true, named := ["tabula/index.errArg", "tabula/index.errHas"], plainKeys := false, apart := false, laid := [("tabula/index.errArg", laid_tabula_index_errArg), ("tabula/index.errHas", laid_tabula_index_errHas)], narrowed := true }
def IndexOrderUptoSaid : Prop := indexOrderUptoRow.holds Tryd.pinned (OpenSpec.upto indexOrderSpec)

/-- 'tabulalaw11.IndexHits', WHERE WHAT IT READS IS OF BULK AT MOST 1048576: true; the input reads as it did. -/
def indexHitsUptoRow : OpenClaim := { program := "ytnbfkhcignjfoaadoor", sum := "7bce799c6c7b6f5959d928e8c351fe7acc7d6f05096880231c58ba47b26746cd", func := "tabula/tabulalaw11.IndexHits", spec := "indexHits", inPlace := ["internal/reflectlite.TypeOf"], unfollowed := true, recurses := true, named := ["tabula/index.errArg", "tabula/index.errHas"], plainKeys := false, apart := false, laid := [("tabula/index.errArg", laid_tabula_index_errArg), ("tabula/index.errHas", laid_tabula_index_errHas)], narrowed := true }
def IndexHitsUptoSaid : Prop := indexHitsUptoRow.holds Tryd.pinned (OpenSpec.upto indexHitsSpec)

/-- 'tabulalaw11.IndexDrops', WHERE WHAT IT READS IS OF BULK AT MOST 1048576: true; the input reads as it did. -/
def indexDropsUptoRow : OpenClaim := { program := "ytnbfkhcignjfoaadoor", sum := "7bce799c6c7b6f5959d928e8c351fe7acc7d6f05096880231c58ba47b26746cd", func := "tabula/tabulalaw11.IndexDrops", spec := "indexDrops", inPlace := ["internal/reflectlite.TypeOf"], unfollowed := true, recurses := true, named := ["tabula/index.errArg", "tabula/index.errHas"], plainKeys := false, apart := false, laid := [("tabula/index.errArg", laid_tabula_index_errArg), ("tabula/index.errHas", laid_tabula_index_errHas)], narrowed := true }
def IndexDropsUptoSaid : Prop := indexDropsUptoRow.holds Tryd.pinned (OpenSpec.upto indexDropsSpec)

end Rows
end Go.Proofs.YtnbfkhcignjfoaaDoor
