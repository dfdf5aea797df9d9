/-
  NARROWER THAN 'FOR EVERY INPUT', by the rows' own cells (each row's printed sentence says how): ValTells: laid · ValReads: laid · ValBack: laid · ValOrder: laid · ValTwice: laid · ValEach: laid · ValMade: laid · ValQuote: laid.
  DERIVED. THE GIVEN ROWS OF THIS SEAT. 8 by the template 'for every input the law returns true; each argument reads behind the call as it read before'; 0 by the template 'total and deterministic' (their statements: YtkhohjdakcchdaaGreatDoorTotals.lean).
  GIVEN WITH THE SEED: the statements are not yours to turn. If you find one false, say at which input.
  Laid BY PROGRAM, IN A SANDBOX (cutbox-rows.mjs): the forced cells as the released guide's own fill.sh prints them over the translation 94fbd1eb1802701b… (all of the seat's roots in one cut). By AI agents, Wed Nov 11 2026. No macro, syntax, notation, axiom, sorry.
-/
import Derived.Test.YtkhohjdakcchdaaGreatDoorChecked
import GoSem.PinnedTables
import GoSem.Claim
import GoSem.ClaimJoined
import GoSem.ClaimMapViews
import Derived.JoinedTies
import Derived.KernelRfl
namespace Go.Proofs.YtkhohjdakcchdaaGreatDoor
/- THE CELL 'sum', in the pinned program and in every row, IS THE sha256 OF THE DUMP (.gsa) THAT YtkhohjdakcchdaaGreatDoorProg.lean LOADS. Nothing in Lean hashes anything: it is a label: what it is worth is what the hold of that sum in a sandbox is worth. -/
noncomputable def Tryz.pinned : Pinned := { name := "ytkhohjdakcchdaagreatdoor", sum := "94fbd1eb1802701bacf722b297f815fe2a647e1fc832190b4875b48408b840e1", checked := Tryz.checked }
namespace Rows
def none {H : Type} : Left H := { results := [], args := [] }

/- WHAT THE LISTED PACKAGE-LEVEL VARIABLES READ AS WHEN THE CALL BEGINS. Each datum BY PROGRAM (the guide's laid-datum.mjs) off the statement by which the dump's own 'gosem.cut.vars' lays the variable. In a bare row this is a premise. The card (YtkhohjdakcchdaaGreatDoorCards.lean) ties it to the program's text. -/
def laid_unicode_utf8_acceptRanges {H : Type} : DataW H := .agg [.agg [.lit (.int .u8 128), .lit (.int .u8 191)], .agg [.lit (.int .u8 160), .lit (.int .u8 191)], .agg [.lit (.int .u8 128), .lit (.int .u8 159)], .agg [.lit (.int .u8 144), .lit (.int .u8 191)], .agg [.lit (.int .u8 128), .lit (.int .u8 143)], .agg [.lit (.int .u8 0), .lit (.int .u8 0)], .agg [.lit (.int .u8 0), .lit (.int .u8 0)], .agg [.lit (.int .u8 0), .lit (.int .u8 0)], .agg [.lit (.int .u8 0), .lit (.int .u8 0)], .agg [.lit (.int .u8 0), .lit (.int .u8 0)], .agg [.lit (.int .u8 0), .lit (.int .u8 0)], .agg [.lit (.int .u8 0), .lit (.int .u8 0)], .agg [.lit (.int .u8 0), .lit (.int .u8 0)], .agg [.lit (.int .u8 0), .lit (.int .u8 0)], .agg [.lit (.int .u8 0), .lit (.int .u8 0)], .agg [.lit (.int .u8 0), .lit (.int .u8 0)]]
/-- One of Go's own tables, pinned by name: the form's constant. -/
def laid_unicode_utf8_first : DataW Unit := Go.Pinned.utf8First

/-- 'tabulalaw03.ValTells': WHATEVER THE INPUT: true; the input reads as it did. -/
def valTellsSpec : ChangeSpec := { name := "valTells", fn := fun _ => fun
  | [d1, d2, d3, d4] => { results := [.lit (.bool true)], args := [d1, d2, d3, d4] }
  | _ => none }
def valTellsRow : OpenClaim := { program := "ytkhohjdakcchdaagreatdoor", sum := "94fbd1eb1802701bacf722b297f815fe2a647e1fc832190b4875b48408b840e1", func := "tabula/tabulalaw03.ValTells", spec := "valTells", inPlace := ["internal/bytealg.IndexByteString", "internal/bytealg.IndexString", "internal/bytealg.CountString", "internal/abi.NoEscape", "internal/bytealg.MakeNoZero", "internal/bytealg.abigen_runtime_cmpstring"], unfollowed := true, recurses := true, named := ["internal/bytealg.MaxLen", "unicode/utf8.first", "unicode/utf8.acceptRanges", "math/bits.divideError", "math/bits.overflowError"], apart := false, laid := [("unicode/utf8.acceptRanges", laid_unicode_utf8_acceptRanges), ("unicode/utf8.first", laid_unicode_utf8_first)] }
def ValTellsSaid : Prop := valTellsRow.holds Tryz.pinned (OpenSpec.ofChange valTellsSpec)

/-- ITS FALSE NEIGHBOUR: 'it returns false'. Refute it at one input. -/
def valTellsWrong : ChangeSpec := { name := "valTells", fn := fun _ => fun
  | [d1, d2, d3, d4] => { results := [.lit (.bool false)], args := [d1, d2, d3, d4] }
  | _ => none }
def ValTellsWrongFalsely : Prop := valTellsRow.holds Tryz.pinned (OpenSpec.ofChange valTellsWrong)

/-- 'tabulalaw03.ValReads': WHATEVER THE INPUT: true; the input reads as it did. -/
def valReadsSpec : ChangeSpec := { name := "valReads", fn := fun _ => fun
  | [d1, d2, d3, d4, d5] => { results := [.lit (.bool true)], args := [d1, d2, d3, d4, d5] }
  | _ => none }
def valReadsRow : OpenClaim := { program := "ytkhohjdakcchdaagreatdoor", sum := "94fbd1eb1802701bacf722b297f815fe2a647e1fc832190b4875b48408b840e1", func := "tabula/tabulalaw03.ValReads", spec := "valReads", inPlace := ["internal/bytealg.IndexByteString", "internal/bytealg.IndexString", "internal/bytealg.CountString", "internal/abi.NoEscape", "internal/bytealg.MakeNoZero", "internal/bytealg.abigen_runtime_cmpstring"], unfollowed := true, recurses := true, named := ["internal/bytealg.MaxLen", "unicode/utf8.first", "unicode/utf8.acceptRanges", "math/bits.divideError", "math/bits.overflowError"], apart := false, laid := [("unicode/utf8.acceptRanges", laid_unicode_utf8_acceptRanges), ("unicode/utf8.first", laid_unicode_utf8_first)] }
def ValReadsSaid : Prop := valReadsRow.holds Tryz.pinned (OpenSpec.ofChange valReadsSpec)

/-- ITS FALSE NEIGHBOUR: 'it returns false'. Refute it at one input. -/
def valReadsWrong : ChangeSpec := { name := "valReads", fn := fun _ => fun
  | [d1, d2, d3, d4, d5] => { results := [.lit (.bool false)], args := [d1, d2, d3, d4, d5] }
  | _ => none }
def ValReadsWrongFalsely : Prop := valReadsRow.holds Tryz.pinned (OpenSpec.ofChange valReadsWrong)

/-- 'tabulalaw03.ValBack': WHATEVER THE INPUT: true; the input reads as it did. -/
def valBackSpec : ChangeSpec := { name := "valBack", fn := fun _ => fun
  | [d1, d2] => { results := [.lit (.bool true)], args := [d1, d2] }
  | _ => none }
def valBackRow : OpenClaim := { program := "ytkhohjdakcchdaagreatdoor", sum := "94fbd1eb1802701bacf722b297f815fe2a647e1fc832190b4875b48408b840e1", func := "tabula/tabulalaw03.ValBack", spec := "valBack", inPlace := ["internal/bytealg.IndexByteString", "internal/bytealg.IndexString", "internal/bytealg.CountString", "internal/abi.NoEscape", "internal/bytealg.MakeNoZero", "internal/bytealg.abigen_runtime_cmpstring"], unfollowed := true, recurses := true, named := ["internal/bytealg.MaxLen", "unicode/utf8.first", "unicode/utf8.acceptRanges", "math/bits.divideError", "math/bits.overflowError"], apart := false, laid := [("unicode/utf8.acceptRanges", laid_unicode_utf8_acceptRanges), ("unicode/utf8.first", laid_unicode_utf8_first)] }
def ValBackSaid : Prop := valBackRow.holds Tryz.pinned (OpenSpec.ofChange valBackSpec)

/-- ITS FALSE NEIGHBOUR: 'it returns false'. Refute it at one input. -/
def valBackWrong : ChangeSpec := { name := "valBack", fn := fun _ => fun
  | [d1, d2] => { results := [.lit (.bool false)], args := [d1, d2] }
  | _ => none }
def ValBackWrongFalsely : Prop := valBackRow.holds Tryz.pinned (OpenSpec.ofChange valBackWrong)

/-- 'tabulalaw03.ValOrder': WHATEVER THE INPUT: true; the input reads as it did. -/
def valOrderSpec : ChangeSpec := { name := "valOrder", fn := fun _ => fun
  | [d1, d2, d3, d4, d5] => { results := [.lit (.bool true)], args := [d1, d2, d3, d4, d5] }
  | _ => none }
def valOrderRow : OpenClaim := { program := "ytkhohjdakcchdaagreatdoor", sum := "94fbd1eb1802701bacf722b297f815fe2a647e1fc832190b4875b48408b840e1", func := "tabula/tabulalaw03.ValOrder", spec := "valOrder", inPlace := ["internal/bytealg.IndexByteString", "internal/bytealg.IndexString", "internal/bytealg.CountString", "internal/abi.NoEscape", "internal/bytealg.MakeNoZero", "internal/bytealg.abigen_runtime_cmpstring"], unfollowed := true, recurses := true, named := ["internal/bytealg.MaxLen", "unicode/utf8.first", "unicode/utf8.acceptRanges", "math/bits.divideError", "math/bits.overflowError"], apart := false, laid := [("unicode/utf8.acceptRanges", laid_unicode_utf8_acceptRanges), ("unicode/utf8.first", laid_unicode_utf8_first)] }
def ValOrderSaid : Prop := valOrderRow.holds Tryz.pinned (OpenSpec.ofChange valOrderSpec)

/-- ITS FALSE NEIGHBOUR: 'it returns false'. Refute it at one input. -/
def valOrderWrong : ChangeSpec := { name := "valOrder", fn := fun _ => fun
  | [d1, d2, d3, d4, d5] => { results := [.lit (.bool false)], args := [d1, d2, d3, d4, d5] }
  | _ => none }
def ValOrderWrongFalsely : Prop := valOrderRow.holds Tryz.pinned (OpenSpec.ofChange valOrderWrong)

/-- 'tabulalaw03.ValTwice': WHATEVER THE INPUT: true; the input reads as it did. -/
def valTwiceSpec : ChangeSpec := { name := "valTwice", fn := fun _ => fun
  | [d1, d2, d3] => { results := [.lit (.bool true)], args := [d1, d2, d3] }
  | _ => none }
def valTwiceRow : OpenClaim := { program := "ytkhohjdakcchdaagreatdoor", sum := "94fbd1eb1802701bacf722b297f815fe2a647e1fc832190b4875b48408b840e1", func := "tabula/tabulalaw03.ValTwice", spec := "valTwice", inPlace := ["internal/bytealg.IndexByteString", "internal/bytealg.IndexString", "internal/bytealg.CountString", "internal/abi.NoEscape", "internal/bytealg.MakeNoZero", "internal/bytealg.abigen_runtime_cmpstring"], unfollowed := true, recurses := true, named := ["internal/bytealg.MaxLen", "unicode/utf8.first", "unicode/utf8.acceptRanges", "math/bits.divideError", "math/bits.overflowError"], apart := false, laid := [("unicode/utf8.acceptRanges", laid_unicode_utf8_acceptRanges), ("unicode/utf8.first", laid_unicode_utf8_first)] }
def ValTwiceSaid : Prop := valTwiceRow.holds Tryz.pinned (OpenSpec.ofChange valTwiceSpec)

/-- ITS FALSE NEIGHBOUR: 'it returns false'. Refute it at one input. -/
def valTwiceWrong : ChangeSpec := { name := "valTwice", fn := fun _ => fun
  | [d1, d2, d3] => { results := [.lit (.bool false)], args := [d1, d2, d3] }
  | _ => none }
def ValTwiceWrongFalsely : Prop := valTwiceRow.holds Tryz.pinned (OpenSpec.ofChange valTwiceWrong)

/-- 'tabulalaw03.ValEach': WHATEVER THE INPUT: true; the input reads as it did. -/
def valEachSpec : ChangeSpec := { name := "valEach", fn := fun _ => fun
  | [d1, d2, d3, d4] => { results := [.lit (.bool true)], args := [d1, d2, d3, d4] }
  | _ => none }
def valEachRow : OpenClaim := { program := "ytkhohjdakcchdaagreatdoor", sum := "94fbd1eb1802701bacf722b297f815fe2a647e1fc832190b4875b48408b840e1", func := "tabula/tabulalaw03.ValEach", spec := "valEach", inPlace := ["internal/bytealg.IndexByteString", "internal/bytealg.IndexString", "internal/bytealg.CountString", "internal/abi.NoEscape", "internal/bytealg.MakeNoZero", "internal/bytealg.abigen_runtime_cmpstring"], unfollowed := true, recurses := true, named := ["internal/bytealg.MaxLen", "unicode/utf8.first", "unicode/utf8.acceptRanges", "math/bits.divideError", "math/bits.overflowError"], apart := false, laid := [("unicode/utf8.acceptRanges", laid_unicode_utf8_acceptRanges), ("unicode/utf8.first", laid_unicode_utf8_first)] }
def ValEachSaid : Prop := valEachRow.holds Tryz.pinned (OpenSpec.ofChange valEachSpec)

/-- ITS FALSE NEIGHBOUR: 'it returns false'. Refute it at one input. -/
def valEachWrong : ChangeSpec := { name := "valEach", fn := fun _ => fun
  | [d1, d2, d3, d4] => { results := [.lit (.bool false)], args := [d1, d2, d3, d4] }
  | _ => none }
def ValEachWrongFalsely : Prop := valEachRow.holds Tryz.pinned (OpenSpec.ofChange valEachWrong)

/-- 'tabulalaw03.ValMade': WHATEVER THE INPUT: true; the input reads as it did. -/
def valMadeSpec : ChangeSpec := { name := "valMade", fn := fun _ => fun
  | [d1, d2, d3, d4] => { results := [.lit (.bool true)], args := [d1, d2, d3, d4] }
  | _ => none }
def valMadeRow : OpenClaim := { program := "ytkhohjdakcchdaagreatdoor", sum := "94fbd1eb1802701bacf722b297f815fe2a647e1fc832190b4875b48408b840e1", func := "tabula/tabulalaw03.ValMade", spec := "valMade", inPlace := ["internal/bytealg.IndexByteString", "internal/bytealg.IndexString", "internal/bytealg.CountString", "internal/abi.NoEscape", "internal/bytealg.MakeNoZero", "internal/bytealg.abigen_runtime_cmpstring"], unfollowed := true, recurses := true, named := ["internal/bytealg.MaxLen", "unicode/utf8.first", "unicode/utf8.acceptRanges", "math/bits.divideError", "math/bits.overflowError"], apart := false, laid := [("unicode/utf8.acceptRanges", laid_unicode_utf8_acceptRanges), ("unicode/utf8.first", laid_unicode_utf8_first)] }
def ValMadeSaid : Prop := valMadeRow.holds Tryz.pinned (OpenSpec.ofChange valMadeSpec)

/-- ITS FALSE NEIGHBOUR: 'it returns false'. Refute it at one input. -/
def valMadeWrong : ChangeSpec := { name := "valMade", fn := fun _ => fun
  | [d1, d2, d3, d4] => { results := [.lit (.bool false)], args := [d1, d2, d3, d4] }
  | _ => none }
def ValMadeWrongFalsely : Prop := valMadeRow.holds Tryz.pinned (OpenSpec.ofChange valMadeWrong)

/-- 'tabulalaw03.ValQuote': WHATEVER THE INPUT: true; the input reads as it did. -/
def valQuoteSpec : ChangeSpec := { name := "valQuote", fn := fun _ => fun
  | [d1, d2] => { results := [.lit (.bool true)], args := [d1, d2] }
  | _ => none }
def valQuoteRow : OpenClaim := { program := "ytkhohjdakcchdaagreatdoor", sum := "94fbd1eb1802701bacf722b297f815fe2a647e1fc832190b4875b48408b840e1", func := "tabula/tabulalaw03.ValQuote", spec := "valQuote", inPlace := ["internal/bytealg.IndexByteString", "internal/bytealg.IndexString", "internal/bytealg.CountString", "internal/abi.NoEscape", "internal/bytealg.MakeNoZero", "internal/bytealg.abigen_runtime_cmpstring"], unfollowed := true, recurses := true, named := ["internal/bytealg.MaxLen", "unicode/utf8.first", "unicode/utf8.acceptRanges", "math/bits.divideError", "math/bits.overflowError"], apart := false, laid := [("unicode/utf8.acceptRanges", laid_unicode_utf8_acceptRanges), ("unicode/utf8.first", laid_unicode_utf8_first)] }
def ValQuoteSaid : Prop := valQuoteRow.holds Tryz.pinned (OpenSpec.ofChange valQuoteSpec)

/-- ITS FALSE NEIGHBOUR: 'it returns false'. Refute it at one input. -/
def valQuoteWrong : ChangeSpec := { name := "valQuote", fn := fun _ => fun
  | [d1, d2] => { results := [.lit (.bool false)], args := [d1, d2] }
  | _ => none }
def ValQuoteWrongFalsely : Prop := valQuoteRow.holds Tryz.pinned (OpenSpec.ofChange valQuoteWrong)

/- THE SECOND FORM. 'bulk': how many values and letters a reading holds, each counted each time it is reached (what is shared counts as often as it is met; a slice's spare places count too). A statement '..UptoSaid' is the law's where the arguments, and the package variables that the reading takes, are together of bulk at most 1048576: NARROWER than '..Said'. Prove '..Said' where nothing that the law and all that it calls make is longer than what came in: it says more and counts as full. Else prove '..UptoSaid'. A law counts once. -/
mutual
def uptoBulk {H : Type} : DataW H → Nat
  | .lit (.string bytes) => bytes.length + 1
  | .lit _ => 1
  | .nil => 1
  | .ptr d => uptoBulk d + 1
  | .slice elems spare => uptoBulkAll elems + uptoBulkAll spare + 1
  | .agg parts => uptoBulkAll parts + 1
  | .iface _ d => uptoBulk d + 1
  | .map entries => uptoBulkEntries entries + 1
  | .held _ => 1
def uptoBulkAll {H : Type} : List (DataW H) → Nat
  | [] => 0
  | d :: r => uptoBulk d + uptoBulkAll r
def uptoBulkEntries {H : Type} : List (Lit × DataW H) → Nat
  | [] => 0
  | x :: r => uptoBulkEntry x + uptoBulkEntries r
def uptoBulkEntry {H : Type} : Lit × DataW H → Nat
  | (.string bytes, d) => bytes.length + uptoBulk d + 1
  | (_, d) => uptoBulk d + 1
 end
def uptoSmall : (H : Type) → List (DataW H) → Bool := fun _ ds => decide (uptoBulkAll ds ≤ 1048576)
def OpenSpec.upto (s : _root_.Go.ChangeSpec) : _root_.Go.OpenSpec := { _root_.Go.OpenSpec.ofChange s with cond := some uptoSmall }

/-- 'tabulalaw03.ValTells', WHERE WHAT IT READS IS OF BULK AT MOST 1048576: true; the input reads as it did. -/
def valTellsUptoRow : OpenClaim := { program := "ytkhohjdakcchdaagreatdoor", sum := "94fbd1eb1802701bacf722b297f815fe2a647e1fc832190b4875b48408b840e1", func := "tabula/tabulalaw03.ValTells", spec := "valTells", inPlace := ["internal/bytealg.IndexByteString", "internal/bytealg.IndexString", "internal/bytealg.CountString", "internal/abi.NoEscape", "internal/bytealg.MakeNoZero", "internal/bytealg.abigen_runtime_cmpstring"], unfollowed := true, recurses := true, named := ["internal/bytealg.MaxLen", "unicode/utf8.first", "unicode/utf8.acceptRanges", "math/bits.divideError", "math/bits.overflowError"], apart := false, laid := [("unicode/utf8.acceptRanges", laid_unicode_utf8_acceptRanges), ("unicode/utf8.first", laid_unicode_utf8_first)], narrowed := true }
def ValTellsUptoSaid : Prop := valTellsUptoRow.holds Tryz.pinned (OpenSpec.upto valTellsSpec)

/-- 'tabulalaw03.ValReads', WHERE WHAT IT READS IS OF BULK AT MOST 1048576: true; the input reads as it did. -/
def valReadsUptoRow : OpenClaim := { program := "ytkhohjdakcchdaagreatdoor", sum := "94fbd1eb1802701bacf722b297f815fe2a647e1fc832190b4875b48408b840e1", func := "tabula/tabulalaw03.ValReads", spec := "valReads", inPlace := ["internal/bytealg.IndexByteString", "internal/bytealg.IndexString", "internal/bytealg.CountString", "internal/abi.NoEscape", "internal/bytealg.MakeNoZero", "internal/bytealg.abigen_runtime_cmpstring"], unfollowed := true, recurses := true, named := ["internal/bytealg.MaxLen", "unicode/utf8.first", "unicode/utf8.acceptRanges", "math/bits.divideError", "math/bits.overflowError"], apart := false, laid := [("unicode/utf8.acceptRanges", laid_unicode_utf8_acceptRanges), ("unicode/utf8.first", laid_unicode_utf8_first)], narrowed := true }
def ValReadsUptoSaid : Prop := valReadsUptoRow.holds Tryz.pinned (OpenSpec.upto valReadsSpec)

/-- 'tabulalaw03.ValBack', WHERE WHAT IT READS IS OF BULK AT MOST 1048576: true; the input reads as it did. -/
def valBackUptoRow : OpenClaim := { program := "ytkhohjdakcchdaagreatdoor", sum := "94fbd1eb1802701bacf722b297f815fe2a647e1fc832190b4875b48408b840e1", func := "tabula/tabulalaw03.ValBack", spec := "valBack", inPlace := ["internal/bytealg.IndexByteString", "internal/bytealg.IndexString", "internal/bytealg.CountString", "internal/abi.NoEscape", "internal/bytealg.MakeNoZero", "internal/bytealg.abigen_runtime_cmpstring"], unfollowed := true, recurses := true, named := ["internal/bytealg.MaxLen", "unicode/utf8.first", "unicode/utf8.acceptRanges", "math/bits.divideError", "math/bits.overflowError"], apart := false, laid := [("unicode/utf8.acceptRanges", laid_unicode_utf8_acceptRanges), ("unicode/utf8.first", laid_unicode_utf8_first)], narrowed := true }
def ValBackUptoSaid : Prop := valBackUptoRow.holds Tryz.pinned (OpenSpec.upto valBackSpec)

/-- 'tabulalaw03.ValOrder', WHERE WHAT IT READS IS OF BULK AT MOST 1048576: true; the input reads as it did. -/
def valOrderUptoRow : OpenClaim := { program := "ytkhohjdakcchdaagreatdoor", sum := "94fbd1eb1802701bacf722b297f815fe2a647e1fc832190b4875b48408b840e1", func := "tabula/tabulalaw03.ValOrder", spec := "valOrder", inPlace := ["internal/bytealg.IndexByteString", "internal/bytealg.IndexString", "internal/bytealg.CountString", "internal/abi.NoEscape", "internal/bytealg.MakeNoZero", "internal/bytealg.abigen_runtime_cmpstring"], unfollowed := true, recurses := true, named := ["internal/bytealg.MaxLen", "unicode/utf8.first", "unicode/utf8.acceptRanges", "math/bits.divideError", "math/bits.overflowError"], apart := false, laid := [("unicode/utf8.acceptRanges", laid_unicode_utf8_acceptRanges), ("unicode/utf8.first", laid_unicode_utf8_first)], narrowed := true }
def ValOrderUptoSaid : Prop := valOrderUptoRow.holds Tryz.pinned (OpenSpec.upto valOrderSpec)

/-- 'tabulalaw03.ValTwice', WHERE WHAT IT READS IS OF BULK AT MOST 1048576: true; the input reads as it did. -/
def valTwiceUptoRow : OpenClaim := { program := "ytkhohjdakcchdaagreatdoor", sum := "94fbd1eb1802701bacf722b297f815fe2a647e1fc832190b4875b48408b840e1", func := "tabula/tabulalaw03.ValTwice", spec := "valTwice", inPlace := ["internal/bytealg.IndexByteString", "internal/bytealg.IndexString", "internal/bytealg.CountString", "internal/abi.NoEscape", "internal/bytealg.MakeNoZero", "internal/bytealg.abigen_runtime_cmpstring"], unfollowed := true, recurses := true, named := ["internal/bytealg.MaxLen", "unicode/utf8.first", "unicode/utf8.acceptRanges", "math/bits.divideError", "math/bits.overflowError"], apart := false, laid := [("unicode/utf8.acceptRanges", laid_unicode_utf8_acceptRanges), ("unicode/utf8.first", laid_unicode_utf8_first)], narrowed := true }
def ValTwiceUptoSaid : Prop := valTwiceUptoRow.holds Tryz.pinned (OpenSpec.upto valTwiceSpec)

/-- 'tabulalaw03.ValEach', WHERE WHAT IT READS IS OF BULK AT MOST 1048576: true; the input reads as it did. -/
def valEachUptoRow : OpenClaim := { program := "ytkhohjdakcchdaagreatdoor", sum := "94fbd1eb1802701bacf722b297f815fe2a647e1fc832190b4875b48408b840e1", func := "tabula/tabulalaw03.ValEach", spec := "valEach", inPlace := ["internal/bytealg.IndexByteString", "internal/bytealg.IndexString", "internal/bytealg.CountString", "internal/abi.NoEscape", "internal/bytealg.MakeNoZero", "internal/bytealg.abigen_runtime_cmpstring"], unfollowed := true, recurses := true, named := ["internal/bytealg.MaxLen", "unicode/utf8.first", "unicode/utf8.acceptRanges", "math/bits.divideError", "math/bits.overflowError"], apart := false, laid := [("unicode/utf8.acceptRanges", laid_unicode_utf8_acceptRanges), ("unicode/utf8.first", laid_unicode_utf8_first)], narrowed := true }
def ValEachUptoSaid : Prop := valEachUptoRow.holds Tryz.pinned (OpenSpec.upto valEachSpec)

/-- 'tabulalaw03.ValMade', WHERE WHAT IT READS IS OF BULK AT MOST 1048576: true; the input reads as it did. -/
def valMadeUptoRow : OpenClaim := { program := "ytkhohjdakcchdaagreatdoor", sum := "94fbd1eb1802701bacf722b297f815fe2a647e1fc832190b4875b48408b840e1", func := "tabula/tabulalaw03.ValMade", spec := "valMade", inPlace := ["internal/bytealg.IndexByteString", "internal/bytealg.IndexString", "internal/bytealg.CountString", "internal/abi.NoEscape", "internal/bytealg.MakeNoZero", "internal/bytealg.abigen_runtime_cmpstring"], unfollowed := true, recurses := true, named := ["internal/bytealg.MaxLen", "unicode/utf8.first", "unicode/utf8.acceptRanges", "math/bits.divideError", "math/bits.overflowError"], apart := false, laid := [("unicode/utf8.acceptRanges", laid_unicode_utf8_acceptRanges), ("unicode/utf8.first", laid_unicode_utf8_first)], narrowed := true }
def ValMadeUptoSaid : Prop := valMadeUptoRow.holds Tryz.pinned (OpenSpec.upto valMadeSpec)

/-- 'tabulalaw03.ValQuote', WHERE WHAT IT READS IS OF BULK AT MOST 1048576: true; the input reads as it did. -/
def valQuoteUptoRow : OpenClaim := { program := "ytkhohjdakcchdaagreatdoor", sum := "94fbd1eb1802701bacf722b297f815fe2a647e1fc832190b4875b48408b840e1", func := "tabula/tabulalaw03.ValQuote", spec := "valQuote", inPlace := ["internal/bytealg.IndexByteString", "internal/bytealg.IndexString", "internal/bytealg.CountString", "internal/abi.NoEscape", "internal/bytealg.MakeNoZero", "internal/bytealg.abigen_runtime_cmpstring"], unfollowed := true, recurses := true, named := ["internal/bytealg.MaxLen", "unicode/utf8.first", "unicode/utf8.acceptRanges", "math/bits.divideError", "math/bits.overflowError"], apart := false, laid := [("unicode/utf8.acceptRanges", laid_unicode_utf8_acceptRanges), ("unicode/utf8.first", laid_unicode_utf8_first)], narrowed := true }
def ValQuoteUptoSaid : Prop := valQuoteUptoRow.holds Tryz.pinned (OpenSpec.upto valQuoteSpec)

end Rows
end Go.Proofs.YtkhohjdakcchdaaGreatDoor
