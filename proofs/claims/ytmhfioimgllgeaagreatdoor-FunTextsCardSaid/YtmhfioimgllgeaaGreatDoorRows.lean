/-
  NARROWER THAN 'FOR EVERY INPUT', by the rows' own cells (each row's printed sentence says how): FunNames: laid · FunRight: laid · FunSums: laid · FunTexts: laid · FunTables: laid · FunLogic: laid · FunFaults: laid · FunDecimals: laid.
  DERIVED. THE GIVEN ROWS OF THIS SEAT. 8 by the template 'for every input the law returns true; each argument reads behind the call as it read before'; 0 by the template 'total and deterministic' (their statements: YtmhfioimgllgeaaGreatDoorTotals.lean).
  GIVEN WITH THE SEED: the statements are not yours to turn. If you find one false, say at which input.
  Laid BY PROGRAM, IN A SANDBOX (cutbox-rows.mjs): the forced cells as the released guide's own fill.sh prints them over the translation f31af43928a2d887… (all of the seat's roots in one cut). By AI agents, Wed Nov 11 2026. No macro, syntax, notation, axiom, sorry.
-/
import Derived.Test.YtmhfioimgllgeaaGreatDoorChecked
import GoSem.PinnedTables
import GoSem.Claim
import GoSem.ClaimJoined
import GoSem.ClaimMapViews
import Derived.JoinedTies
import Derived.KernelRfl
namespace Go.Proofs.YtmhfioimgllgeaaGreatDoor
/- THE CELL 'sum', in the pinned program and in every row, IS THE sha256 OF THE DUMP (.gsa) THAT YtmhfioimgllgeaaGreatDoorProg.lean LOADS. Nothing in Lean hashes anything: it is a label: what it is worth is what the hold of that sum in a sandbox is worth. -/
noncomputable def Tryz.pinned : Pinned := { name := "ytmhfioimgllgeaagreatdoor", sum := "f31af43928a2d887302fb725d9865d735391d2e16f74a672df01de3c87c3d2ce", checked := Tryz.checked }
namespace Rows
def none {H : Type} : Left H := { results := [], args := [] }

/- WHAT THE LISTED PACKAGE-LEVEL VARIABLES READ AS WHEN THE CALL BEGINS. Each datum BY PROGRAM (the guide's laid-datum.mjs) off the statement by which the dump's own 'gosem.cut.vars' lays the variable. In a bare row this is a premise. The card (YtmhfioimgllgeaaGreatDoorCards.lean) ties it to the program's text. -/
def laid_unicode_utf8_acceptRanges {H : Type} : DataW H := .agg [.agg [.lit (.int .u8 128), .lit (.int .u8 191)], .agg [.lit (.int .u8 160), .lit (.int .u8 191)], .agg [.lit (.int .u8 128), .lit (.int .u8 159)], .agg [.lit (.int .u8 144), .lit (.int .u8 191)], .agg [.lit (.int .u8 128), .lit (.int .u8 143)], .agg [.lit (.int .u8 0), .lit (.int .u8 0)], .agg [.lit (.int .u8 0), .lit (.int .u8 0)], .agg [.lit (.int .u8 0), .lit (.int .u8 0)], .agg [.lit (.int .u8 0), .lit (.int .u8 0)], .agg [.lit (.int .u8 0), .lit (.int .u8 0)], .agg [.lit (.int .u8 0), .lit (.int .u8 0)], .agg [.lit (.int .u8 0), .lit (.int .u8 0)], .agg [.lit (.int .u8 0), .lit (.int .u8 0)], .agg [.lit (.int .u8 0), .lit (.int .u8 0)], .agg [.lit (.int .u8 0), .lit (.int .u8 0)], .agg [.lit (.int .u8 0), .lit (.int .u8 0)]]
/-- One of Go's own tables, pinned by name: the form's constant. -/
def laid_unicode_utf8_first : DataW Unit := Go.Pinned.utf8First

/-- 'tabulalaw07.FunNames': WHATEVER THE INPUT: true; the input reads as it did. -/
def funNamesSpec : ChangeSpec := { name := "funNames", fn := fun _ => fun
  | [d] => { results := [.lit (.bool true)], args := [d] }
  | _ => none }
def funNamesRow : OpenClaim := { program := "ytmhfioimgllgeaagreatdoor", sum := "f31af43928a2d887302fb725d9865d735391d2e16f74a672df01de3c87c3d2ce", func := "tabula/tabulalaw07.FunNames", spec := "funNames", inPlace := ["internal/abi.NoEscape", "internal/bytealg.MakeNoZero", "internal/bytealg.IndexByteString", "internal/bytealg.IndexString", "internal/bytealg.CountString", "internal/bytealg.abigen_runtime_cmpstring"], unfollowed := true, recurses := true, named := ["math/bits.divideError", "math/bits.overflowError", "unicode/utf8.first", "unicode/utf8.acceptRanges", "internal/bytealg.MaxLen"], apart := false, laid := [("unicode/utf8.acceptRanges", laid_unicode_utf8_acceptRanges), ("unicode/utf8.first", laid_unicode_utf8_first)] }
def FunNamesSaid : Prop := funNamesRow.holds Tryz.pinned (OpenSpec.ofChange funNamesSpec)

/-- ITS FALSE NEIGHBOUR: 'it returns false'. Refute it at one input. -/
def funNamesWrong : ChangeSpec := { name := "funNames", fn := fun _ => fun
  | [d] => { results := [.lit (.bool false)], args := [d] }
  | _ => none }
def FunNamesWrongFalsely : Prop := funNamesRow.holds Tryz.pinned (OpenSpec.ofChange funNamesWrong)

/-- 'tabulalaw07.FunRight': WHATEVER THE INPUT: true; the input reads as it did. -/
def funRightSpec : ChangeSpec := { name := "funRight", fn := fun _ => fun
  | [d1, d2] => { results := [.lit (.bool true)], args := [d1, d2] }
  | _ => none }
def funRightRow : OpenClaim := { program := "ytmhfioimgllgeaagreatdoor", sum := "f31af43928a2d887302fb725d9865d735391d2e16f74a672df01de3c87c3d2ce", func := "tabula/tabulalaw07.FunRight", spec := "funRight", inPlace := ["internal/abi.NoEscape", "internal/bytealg.MakeNoZero", "internal/bytealg.IndexByteString", "internal/bytealg.IndexString", "internal/bytealg.CountString", "internal/bytealg.abigen_runtime_cmpstring"], unfollowed := true, recurses := true, named := ["math/bits.divideError", "math/bits.overflowError", "unicode/utf8.first", "unicode/utf8.acceptRanges", "internal/bytealg.MaxLen"], apart := false, laid := [("unicode/utf8.acceptRanges", laid_unicode_utf8_acceptRanges), ("unicode/utf8.first", laid_unicode_utf8_first)] }
def FunRightSaid : Prop := funRightRow.holds Tryz.pinned (OpenSpec.ofChange funRightSpec)

/-- ITS FALSE NEIGHBOUR: 'it returns false'. Refute it at one input. -/
def funRightWrong : ChangeSpec := { name := "funRight", fn := fun _ => fun
  | [d1, d2] => { results := [.lit (.bool false)], args := [d1, d2] }
  | _ => none }
def FunRightWrongFalsely : Prop := funRightRow.holds Tryz.pinned (OpenSpec.ofChange funRightWrong)

/-- 'tabulalaw07.FunSums': WHATEVER THE INPUT: true; the input reads as it did. -/
def funSumsSpec : ChangeSpec := { name := "funSums", fn := fun _ => fun
  | [d1, d2] => { results := [.lit (.bool true)], args := [d1, d2] }
  | _ => none }
def funSumsRow : OpenClaim := { program := "ytmhfioimgllgeaagreatdoor", sum := "f31af43928a2d887302fb725d9865d735391d2e16f74a672df01de3c87c3d2ce", func := "tabula/tabulalaw07.FunSums", spec := "funSums", inPlace := ["internal/abi.NoEscape", "internal/bytealg.MakeNoZero", "internal/bytealg.IndexByteString", "internal/bytealg.IndexString", "internal/bytealg.CountString", "internal/bytealg.abigen_runtime_cmpstring"], unfollowed := true, recurses := true, named := ["math/bits.divideError", "math/bits.overflowError", "unicode/utf8.first", "unicode/utf8.acceptRanges", "internal/bytealg.MaxLen"], apart := false, laid := [("unicode/utf8.acceptRanges", laid_unicode_utf8_acceptRanges), ("unicode/utf8.first", laid_unicode_utf8_first)] }
def FunSumsSaid : Prop := funSumsRow.holds Tryz.pinned (OpenSpec.ofChange funSumsSpec)

/-- ITS FALSE NEIGHBOUR: 'it returns false'. Refute it at one input. -/
def funSumsWrong : ChangeSpec := { name := "funSums", fn := fun _ => fun
  | [d1, d2] => { results := [.lit (.bool false)], args := [d1, d2] }
  | _ => none }
def FunSumsWrongFalsely : Prop := funSumsRow.holds Tryz.pinned (OpenSpec.ofChange funSumsWrong)

/-- 'tabulalaw07.FunTexts': WHATEVER THE INPUT: true; the input reads as it did. -/
def funTextsSpec : ChangeSpec := { name := "funTexts", fn := fun _ => fun
  | [d1, d2, d3] => { results := [.lit (.bool true)], args := [d1, d2, d3] }
  | _ => none }
def funTextsRow : OpenClaim := { program := "ytmhfioimgllgeaagreatdoor", sum := "f31af43928a2d887302fb725d9865d735391d2e16f74a672df01de3c87c3d2ce", func := "tabula/tabulalaw07.FunTexts", spec := "funTexts", inPlace := ["internal/abi.NoEscape", "internal/bytealg.MakeNoZero", "internal/bytealg.IndexByteString", "internal/bytealg.IndexString", "internal/bytealg.CountString", "internal/bytealg.abigen_runtime_cmpstring"], unfollowed := true, recurses := true, named := ["math/bits.divideError", "math/bits.overflowError", "unicode/utf8.first", "unicode/utf8.acceptRanges", "internal/bytealg.MaxLen"], apart := false, laid := [("unicode/utf8.acceptRanges", laid_unicode_utf8_acceptRanges), ("unicode/utf8.first", laid_unicode_utf8_first)] }
def FunTextsSaid : Prop := funTextsRow.holds Tryz.pinned (OpenSpec.ofChange funTextsSpec)

/-- ITS FALSE NEIGHBOUR: 'it returns false'. Refute it at one input. -/
def funTextsWrong : ChangeSpec := { name := "funTexts", fn := fun _ => fun
  | [d1, d2, d3] => { results := [.lit (.bool false)], args := [d1, d2, d3] }
  | _ => none }
def FunTextsWrongFalsely : Prop := funTextsRow.holds Tryz.pinned (OpenSpec.ofChange funTextsWrong)

/-- 'tabulalaw07.FunTables': WHATEVER THE INPUT: true; the input reads as it did. -/
def funTablesSpec : ChangeSpec := { name := "funTables", fn := fun _ => fun
  | [d1, d2, d3, d4, d5] => { results := [.lit (.bool true)], args := [d1, d2, d3, d4, d5] }
  | _ => none }
def funTablesRow : OpenClaim := { program := "ytmhfioimgllgeaagreatdoor", sum := "f31af43928a2d887302fb725d9865d735391d2e16f74a672df01de3c87c3d2ce", func := "tabula/tabulalaw07.FunTables", spec := "funTables", inPlace := ["internal/abi.NoEscape", "internal/bytealg.MakeNoZero", "internal/bytealg.IndexByteString", "internal/bytealg.IndexString", "internal/bytealg.CountString", "internal/bytealg.abigen_runtime_cmpstring"], unfollowed := true, recurses := true, named := ["math/bits.divideError", "math/bits.overflowError", "unicode/utf8.first", "unicode/utf8.acceptRanges", "internal/bytealg.MaxLen"], apart := false, laid := [("unicode/utf8.acceptRanges", laid_unicode_utf8_acceptRanges), ("unicode/utf8.first", laid_unicode_utf8_first)] }
def FunTablesSaid : Prop := funTablesRow.holds Tryz.pinned (OpenSpec.ofChange funTablesSpec)

/-- ITS FALSE NEIGHBOUR: 'it returns false'. Refute it at one input. -/
def funTablesWrong : ChangeSpec := { name := "funTables", fn := fun _ => fun
  | [d1, d2, d3, d4, d5] => { results := [.lit (.bool false)], args := [d1, d2, d3, d4, d5] }
  | _ => none }
def FunTablesWrongFalsely : Prop := funTablesRow.holds Tryz.pinned (OpenSpec.ofChange funTablesWrong)

/-- 'tabulalaw07.FunLogic': WHATEVER THE INPUT: true; the input reads as it did. -/
def funLogicSpec : ChangeSpec := { name := "funLogic", fn := fun _ => fun
  | [d1, d2, d3] => { results := [.lit (.bool true)], args := [d1, d2, d3] }
  | _ => none }
def funLogicRow : OpenClaim := { program := "ytmhfioimgllgeaagreatdoor", sum := "f31af43928a2d887302fb725d9865d735391d2e16f74a672df01de3c87c3d2ce", func := "tabula/tabulalaw07.FunLogic", spec := "funLogic", inPlace := ["internal/abi.NoEscape", "internal/bytealg.MakeNoZero", "internal/bytealg.IndexByteString", "internal/bytealg.IndexString", "internal/bytealg.CountString", "internal/bytealg.abigen_runtime_cmpstring"], unfollowed := true, recurses := true, named := ["math/bits.divideError", "math/bits.overflowError", "unicode/utf8.first", "unicode/utf8.acceptRanges", "internal/bytealg.MaxLen"], apart := false, laid := [("unicode/utf8.acceptRanges", laid_unicode_utf8_acceptRanges), ("unicode/utf8.first", laid_unicode_utf8_first)] }
def FunLogicSaid : Prop := funLogicRow.holds Tryz.pinned (OpenSpec.ofChange funLogicSpec)

/-- ITS FALSE NEIGHBOUR: 'it returns false'. Refute it at one input. -/
def funLogicWrong : ChangeSpec := { name := "funLogic", fn := fun _ => fun
  | [d1, d2, d3] => { results := [.lit (.bool false)], args := [d1, d2, d3] }
  | _ => none }
def FunLogicWrongFalsely : Prop := funLogicRow.holds Tryz.pinned (OpenSpec.ofChange funLogicWrong)

/-- 'tabulalaw07.FunFaults': WHATEVER THE INPUT: true; the input reads as it did. -/
def funFaultsSpec : ChangeSpec := { name := "funFaults", fn := fun _ => fun
  | [d1, d2, d3] => { results := [.lit (.bool true)], args := [d1, d2, d3] }
  | _ => none }
def funFaultsRow : OpenClaim := { program := "ytmhfioimgllgeaagreatdoor", sum := "f31af43928a2d887302fb725d9865d735391d2e16f74a672df01de3c87c3d2ce", func := "tabula/tabulalaw07.FunFaults", spec := "funFaults", inPlace := ["internal/abi.NoEscape", "internal/bytealg.MakeNoZero", "internal/bytealg.IndexByteString", "internal/bytealg.IndexString", "internal/bytealg.CountString", "internal/bytealg.abigen_runtime_cmpstring"], unfollowed := true, recurses := true, named := ["math/bits.divideError", "math/bits.overflowError", "unicode/utf8.first", "unicode/utf8.acceptRanges", "internal/bytealg.MaxLen"], apart := false, laid := [("unicode/utf8.acceptRanges", laid_unicode_utf8_acceptRanges), ("unicode/utf8.first", laid_unicode_utf8_first)] }
def FunFaultsSaid : Prop := funFaultsRow.holds Tryz.pinned (OpenSpec.ofChange funFaultsSpec)

/-- ITS FALSE NEIGHBOUR: 'it returns false'. Refute it at one input. -/
def funFaultsWrong : ChangeSpec := { name := "funFaults", fn := fun _ => fun
  | [d1, d2, d3] => { results := [.lit (.bool false)], args := [d1, d2, d3] }
  | _ => none }
def FunFaultsWrongFalsely : Prop := funFaultsRow.holds Tryz.pinned (OpenSpec.ofChange funFaultsWrong)

/-- 'tabulalaw07.FunDecimals': WHATEVER THE INPUT: true; the input reads as it did. -/
def funDecimalsSpec : ChangeSpec := { name := "funDecimals", fn := fun _ => fun
  | [d1, d2, d3] => { results := [.lit (.bool true)], args := [d1, d2, d3] }
  | _ => none }
def funDecimalsRow : OpenClaim := { program := "ytmhfioimgllgeaagreatdoor", sum := "f31af43928a2d887302fb725d9865d735391d2e16f74a672df01de3c87c3d2ce", func := "tabula/tabulalaw07.FunDecimals", spec := "funDecimals", inPlace := ["internal/abi.NoEscape", "internal/bytealg.MakeNoZero", "internal/bytealg.IndexByteString", "internal/bytealg.IndexString", "internal/bytealg.CountString", "internal/bytealg.abigen_runtime_cmpstring"], unfollowed := true, recurses := true, named := ["math/bits.divideError", "math/bits.overflowError", "unicode/utf8.first", "unicode/utf8.acceptRanges", "internal/bytealg.MaxLen"], apart := false, laid := [("unicode/utf8.acceptRanges", laid_unicode_utf8_acceptRanges), ("unicode/utf8.first", laid_unicode_utf8_first)] }
def FunDecimalsSaid : Prop := funDecimalsRow.holds Tryz.pinned (OpenSpec.ofChange funDecimalsSpec)

/-- ITS FALSE NEIGHBOUR: 'it returns false'. Refute it at one input. -/
def funDecimalsWrong : ChangeSpec := { name := "funDecimals", fn := fun _ => fun
  | [d1, d2, d3] => { results := [.lit (.bool false)], args := [d1, d2, d3] }
  | _ => none }
def FunDecimalsWrongFalsely : Prop := funDecimalsRow.holds Tryz.pinned (OpenSpec.ofChange funDecimalsWrong)

/- THE SECOND FORM. 'bulk': how many values and letters a reading holds, each counted each time it is reached (what is shared counts as often as it is met; a slice's spare places count too). A statement '..UptoSaid' is the law's where the arguments, and the package variables that the reading takes, are together of bulk at most 1048576: NARROWER than '..Said'. Prove '..Said' where nothing that the law and all that it calls make is longer than what came in: it says more and counts as full. Else prove '..UptoSaid'. A law counts once. -/
mutual
def uptoBulk {H : Type} : DataW H → Nat
  | .lit (.string bytes) => bytes.length + 1
  | .lit _ => 1
  | .nil => 1
  | .ptr d => uptoBulk d + 1
  | .slice elems spare => uptoBulkAll elems + uptoBulkAll spare + 1
  | .agg parts => uptoBulkAll parts + 1
  | .iface _ d => uptoBulk d + 1
  | .map entries => uptoBulkEntries entries + 1
  | .held _ => 1
def uptoBulkAll {H : Type} : List (DataW H) → Nat
  | [] => 0
  | d :: r => uptoBulk d + uptoBulkAll r
def uptoBulkEntries {H : Type} : List (Lit × DataW H) → Nat
  | [] => 0
  | x :: r => uptoBulkEntry x + uptoBulkEntries r
def uptoBulkEntry {H : Type} : Lit × DataW H → Nat
  | (.string bytes, d) => bytes.length + uptoBulk d + 1
  | (_, d) => uptoBulk d + 1
 end
def uptoSmall : (H : Type) → List (DataW H) → Bool := fun _ ds => decide (uptoBulkAll ds ≤ 1048576)
def OpenSpec.upto (s : _root_.Go.ChangeSpec) : _root_.Go.OpenSpec := { _root_.Go.OpenSpec.ofChange s with cond := some uptoSmall }

/-- 'tabulalaw07.FunNames', WHERE WHAT IT READS IS OF BULK AT MOST 1048576: true; the input reads as it did. -/
def funNamesUptoRow : OpenClaim := { program := "ytmhfioimgllgeaagreatdoor", sum := "f31af43928a2d887302fb725d9865d735391d2e16f74a672df01de3c87c3d2ce", func := "tabula/tabulalaw07.FunNames", spec := "funNames", inPlace := ["internal/abi.NoEscape", "internal/bytealg.MakeNoZero", "internal/bytealg.IndexByteString", "internal/bytealg.IndexString", "internal/bytealg.CountString", "internal/bytealg.abigen_runtime_cmpstring"], unfollowed := true, recurses := true, named := ["math/bits.divideError", "math/bits.overflowError", "unicode/utf8.first", "unicode/utf8.acceptRanges", "internal/bytealg.MaxLen"], apart := false, laid := [("unicode/utf8.acceptRanges", laid_unicode_utf8_acceptRanges), ("unicode/utf8.first", laid_unicode_utf8_first)], narrowed := true }
def FunNamesUptoSaid : Prop := funNamesUptoRow.holds Tryz.pinned (OpenSpec.upto funNamesSpec)

/-- 'tabulalaw07.FunRight', WHERE WHAT IT READS IS OF BULK AT MOST 1048576: true; the input reads as it did. -/
def funRightUptoRow : OpenClaim := { program := "ytmhfioimgllgeaagreatdoor", sum := "f31af43928a2d887302fb725d9865d735391d2e16f74a672df01de3c87c3d2ce", func := "tabula/tabulalaw07.FunRight", spec := "funRight", inPlace := ["internal/abi.NoEscape", "internal/bytealg.MakeNoZero", "internal/bytealg.IndexByteString", "internal/bytealg.IndexString", "internal/bytealg.CountString", "internal/bytealg.abigen_runtime_cmpstring"], unfollowed := true, recurses := true, named := ["math/bits.divideError", "math/bits.overflowError", "unicode/utf8.first", "unicode/utf8.acceptRanges", "internal/bytealg.MaxLen"], apart := false, laid := [("unicode/utf8.acceptRanges", laid_unicode_utf8_acceptRanges), ("unicode/utf8.first", laid_unicode_utf8_first)], narrowed := true }
def FunRightUptoSaid : Prop := funRightUptoRow.holds Tryz.pinned (OpenSpec.upto funRightSpec)

/-- 'tabulalaw07.FunSums', WHERE WHAT IT READS IS OF BULK AT MOST 1048576: true; the input reads as it did. -/
def funSumsUptoRow : OpenClaim := { program := "ytmhfioimgllgeaagreatdoor", sum := "f31af43928a2d887302fb725d9865d735391d2e16f74a672df01de3c87c3d2ce", func := "tabula/tabulalaw07.FunSums", spec := "funSums", inPlace := ["internal/abi.NoEscape", "internal/bytealg.MakeNoZero", "internal/bytealg.IndexByteString", "internal/bytealg.IndexString", "internal/bytealg.CountString", "internal/bytealg.abigen_runtime_cmpstring"], unfollowed := true, recurses := true, named := ["math/bits.divideError", "math/bits.overflowError", "unicode/utf8.first", "unicode/utf8.acceptRanges", "internal/bytealg.MaxLen"], apart := false, laid := [("unicode/utf8.acceptRanges", laid_unicode_utf8_acceptRanges), ("unicode/utf8.first", laid_unicode_utf8_first)], narrowed := true }
def FunSumsUptoSaid : Prop := funSumsUptoRow.holds Tryz.pinned (OpenSpec.upto funSumsSpec)

/-- 'tabulalaw07.FunTexts', WHERE WHAT IT READS IS OF BULK AT MOST 1048576: true; the input reads as it did. -/
def funTextsUptoRow : OpenClaim := { program := "ytmhfioimgllgeaagreatdoor", sum := "f31af43928a2d887302fb725d9865d735391d2e16f74a672df01de3c87c3d2ce", func := "tabula/tabulalaw07.FunTexts", spec := "funTexts", inPlace := ["internal/abi.NoEscape", "internal/bytealg.MakeNoZero", "internal/bytealg.IndexByteString", "internal/bytealg.IndexString", "internal/bytealg.CountString", "internal/bytealg.abigen_runtime_cmpstring"], unfollowed := true, recurses := true, named := ["math/bits.divideError", "math/bits.overflowError", "unicode/utf8.first", "unicode/utf8.acceptRanges", "internal/bytealg.MaxLen"], apart := false, laid := [("unicode/utf8.acceptRanges", laid_unicode_utf8_acceptRanges), ("unicode/utf8.first", laid_unicode_utf8_first)], narrowed := true }
def FunTextsUptoSaid : Prop := funTextsUptoRow.holds Tryz.pinned (OpenSpec.upto funTextsSpec)

/-- 'tabulalaw07.FunTables', WHERE WHAT IT READS IS OF BULK AT MOST 1048576: true; the input reads as it did. -/
def funTablesUptoRow : OpenClaim := { program := "ytmhfioimgllgeaagreatdoor", sum := "f31af43928a2d887302fb725d9865d735391d2e16f74a672df01de3c87c3d2ce", func := "tabula/tabulalaw07.FunTables", spec := "funTables", inPlace := ["internal/abi.NoEscape", "internal/bytealg.MakeNoZero", "internal/bytealg.IndexByteString", "internal/bytealg.IndexString", "internal/bytealg.CountString", "internal/bytealg.abigen_runtime_cmpstring"], unfollowed := true, recurses := true, named := ["math/bits.divideError", "math/bits.overflowError", "unicode/utf8.first", "unicode/utf8.acceptRanges", "internal/bytealg.MaxLen"], apart := false, laid := [("unicode/utf8.acceptRanges", laid_unicode_utf8_acceptRanges), ("unicode/utf8.first", laid_unicode_utf8_first)], narrowed := true }
def FunTablesUptoSaid : Prop := funTablesUptoRow.holds Tryz.pinned (OpenSpec.upto funTablesSpec)

/-- 'tabulalaw07.FunLogic', WHERE WHAT IT READS IS OF BULK AT MOST 1048576: true; the input reads as it did. -/
def funLogicUptoRow : OpenClaim := { program := "ytmhfioimgllgeaagreatdoor", sum := "f31af43928a2d887302fb725d9865d735391d2e16f74a672df01de3c87c3d2ce", func := "tabula/tabulalaw07.FunLogic", spec := "funLogic", inPlace := ["internal/abi.NoEscape", "internal/bytealg.MakeNoZero", "internal/bytealg.IndexByteString", "internal/bytealg.IndexString", "internal/bytealg.CountString", "internal/bytealg.abigen_runtime_cmpstring"], unfollowed := true, recurses := true, named := ["math/bits.divideError", "math/bits.overflowError", "unicode/utf8.first", "unicode/utf8.acceptRanges", "internal/bytealg.MaxLen"], apart := false, laid := [("unicode/utf8.acceptRanges", laid_unicode_utf8_acceptRanges), ("unicode/utf8.first", laid_unicode_utf8_first)], narrowed := true }
def FunLogicUptoSaid : Prop := funLogicUptoRow.holds Tryz.pinned (OpenSpec.upto funLogicSpec)

/-- 'tabulalaw07.FunFaults', WHERE WHAT IT READS IS OF BULK AT MOST 1048576: true; the input reads as it did. -/
def funFaultsUptoRow : OpenClaim := { program := "ytmhfioimgllgeaagreatdoor", sum := "f31af43928a2d887302fb725d9865d735391d2e16f74a672df01de3c87c3d2ce", func := "tabula/tabulalaw07.FunFaults", spec := "funFaults", inPlace := ["internal/abi.NoEscape", "internal/bytealg.MakeNoZero", "internal/bytealg.IndexByteString", "internal/bytealg.IndexString", "internal/bytealg.CountString", "internal/bytealg.abigen_runtime_cmpstring"], unfollowed := true, recurses := true, named := ["math/bits.divideError", "math/bits.overflowError", "unicode/utf8.first", "unicode/utf8.acceptRanges", "internal/bytealg.MaxLen"], apart := false, laid := [("unicode/utf8.acceptRanges", laid_unicode_utf8_acceptRanges), ("unicode/utf8.first", laid_unicode_utf8_first)], narrowed := true }
def FunFaultsUptoSaid : Prop := funFaultsUptoRow.holds Tryz.pinned (OpenSpec.upto funFaultsSpec)

/-- 'tabulalaw07.FunDecimals', WHERE WHAT IT READS IS OF BULK AT MOST 1048576: true; the input reads as it did. -/
def funDecimalsUptoRow : OpenClaim := { program := "ytmhfioimgllgeaagreatdoor", sum := "f31af43928a2d887302fb725d9865d735391d2e16f74a672df01de3c87c3d2ce", func := "tabula/tabulalaw07.FunDecimals", spec := "funDecimals", inPlace := ["internal/abi.NoEscape", "internal/bytealg.MakeNoZero", "internal/bytealg.IndexByteString", "internal/bytealg.IndexString", "internal/bytealg.CountString", "internal/bytealg.abigen_runtime_cmpstring"], unfollowed := true, recurses := true, named := ["math/bits.divideError", "math/bits.overflowError", "unicode/utf8.first", "unicode/utf8.acceptRanges", "internal/bytealg.MaxLen"], apart := false, laid := [("unicode/utf8.acceptRanges", laid_unicode_utf8_acceptRanges), ("unicode/utf8.first", laid_unicode_utf8_first)], narrowed := true }
def FunDecimalsUptoSaid : Prop := funDecimalsUptoRow.holds Tryz.pinned (OpenSpec.upto funDecimalsSpec)

end Rows
end Go.Proofs.YtmhfioimgllgeaaGreatDoor
