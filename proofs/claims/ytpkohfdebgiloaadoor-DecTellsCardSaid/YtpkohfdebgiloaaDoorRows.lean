/-
  NARROWER THAN 'FOR EVERY INPUT', by the rows' own cells (each row's printed sentence says how): DecTells: laid · DecPowers: laid · DecTurns: laid · DecWhole: laid · DecOrder: laid · DecNear: laid · DecRounds: laid · DecFloors: laid · DecText: laid.
  DERIVED. THE GIVEN ROWS OF THIS SEAT. 9 by the template 'for every input the law returns true; each argument reads behind the call as it read before'; 0 by the template 'total and deterministic' (their statements: YtpkohfdebgiloaaDoorTotals.lean).
  GIVEN WITH THE SEED: the statements are not yours to turn. If you find one false, say at which input.
  Laid BY PROGRAM, IN A SANDBOX (cutbox-rows.mjs): the forced cells as the released guide's own fill.sh prints them over the translation 2de539c6fcbe67a4… (all of the seat's roots in one cut). By AI agents, Wed Nov 11 2026. No macro, syntax, notation, axiom, sorry.
-/
import Derived.Test.YtpkohfdebgiloaaDoorChecked
import GoSem.PinnedTables
import GoSem.Claim
import GoSem.ClaimJoined
import GoSem.ClaimMapViews
import Derived.JoinedTies
import Derived.KernelRfl
namespace Go.Proofs.YtpkohfdebgiloaaDoor
/- THE CELL 'sum', in the pinned program and in every row, IS THE sha256 OF THE DUMP (.gsa) THAT YtpkohfdebgiloaaDoorProg.lean LOADS. Nothing in Lean hashes anything: it is a label: what it is worth is what the hold of that sum in a sandbox is worth. -/
noncomputable def Tryd.pinned : Pinned := { name := "ytpkohfdebgiloaadoor", sum := "2de539c6fcbe67a4a135ee4e230753d955acce892e7142976e5042e61582e2e8", checked := Tryd.checked }
namespace Rows
def none {H : Type} : Left H := { results := [], args := [] }

/- WHAT THE LISTED PACKAGE-LEVEL VARIABLES READ AS WHEN THE CALL BEGINS. Each datum BY PROGRAM (the guide's laid-datum.mjs) off the statement by which the dump's own 'gosem.cut.vars' lays the variable. In a bare row this is a premise. The card (YtpkohfdebgiloaaDoorCards.lean) ties it to the program's text. -/
def laid_unicode_utf8_acceptRanges {H : Type} : DataW H := .agg [.agg [.lit (.int .u8 128), .lit (.int .u8 191)], .agg [.lit (.int .u8 160), .lit (.int .u8 191)], .agg [.lit (.int .u8 128), .lit (.int .u8 159)], .agg [.lit (.int .u8 144), .lit (.int .u8 191)], .agg [.lit (.int .u8 128), .lit (.int .u8 143)], .agg [.lit (.int .u8 0), .lit (.int .u8 0)], .agg [.lit (.int .u8 0), .lit (.int .u8 0)], .agg [.lit (.int .u8 0), .lit (.int .u8 0)], .agg [.lit (.int .u8 0), .lit (.int .u8 0)], .agg [.lit (.int .u8 0), .lit (.int .u8 0)], .agg [.lit (.int .u8 0), .lit (.int .u8 0)], .agg [.lit (.int .u8 0), .lit (.int .u8 0)], .agg [.lit (.int .u8 0), .lit (.int .u8 0)], .agg [.lit (.int .u8 0), .lit (.int .u8 0)], .agg [.lit (.int .u8 0), .lit (.int .u8 0)], .agg [.lit (.int .u8 0), .lit (.int .u8 0)]]
/-- One of Go's own tables, pinned by name: the form's constant. -/
def laid_unicode_utf8_first : DataW Unit := Go.Pinned.utf8First

/-- 'tabulalaw01.DecTells': WHATEVER THE INPUT: true; the input reads as it did. -/
def decTellsSpec : ChangeSpec := { name := "decTells", fn := fun _ => fun
  | [d1, d2, d3, d4] => { results := [.lit (.bool true)], args := [d1, d2, d3, d4] }
  | _ => none }
def decTellsRow : OpenClaim := { program := "ytpkohfdebgiloaadoor", sum := "2de539c6fcbe67a4a135ee4e230753d955acce892e7142976e5042e61582e2e8", func := "tabula/tabulalaw01.DecTells", spec := "decTells", inPlace := ["internal/abi.NoEscape", "internal/bytealg.IndexByteString", "internal/bytealg.IndexString"], unfollowed := true, recurses := true, named := ["math/bits.divideError", "math/bits.overflowError", "internal/bytealg.MaxLen", "unicode/utf8.first", "unicode/utf8.acceptRanges"], apart := false, laid := [("unicode/utf8.acceptRanges", laid_unicode_utf8_acceptRanges), ("unicode/utf8.first", laid_unicode_utf8_first)] }
def DecTellsSaid : Prop := decTellsRow.holds Tryd.pinned (OpenSpec.ofChange decTellsSpec)

/-- ITS FALSE NEIGHBOUR: 'it returns false'. Refute it at one input. -/
def decTellsWrong : ChangeSpec := { name := "decTells", fn := fun _ => fun
  | [d1, d2, d3, d4] => { results := [.lit (.bool false)], args := [d1, d2, d3, d4] }
  | _ => none }
def DecTellsWrongFalsely : Prop := decTellsRow.holds Tryd.pinned (OpenSpec.ofChange decTellsWrong)

/-- 'tabulalaw01.DecPowers': WHATEVER THE INPUT: true; the input reads as it did. -/
def decPowersSpec : ChangeSpec := { name := "decPowers", fn := fun _ => fun
  | [d1, d2] => { results := [.lit (.bool true)], args := [d1, d2] }
  | _ => none }
def decPowersRow : OpenClaim := { program := "ytpkohfdebgiloaadoor", sum := "2de539c6fcbe67a4a135ee4e230753d955acce892e7142976e5042e61582e2e8", func := "tabula/tabulalaw01.DecPowers", spec := "decPowers", inPlace := ["internal/abi.NoEscape", "internal/bytealg.IndexByteString", "internal/bytealg.IndexString"], unfollowed := true, recurses := true, named := ["math/bits.divideError", "math/bits.overflowError", "internal/bytealg.MaxLen", "unicode/utf8.first", "unicode/utf8.acceptRanges"], apart := false, laid := [("unicode/utf8.acceptRanges", laid_unicode_utf8_acceptRanges), ("unicode/utf8.first", laid_unicode_utf8_first)] }
def DecPowersSaid : Prop := decPowersRow.holds Tryd.pinned (OpenSpec.ofChange decPowersSpec)

/-- ITS FALSE NEIGHBOUR: 'it returns false'. Refute it at one input. -/
def decPowersWrong : ChangeSpec := { name := "decPowers", fn := fun _ => fun
  | [d1, d2] => { results := [.lit (.bool false)], args := [d1, d2] }
  | _ => none }
def DecPowersWrongFalsely : Prop := decPowersRow.holds Tryd.pinned (OpenSpec.ofChange decPowersWrong)

/-- 'tabulalaw01.DecTurns': WHATEVER THE INPUT: true; the input reads as it did. -/
def decTurnsSpec : ChangeSpec := { name := "decTurns", fn := fun _ => fun
  | [d1, d2] => { results := [.lit (.bool true)], args := [d1, d2] }
  | _ => none }
def decTurnsRow : OpenClaim := { program := "ytpkohfdebgiloaadoor", sum := "2de539c6fcbe67a4a135ee4e230753d955acce892e7142976e5042e61582e2e8", func := "tabula/tabulalaw01.DecTurns", spec := "decTurns", inPlace := ["internal/abi.NoEscape", "internal/bytealg.IndexByteString", "internal/bytealg.IndexString"], unfollowed := true, recurses := true, named := ["math/bits.divideError", "math/bits.overflowError", "internal/bytealg.MaxLen", "unicode/utf8.first", "unicode/utf8.acceptRanges"], apart := false, laid := [("unicode/utf8.acceptRanges", laid_unicode_utf8_acceptRanges), ("unicode/utf8.first", laid_unicode_utf8_first)] }
def DecTurnsSaid : Prop := decTurnsRow.holds Tryd.pinned (OpenSpec.ofChange decTurnsSpec)

/-- ITS FALSE NEIGHBOUR: 'it returns false'. Refute it at one input. -/
def decTurnsWrong : ChangeSpec := { name := "decTurns", fn := fun _ => fun
  | [d1, d2] => { results := [.lit (.bool false)], args := [d1, d2] }
  | _ => none }
def DecTurnsWrongFalsely : Prop := decTurnsRow.holds Tryd.pinned (OpenSpec.ofChange decTurnsWrong)

/-- 'tabulalaw01.DecWhole': WHATEVER THE INPUT: true; the input reads as it did. -/
def decWholeSpec : ChangeSpec := { name := "decWhole", fn := fun _ => fun
  | [d1, d2] => { results := [.lit (.bool true)], args := [d1, d2] }
  | _ => none }
def decWholeRow : OpenClaim := { program := "ytpkohfdebgiloaadoor", sum := "2de539c6fcbe67a4a135ee4e230753d955acce892e7142976e5042e61582e2e8", func := "tabula/tabulalaw01.DecWhole", spec := "decWhole", inPlace := ["internal/abi.NoEscape", "internal/bytealg.IndexByteString", "internal/bytealg.IndexString"], unfollowed := true, recurses := true, named := ["math/bits.divideError", "math/bits.overflowError", "internal/bytealg.MaxLen", "unicode/utf8.first", "unicode/utf8.acceptRanges"], apart := false, laid := [("unicode/utf8.acceptRanges", laid_unicode_utf8_acceptRanges), ("unicode/utf8.first", laid_unicode_utf8_first)] }
def DecWholeSaid : Prop := decWholeRow.holds Tryd.pinned (OpenSpec.ofChange decWholeSpec)

/-- ITS FALSE NEIGHBOUR: 'it returns false'. Refute it at one input. -/
def decWholeWrong : ChangeSpec := { name := "decWhole", fn := fun _ => fun
  | [d1, d2] => { results := [.lit (.bool false)], args := [d1, d2] }
  | _ => none }
def DecWholeWrongFalsely : Prop := decWholeRow.holds Tryd.pinned (OpenSpec.ofChange decWholeWrong)

/-- 'tabulalaw01.DecOrder': WHATEVER THE INPUT: true; the input reads as it did. -/
def decOrderSpec : ChangeSpec := { name := "decOrder", fn := fun _ => fun
  | [d1, d2, d3] => { results := [.lit (.bool true)], args := [d1, d2, d3] }
  | _ => none }
def decOrderRow : OpenClaim := { program := "ytpkohfdebgiloaadoor", sum := "2de539c6fcbe67a4a135ee4e230753d955acce892e7142976e5042e61582e2e8", func := "tabula/tabulalaw01.DecOrder", spec := "decOrder", inPlace := ["internal/abi.NoEscape", "internal/bytealg.IndexByteString", "internal/bytealg.IndexString"], unfollowed := true, recurses := true, named := ["math/bits.divideError", "math/bits.overflowError", "internal/bytealg.MaxLen", "unicode/utf8.first", "unicode/utf8.acceptRanges"], apart := false, laid := [("unicode/utf8.acceptRanges", laid_unicode_utf8_acceptRanges), ("unicode/utf8.first", laid_unicode_utf8_first)] }
def DecOrderSaid : Prop := decOrderRow.holds Tryd.pinned (OpenSpec.ofChange decOrderSpec)

/-- ITS FALSE NEIGHBOUR: 'it returns false'. Refute it at one input. -/
def decOrderWrong : ChangeSpec := { name := "decOrder", fn := fun _ => fun
  | [d1, d2, d3] => { results := [.lit (.bool false)], args := [d1, d2, d3] }
  | _ => none }
def DecOrderWrongFalsely : Prop := decOrderRow.holds Tryd.pinned (OpenSpec.ofChange decOrderWrong)

/-- 'tabulalaw01.DecNear': WHATEVER THE INPUT: true; the input reads as it did. -/
def decNearSpec : ChangeSpec := { name := "decNear", fn := fun _ => fun
  | [d1, d2] => { results := [.lit (.bool true)], args := [d1, d2] }
  | _ => none }
def decNearRow : OpenClaim := { program := "ytpkohfdebgiloaadoor", sum := "2de539c6fcbe67a4a135ee4e230753d955acce892e7142976e5042e61582e2e8", func := "tabula/tabulalaw01.DecNear", spec := "decNear", inPlace := ["internal/abi.NoEscape", "internal/bytealg.IndexByteString", "internal/bytealg.IndexString"], unfollowed := true, recurses := true, named := ["math/bits.divideError", "math/bits.overflowError", "internal/bytealg.MaxLen", "unicode/utf8.first", "unicode/utf8.acceptRanges"], apart := false, laid := [("unicode/utf8.acceptRanges", laid_unicode_utf8_acceptRanges), ("unicode/utf8.first", laid_unicode_utf8_first)] }
def DecNearSaid : Prop := decNearRow.holds Tryd.pinned (OpenSpec.ofChange decNearSpec)

/-- ITS FALSE NEIGHBOUR: 'it returns false'. Refute it at one input. -/
def decNearWrong : ChangeSpec := { name := "decNear", fn := fun _ => fun
  | [d1, d2] => { results := [.lit (.bool false)], args := [d1, d2] }
  | _ => none }
def DecNearWrongFalsely : Prop := decNearRow.holds Tryd.pinned (OpenSpec.ofChange decNearWrong)

/-- 'tabulalaw01.DecRounds': WHATEVER THE INPUT: true; the input reads as it did. -/
def decRoundsSpec : ChangeSpec := { name := "decRounds", fn := fun _ => fun
  | [d1, d2] => { results := [.lit (.bool true)], args := [d1, d2] }
  | _ => none }
def decRoundsRow : OpenClaim := { program := "ytpkohfdebgiloaadoor", sum := "2de539c6fcbe67a4a135ee4e230753d955acce892e7142976e5042e61582e2e8", func := "tabula/tabulalaw01.DecRounds", spec := "decRounds", inPlace := ["internal/abi.NoEscape", "internal/bytealg.IndexByteString", "internal/bytealg.IndexString"], unfollowed := true, recurses := true, named := ["math/bits.divideError", "math/bits.overflowError", "internal/bytealg.MaxLen", "unicode/utf8.first", "unicode/utf8.acceptRanges"], apart := false, laid := [("unicode/utf8.acceptRanges", laid_unicode_utf8_acceptRanges), ("unicode/utf8.first", laid_unicode_utf8_first)] }
def DecRoundsSaid : Prop := decRoundsRow.holds Tryd.pinned (OpenSpec.ofChange decRoundsSpec)

/-- ITS FALSE NEIGHBOUR: 'it returns false'. Refute it at one input. -/
def decRoundsWrong : ChangeSpec := { name := "decRounds", fn := fun _ => fun
  | [d1, d2] => { results := [.lit (.bool false)], args := [d1, d2] }
  | _ => none }
def DecRoundsWrongFalsely : Prop := decRoundsRow.holds Tryd.pinned (OpenSpec.ofChange decRoundsWrong)

/-- 'tabulalaw01.DecFloors': WHATEVER THE INPUT: true; the input reads as it did. -/
def decFloorsSpec : ChangeSpec := { name := "decFloors", fn := fun _ => fun
  | [d] => { results := [.lit (.bool true)], args := [d] }
  | _ => none }
def decFloorsRow : OpenClaim := { program := "ytpkohfdebgiloaadoor", sum := "2de539c6fcbe67a4a135ee4e230753d955acce892e7142976e5042e61582e2e8", func := "tabula/tabulalaw01.DecFloors", spec := "decFloors", inPlace := ["internal/abi.NoEscape", "internal/bytealg.IndexByteString", "internal/bytealg.IndexString"], unfollowed := true, recurses := true, named := ["math/bits.divideError", "math/bits.overflowError", "internal/bytealg.MaxLen", "unicode/utf8.first", "unicode/utf8.acceptRanges"], apart := false, laid := [("unicode/utf8.acceptRanges", laid_unicode_utf8_acceptRanges), ("unicode/utf8.first", laid_unicode_utf8_first)] }
def DecFloorsSaid : Prop := decFloorsRow.holds Tryd.pinned (OpenSpec.ofChange decFloorsSpec)

/-- ITS FALSE NEIGHBOUR: 'it returns false'. Refute it at one input. -/
def decFloorsWrong : ChangeSpec := { name := "decFloors", fn := fun _ => fun
  | [d] => { results := [.lit (.bool false)], args := [d] }
  | _ => none }
def DecFloorsWrongFalsely : Prop := decFloorsRow.holds Tryd.pinned (OpenSpec.ofChange decFloorsWrong)

/-- 'tabulalaw01.DecText': WHATEVER THE INPUT: true; the input reads as it did. -/
def decTextSpec : ChangeSpec := { name := "decText", fn := fun _ => fun
  | [d1, d2, d3] => { results := [.lit (.bool true)], args := [d1, d2, d3] }
  | _ => none }
def decTextRow : OpenClaim := { program := "ytpkohfdebgiloaadoor", sum := "2de539c6fcbe67a4a135ee4e230753d955acce892e7142976e5042e61582e2e8", func := "tabula/tabulalaw01.DecText", spec := "decText", inPlace := ["internal/abi.NoEscape", "internal/bytealg.IndexByteString", "internal/bytealg.IndexString"], unfollowed := true, recurses := true, named := ["math/bits.divideError", "math/bits.overflowError", "internal/bytealg.MaxLen", "unicode/utf8.first", "unicode/utf8.acceptRanges"], apart := false, laid := [("unicode/utf8.acceptRanges", laid_unicode_utf8_acceptRanges), ("unicode/utf8.first", laid_unicode_utf8_first)] }
def DecTextSaid : Prop := decTextRow.holds Tryd.pinned (OpenSpec.ofChange decTextSpec)

/-- ITS FALSE NEIGHBOUR: 'it returns false'. Refute it at one input. -/
def decTextWrong : ChangeSpec := { name := "decText", fn := fun _ => fun
  | [d1, d2, d3] => { results := [.lit (.bool false)], args := [d1, d2, d3] }
  | _ => none }
def DecTextWrongFalsely : Prop := decTextRow.holds Tryd.pinned (OpenSpec.ofChange decTextWrong)

/- THE SECOND FORM. 'bulk': how many values and letters a reading holds, each counted each time it is reached (what is shared counts as often as it is met; a slice's spare places count too). A statement '..UptoSaid' is the law's where the arguments, and the package variables that the reading takes, are together of bulk at most 1048576: NARROWER than '..Said'. Prove '..Said' where nothing that the law and all that it calls make is longer than what came in: it says more and counts as full. Else prove '..UptoSaid'. A law counts once. -/
mutual
def uptoBulk {H : Type} : DataW H → Nat
  | .lit (.string bytes) => bytes.length + 1
  | .lit _ => 1
  | .nil => 1
  | .ptr d => uptoBulk d + 1
  | .slice elems spare => uptoBulkAll elems + uptoBulkAll spare + 1
  | .agg parts => uptoBulkAll parts + 1
  | .iface _ d => uptoBulk d + 1
  | .map entries => uptoBulkEntries entries + 1
  | .held _ => 1
def uptoBulkAll {H : Type} : List (DataW H) → Nat
  | [] => 0
  | d :: r => uptoBulk d + uptoBulkAll r
def uptoBulkEntries {H : Type} : List (Lit × DataW H) → Nat
  | [] => 0
  | x :: r => uptoBulkEntry x + uptoBulkEntries r
def uptoBulkEntry {H : Type} : Lit × DataW H → Nat
  | (.string bytes, d) => bytes.length + uptoBulk d + 1
  | (_, d) => uptoBulk d + 1
 end
def uptoSmall : (H : Type) → List (DataW H) → Bool := fun _ ds => decide (uptoBulkAll ds ≤ 1048576)
def OpenSpec.upto (s : _root_.Go.ChangeSpec) : _root_.Go.OpenSpec := { _root_.Go.OpenSpec.ofChange s with cond := some uptoSmall }

/-- 'tabulalaw01.DecTells', WHERE WHAT IT READS IS OF BULK AT MOST 1048576: true; the input reads as it did. -/
def decTellsUptoRow : OpenClaim := { program := "ytpkohfdebgiloaadoor", sum := "2de539c6fcbe67a4a135ee4e230753d955acce892e7142976e5042e61582e2e8", func := "tabula/tabulalaw01.DecTells", spec := "decTells", inPlace := ["internal/abi.NoEscape", "internal/bytealg.IndexByteString", "internal/bytealg.IndexString"], unfollowed := true, recurses := true, named := ["math/bits.divideError", "math/bits.overflowError", "internal/bytealg.MaxLen", "unicode/utf8.first", "unicode/utf8.acceptRanges"], apart := false, laid := [("unicode/utf8.acceptRanges", laid_unicode_utf8_acceptRanges), ("unicode/utf8.first", laid_unicode_utf8_first)], narrowed := true }
def DecTellsUptoSaid : Prop := decTellsUptoRow.holds Tryd.pinned (OpenSpec.upto decTellsSpec)

/-- 'tabulalaw01.DecPowers', WHERE WHAT IT READS IS OF BULK AT MOST 1048576: true; the input reads as it did. -/
def decPowersUptoRow : OpenClaim := { program := "ytpkohfdebgiloaadoor", sum := "2de539c6fcbe67a4a135ee4e230753d955acce892e7142976e5042e61582e2e8", func := "tabula/tabulalaw01.DecPowers", spec := "decPowers", inPlace := ["internal/abi.NoEscape", "internal/bytealg.IndexByteString", "internal/bytealg.IndexString"], unfollowed := true, recurses := true, named := ["math/bits.divideError", "math/bits.overflowError", "internal/bytealg.MaxLen", "unicode/utf8.first", "unicode/utf8.acceptRanges"], apart := false, laid := [("unicode/utf8.acceptRanges", laid_unicode_utf8_acceptRanges), ("unicode/utf8.first", laid_unicode_utf8_first)], narrowed := true }
def DecPowersUptoSaid : Prop := decPowersUptoRow.holds Tryd.pinned (OpenSpec.upto decPowersSpec)

/-- 'tabulalaw01.DecTurns', WHERE WHAT IT READS IS OF BULK AT MOST 1048576: true; the input reads as it did. -/
def decTurnsUptoRow : OpenClaim := { program := "ytpkohfdebgiloaadoor", sum := "2de539c6fcbe67a4a135ee4e230753d955acce892e7142976e5042e61582e2e8", func := "tabula/tabulalaw01.DecTurns", spec := "decTurns", inPlace := ["internal/abi.NoEscape", "internal/bytealg.IndexByteString", "internal/bytealg.IndexString"], unfollowed := true, recurses := true, named := ["math/bits.divideError", "math/bits.overflowError", "internal/bytealg.MaxLen", "unicode/utf8.first", "unicode/utf8.acceptRanges"], apart := false, laid := [("unicode/utf8.acceptRanges", laid_unicode_utf8_acceptRanges), ("unicode/utf8.first", laid_unicode_utf8_first)], narrowed := true }
def DecTurnsUptoSaid : Prop := decTurnsUptoRow.holds Tryd.pinned (OpenSpec.upto decTurnsSpec)

/-- 'tabulalaw01.DecWhole', WHERE WHAT IT READS IS OF BULK AT MOST 1048576: true; the input reads as it did. -/
def decWholeUptoRow : OpenClaim := { program := "ytpkohfdebgiloaadoor", sum := "2de539c6fcbe67a4a135ee4e230753d955acce892e7142976e5042e61582e2e8", func := "tabula/tabulalaw01.DecWhole", spec := "decWhole", inPlace := ["internal/abi.NoEscape", "internal/bytealg.IndexByteString", "internal/bytealg.IndexString"], unfollowed := true, recurses := true, named := ["math/bits.divideError", "math/bits.overflowError", "internal/bytealg.MaxLen", "unicode/utf8.first", "unicode/utf8.acceptRanges"], apart := false, laid := [("unicode/utf8.acceptRanges", laid_unicode_utf8_acceptRanges), ("unicode/utf8.first", laid_unicode_utf8_first)], narrowed := true }
def DecWholeUptoSaid : Prop := decWholeUptoRow.holds Tryd.pinned (OpenSpec.upto decWholeSpec)

/-- 'tabulalaw01.DecOrder', WHERE WHAT IT READS IS OF BULK AT MOST 1048576: true; the input reads as it did. -/
def decOrderUptoRow : OpenClaim := { program := "ytpkohfdebgiloaadoor", sum := "2de539c6fcbe67a4a135ee4e230753d955acce892e7142976e5042e61582e2e8", func := "tabula/tabulalaw01.DecOrder", spec := "decOrder", inPlace := ["internal/abi.NoEscape", "internal/bytealg.IndexByteString", "internal/bytealg.IndexString"], unfollowed := true, recurses := true, named := ["math/bits.divideError", "math/bits.overflowError", "internal/bytealg.MaxLen", "unicode/utf8.first", "unicode/utf8.acceptRanges"], apart := false, laid := [("unicode/utf8.acceptRanges", laid_unicode_utf8_acceptRanges), ("unicode/utf8.first", laid_unicode_utf8_first)], narrowed := true }
def DecOrderUptoSaid : Prop := decOrderUptoRow.holds Tryd.pinned (OpenSpec.upto decOrderSpec)

/-- 'tabulalaw01.DecNear', WHERE WHAT IT READS IS OF BULK AT MOST 1048576: true; the input reads as it did. -/
def decNearUptoRow : OpenClaim := { program := "ytpkohfdebgiloaadoor", sum := "2de539c6fcbe67a4a135ee4e230753d955acce892e7142976e5042e61582e2e8", func := "tabula/tabulalaw01.DecNear", spec := "decNear", inPlace := ["internal/abi.NoEscape", "internal/bytealg.IndexByteString", "internal/bytealg.IndexString"], unfollowed := true, recurses := true, named := ["math/bits.divideError", "math/bits.overflowError", "internal/bytealg.MaxLen", "unicode/utf8.first", "unicode/utf8.acceptRanges"], apart := false, laid := [("unicode/utf8.acceptRanges", laid_unicode_utf8_acceptRanges), ("unicode/utf8.first", laid_unicode_utf8_first)], narrowed := true }
def DecNearUptoSaid : Prop := decNearUptoRow.holds Tryd.pinned (OpenSpec.upto decNearSpec)

/-- 'tabulalaw01.DecRounds', WHERE WHAT IT READS IS OF BULK AT MOST 1048576: true; the input reads as it did. -/
def decRoundsUptoRow : OpenClaim := { program := "ytpkohfdebgiloaadoor", sum := "2de539c6fcbe67a4a135ee4e230753d955acce892e7142976e5042e61582e2e8", func := "tabula/tabulalaw01.DecRounds", spec := "decRounds", inPlace := ["internal/abi.NoEscape", "internal/bytealg.IndexByteString", "internal/bytealg.IndexString"], unfollowed := true, recurses := true, named := ["math/bits.divideError", "math/bits.overflowError", "internal/bytealg.MaxLen", "unicode/utf8.first", "unicode/utf8.acceptRanges"], apart := false, laid := [("unicode/utf8.acceptRanges", laid_unicode_utf8_acceptRanges), ("unicode/utf8.first", laid_unicode_utf8_first)], narrowed := true }
def DecRoundsUptoSaid : Prop := decRoundsUptoRow.holds Tryd.pinned (OpenSpec.upto decRoundsSpec)

/-- 'tabulalaw01.DecFloors', WHERE WHAT IT READS IS OF BULK AT MOST 1048576: true; the input reads as it did. -/
def decFloorsUptoRow : OpenClaim := { program := "ytpkohfdebgiloaadoor", sum := "2de539c6fcbe67a4a135ee4e230753d955acce892e7142976e5042e61582e2e8", func := "tabula/tabulalaw01.DecFloors", spec := "decFloors", inPlace := ["internal/abi.NoEscape", "internal/bytealg.IndexByteString", "internal/bytealg.IndexString"], unfollowed := true, recurses := true, named := ["math/bits.divideError", "math/bits.overflowError", "internal/bytealg.MaxLen", "unicode/utf8.first", "unicode/utf8.acceptRanges"], apart := false, laid := [("unicode/utf8.acceptRanges", laid_unicode_utf8_acceptRanges), ("unicode/utf8.first", laid_unicode_utf8_first)], narrowed := true }
def DecFloorsUptoSaid : Prop := decFloorsUptoRow.holds Tryd.pinned (OpenSpec.upto decFloorsSpec)

/-- 'tabulalaw01.DecText', WHERE WHAT IT READS IS OF BULK AT MOST 1048576: true; the input reads as it did. -/
def decTextUptoRow : OpenClaim := { program := "ytpkohfdebgiloaadoor", sum := "2de539c6fcbe67a4a135ee4e230753d955acce892e7142976e5042e61582e2e8", func := "tabula/tabulalaw01.DecText", spec := "decText", inPlace := ["internal/abi.NoEscape", "internal/bytealg.IndexByteString", "internal/bytealg.IndexString"], unfollowed := true, recurses := true, named := ["math/bits.divideError", "math/bits.overflowError", "internal/bytealg.MaxLen", "unicode/utf8.first", "unicode/utf8.acceptRanges"], apart := false, laid := [("unicode/utf8.acceptRanges", laid_unicode_utf8_acceptRanges), ("unicode/utf8.first", laid_unicode_utf8_first)], narrowed := true }
def DecTextUptoSaid : Prop := decTextUptoRow.holds Tryd.pinned (OpenSpec.upto decTextSpec)

end Rows
end Go.Proofs.YtpkohfdebgiloaaDoor
