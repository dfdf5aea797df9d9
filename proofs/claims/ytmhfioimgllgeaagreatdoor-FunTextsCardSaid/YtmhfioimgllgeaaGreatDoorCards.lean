/-
  DERIVED. GIVEN WITH THE SEED: THE CARDS: each row of YtmhfioimgllgeaaGreatDoorRows.lean that lists a variable, with what it lists TIED to the program's text (the seventh form; the later family's looks); each row that meets fmt, with fmt's text TOLD by the authors' own Lean function (tested against real Go, not proved from fmt's source: count such statements apart). THE CARD IS WHAT COUNTS. Prove the row's statement (the work); the ties are given (YtmhfioimgllgeaaGreatDoorTie.lean); close each card by the builder's one call (the guide's Derived/Test/ToyasCard.lean, 'card_holds'). Laid BY PROGRAM, IN A SANDBOX (cutbox-door.mjs). By AI agents, Wed Nov 11 2026. No macro, syntax, notation, axiom, sorry.
-/
import Derived.Test.YtmhfioimgllgeaaGreatDoorRows
import GoSem.ClaimSeven
namespace Go.Proofs.YtmhfioimgllgeaaGreatDoor
namespace Rows

/-- THE TIED CARD OF 'tabulalaw07.FunNames'. -/
def funNamesCard : Claim7 := { stood := { row := funNamesRow, standIns := [], harness := (true, "c189ded3565fa16847cf6c55ef47891043b9aa836bc1aef081f21bf399370b57"), looks := false }, kinds := [], alts := [], laidByText := true, laidKinds := [.data, .pinned], laidTests := true, laidLooks := .later }
def FunNamesCardSaid : Prop := Claim7.holds Tryz.pinned (.plain (OpenSpec.ofChange funNamesSpec)) funNamesCard

/-- THE TIED CARD OF 'tabulalaw07.FunRight'. -/
def funRightCard : Claim7 := { stood := { row := funRightRow, standIns := [], harness := (true, "c189ded3565fa16847cf6c55ef47891043b9aa836bc1aef081f21bf399370b57"), looks := false }, kinds := [], alts := [], laidByText := true, laidKinds := [.data, .pinned], laidTests := true, laidLooks := .later }
def FunRightCardSaid : Prop := Claim7.holds Tryz.pinned (.plain (OpenSpec.ofChange funRightSpec)) funRightCard

/-- THE TIED CARD OF 'tabulalaw07.FunSums'. -/
def funSumsCard : Claim7 := { stood := { row := funSumsRow, standIns := [], harness := (true, "c189ded3565fa16847cf6c55ef47891043b9aa836bc1aef081f21bf399370b57"), looks := false }, kinds := [], alts := [], laidByText := true, laidKinds := [.data, .pinned], laidTests := true, laidLooks := .later }
def FunSumsCardSaid : Prop := Claim7.holds Tryz.pinned (.plain (OpenSpec.ofChange funSumsSpec)) funSumsCard

/-- THE TIED CARD OF 'tabulalaw07.FunTexts'. -/
def funTextsCard : Claim7 := { stood := { row := funTextsRow, standIns := [], harness := (true, "c189ded3565fa16847cf6c55ef47891043b9aa836bc1aef081f21bf399370b57"), looks := false }, kinds := [], alts := [], laidByText := true, laidKinds := [.data, .pinned], laidTests := true, laidLooks := .later }
def FunTextsCardSaid : Prop := Claim7.holds Tryz.pinned (.plain (OpenSpec.ofChange funTextsSpec)) funTextsCard

/-- THE TIED CARD OF 'tabulalaw07.FunTables'. -/
def funTablesCard : Claim7 := { stood := { row := funTablesRow, standIns := [], harness := (true, "c189ded3565fa16847cf6c55ef47891043b9aa836bc1aef081f21bf399370b57"), looks := false }, kinds := [], alts := [], laidByText := true, laidKinds := [.data, .pinned], laidTests := true, laidLooks := .later }
def FunTablesCardSaid : Prop := Claim7.holds Tryz.pinned (.plain (OpenSpec.ofChange funTablesSpec)) funTablesCard

/-- THE TIED CARD OF 'tabulalaw07.FunLogic'. -/
def funLogicCard : Claim7 := { stood := { row := funLogicRow, standIns := [], harness := (true, "c189ded3565fa16847cf6c55ef47891043b9aa836bc1aef081f21bf399370b57"), looks := false }, kinds := [], alts := [], laidByText := true, laidKinds := [.data, .pinned], laidTests := true, laidLooks := .later }
def FunLogicCardSaid : Prop := Claim7.holds Tryz.pinned (.plain (OpenSpec.ofChange funLogicSpec)) funLogicCard

/-- THE TIED CARD OF 'tabulalaw07.FunFaults'. -/
def funFaultsCard : Claim7 := { stood := { row := funFaultsRow, standIns := [], harness := (true, "c189ded3565fa16847cf6c55ef47891043b9aa836bc1aef081f21bf399370b57"), looks := false }, kinds := [], alts := [], laidByText := true, laidKinds := [.data, .pinned], laidTests := true, laidLooks := .later }
def FunFaultsCardSaid : Prop := Claim7.holds Tryz.pinned (.plain (OpenSpec.ofChange funFaultsSpec)) funFaultsCard

/-- THE TIED CARD OF 'tabulalaw07.FunDecimals'. -/
def funDecimalsCard : Claim7 := { stood := { row := funDecimalsRow, standIns := [], harness := (true, "c189ded3565fa16847cf6c55ef47891043b9aa836bc1aef081f21bf399370b57"), looks := false }, kinds := [], alts := [], laidByText := true, laidKinds := [.data, .pinned], laidTests := true, laidLooks := .later }
def FunDecimalsCardSaid : Prop := Claim7.holds Tryz.pinned (.plain (OpenSpec.ofChange funDecimalsSpec)) funDecimalsCard

/-- THE SECOND FORM's CARD OF 'tabulalaw07.FunNames'. -/
def funNamesUptoCard : Claim7 := { stood := { row := funNamesUptoRow, standIns := [], harness := (true, "c189ded3565fa16847cf6c55ef47891043b9aa836bc1aef081f21bf399370b57"), looks := false }, kinds := [], alts := [], laidByText := true, laidKinds := [.data, .pinned], laidTests := true, laidLooks := .later }
def FunNamesUptoCardSaid : Prop := Claim7.holds Tryz.pinned (.plain (OpenSpec.upto funNamesSpec)) funNamesUptoCard

/-- THE SECOND FORM's CARD OF 'tabulalaw07.FunRight'. -/
def funRightUptoCard : Claim7 := { stood := { row := funRightUptoRow, standIns := [], harness := (true, "c189ded3565fa16847cf6c55ef47891043b9aa836bc1aef081f21bf399370b57"), looks := false }, kinds := [], alts := [], laidByText := true, laidKinds := [.data, .pinned], laidTests := true, laidLooks := .later }
def FunRightUptoCardSaid : Prop := Claim7.holds Tryz.pinned (.plain (OpenSpec.upto funRightSpec)) funRightUptoCard

/-- THE SECOND FORM's CARD OF 'tabulalaw07.FunSums'. -/
def funSumsUptoCard : Claim7 := { stood := { row := funSumsUptoRow, standIns := [], harness := (true, "c189ded3565fa16847cf6c55ef47891043b9aa836bc1aef081f21bf399370b57"), looks := false }, kinds := [], alts := [], laidByText := true, laidKinds := [.data, .pinned], laidTests := true, laidLooks := .later }
def FunSumsUptoCardSaid : Prop := Claim7.holds Tryz.pinned (.plain (OpenSpec.upto funSumsSpec)) funSumsUptoCard

/-- THE SECOND FORM's CARD OF 'tabulalaw07.FunTexts'. -/
def funTextsUptoCard : Claim7 := { stood := { row := funTextsUptoRow, standIns := [], harness := (true, "c189ded3565fa16847cf6c55ef47891043b9aa836bc1aef081f21bf399370b57"), looks := false }, kinds := [], alts := [], laidByText := true, laidKinds := [.data, .pinned], laidTests := true, laidLooks := .later }
def FunTextsUptoCardSaid : Prop := Claim7.holds Tryz.pinned (.plain (OpenSpec.upto funTextsSpec)) funTextsUptoCard

/-- THE SECOND FORM's CARD OF 'tabulalaw07.FunTables'. -/
def funTablesUptoCard : Claim7 := { stood := { row := funTablesUptoRow, standIns := [], harness := (true, "c189ded3565fa16847cf6c55ef47891043b9aa836bc1aef081f21bf399370b57"), looks := false }, kinds := [], alts := [], laidByText := true, laidKinds := [.data, .pinned], laidTests := true, laidLooks := .later }
def FunTablesUptoCardSaid : Prop := Claim7.holds Tryz.pinned (.plain (OpenSpec.upto funTablesSpec)) funTablesUptoCard

/-- THE SECOND FORM's CARD OF 'tabulalaw07.FunLogic'. -/
def funLogicUptoCard : Claim7 := { stood := { row := funLogicUptoRow, standIns := [], harness := (true, "c189ded3565fa16847cf6c55ef47891043b9aa836bc1aef081f21bf399370b57"), looks := false }, kinds := [], alts := [], laidByText := true, laidKinds := [.data, .pinned], laidTests := true, laidLooks := .later }
def FunLogicUptoCardSaid : Prop := Claim7.holds Tryz.pinned (.plain (OpenSpec.upto funLogicSpec)) funLogicUptoCard

/-- THE SECOND FORM's CARD OF 'tabulalaw07.FunFaults'. -/
def funFaultsUptoCard : Claim7 := { stood := { row := funFaultsUptoRow, standIns := [], harness := (true, "c189ded3565fa16847cf6c55ef47891043b9aa836bc1aef081f21bf399370b57"), looks := false }, kinds := [], alts := [], laidByText := true, laidKinds := [.data, .pinned], laidTests := true, laidLooks := .later }
def FunFaultsUptoCardSaid : Prop := Claim7.holds Tryz.pinned (.plain (OpenSpec.upto funFaultsSpec)) funFaultsUptoCard

/-- THE SECOND FORM's CARD OF 'tabulalaw07.FunDecimals'. -/
def funDecimalsUptoCard : Claim7 := { stood := { row := funDecimalsUptoRow, standIns := [], harness := (true, "c189ded3565fa16847cf6c55ef47891043b9aa836bc1aef081f21bf399370b57"), looks := false }, kinds := [], alts := [], laidByText := true, laidKinds := [.data, .pinned], laidTests := true, laidLooks := .later }
def FunDecimalsUptoCardSaid : Prop := Claim7.holds Tryz.pinned (.plain (OpenSpec.upto funDecimalsSpec)) funDecimalsUptoCard
end Rows
end Go.Proofs.YtmhfioimgllgeaaGreatDoor
