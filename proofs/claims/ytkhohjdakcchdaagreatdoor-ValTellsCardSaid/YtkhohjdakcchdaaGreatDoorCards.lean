/-
  DERIVED. GIVEN WITH THE SEED: THE CARDS: each row of YtkhohjdakcchdaaGreatDoorRows.lean that lists a variable, with what it lists TIED to the program's text (the seventh form; the later family's looks); each row that meets fmt, with fmt's text TOLD by the authors' own Lean function (tested against real Go, not proved from fmt's source: count such statements apart). THE CARD IS WHAT COUNTS. Prove the row's statement (the work); the ties are given (YtkhohjdakcchdaaGreatDoorTie.lean); close each card by the builder's one call (the guide's Derived/Test/ToyasCard.lean, 'card_holds'). Laid BY PROGRAM, IN A SANDBOX (cutbox-door.mjs). By AI agents, Wed Nov 11 2026. No macro, syntax, notation, axiom, sorry.
-/
import Derived.Test.YtkhohjdakcchdaaGreatDoorRows
import GoSem.ClaimSeven
namespace Go.Proofs.YtkhohjdakcchdaaGreatDoor
namespace Rows

/-- THE TIED CARD OF 'tabulalaw03.ValTells'. -/
def valTellsCard : Claim7 := { stood := { row := valTellsRow, standIns := [], harness := (true, "2044a488535f445c33ab7e039c7b21a9a923e301e18fa575939a2f0690c3c9b6"), looks := false }, kinds := [], alts := [], laidByText := true, laidKinds := [.data, .pinned], laidTests := true, laidLooks := .later }
def ValTellsCardSaid : Prop := Claim7.holds Tryz.pinned (.plain (OpenSpec.ofChange valTellsSpec)) valTellsCard

/-- THE TIED CARD OF 'tabulalaw03.ValReads'. -/
def valReadsCard : Claim7 := { stood := { row := valReadsRow, standIns := [], harness := (true, "2044a488535f445c33ab7e039c7b21a9a923e301e18fa575939a2f0690c3c9b6"), looks := false }, kinds := [], alts := [], laidByText := true, laidKinds := [.data, .pinned], laidTests := true, laidLooks := .later }
def ValReadsCardSaid : Prop := Claim7.holds Tryz.pinned (.plain (OpenSpec.ofChange valReadsSpec)) valReadsCard

/-- THE TIED CARD OF 'tabulalaw03.ValBack'. -/
def valBackCard : Claim7 := { stood := { row := valBackRow, standIns := [], harness := (true, "2044a488535f445c33ab7e039c7b21a9a923e301e18fa575939a2f0690c3c9b6"), looks := false }, kinds := [], alts := [], laidByText := true, laidKinds := [.data, .pinned], laidTests := true, laidLooks := .later }
def ValBackCardSaid : Prop := Claim7.holds Tryz.pinned (.plain (OpenSpec.ofChange valBackSpec)) valBackCard

/-- THE TIED CARD OF 'tabulalaw03.ValOrder'. -/
def valOrderCard : Claim7 := { stood := { row := valOrderRow, standIns := [], harness := (true, "2044a488535f445c33ab7e039c7b21a9a923e301e18fa575939a2f0690c3c9b6"), looks := false }, kinds := [], alts := [], laidByText := true, laidKinds := [.data, .pinned], laidTests := true, laidLooks := .later }
def ValOrderCardSaid : Prop := Claim7.holds Tryz.pinned (.plain (OpenSpec.ofChange valOrderSpec)) valOrderCard

/-- THE TIED CARD OF 'tabulalaw03.ValTwice'. -/
def valTwiceCard : Claim7 := { stood := { row := valTwiceRow, standIns := [], harness := (true, "2044a488535f445c33ab7e039c7b21a9a923e301e18fa575939a2f0690c3c9b6"), looks := false }, kinds := [], alts := [], laidByText := true, laidKinds := [.data, .pinned], laidTests := true, laidLooks := .later }
def ValTwiceCardSaid : Prop := Claim7.holds Tryz.pinned (.plain (OpenSpec.ofChange valTwiceSpec)) valTwiceCard

/-- THE TIED CARD OF 'tabulalaw03.ValEach'. -/
def valEachCard : Claim7 := { stood := { row := valEachRow, standIns := [], harness := (true, "2044a488535f445c33ab7e039c7b21a9a923e301e18fa575939a2f0690c3c9b6"), looks := false }, kinds := [], alts := [], laidByText := true, laidKinds := [.data, .pinned], laidTests := true, laidLooks := .later }
def ValEachCardSaid : Prop := Claim7.holds Tryz.pinned (.plain (OpenSpec.ofChange valEachSpec)) valEachCard

/-- THE TIED CARD OF 'tabulalaw03.ValMade'. -/
def valMadeCard : Claim7 := { stood := { row := valMadeRow, standIns := [], harness := (true, "2044a488535f445c33ab7e039c7b21a9a923e301e18fa575939a2f0690c3c9b6"), looks := false }, kinds := [], alts := [], laidByText := true, laidKinds := [.data, .pinned], laidTests := true, laidLooks := .later }
def ValMadeCardSaid : Prop := Claim7.holds Tryz.pinned (.plain (OpenSpec.ofChange valMadeSpec)) valMadeCard

/-- THE TIED CARD OF 'tabulalaw03.ValQuote'. -/
def valQuoteCard : Claim7 := { stood := { row := valQuoteRow, standIns := [], harness := (true, "2044a488535f445c33ab7e039c7b21a9a923e301e18fa575939a2f0690c3c9b6"), looks := false }, kinds := [], alts := [], laidByText := true, laidKinds := [.data, .pinned], laidTests := true, laidLooks := .later }
def ValQuoteCardSaid : Prop := Claim7.holds Tryz.pinned (.plain (OpenSpec.ofChange valQuoteSpec)) valQuoteCard

/-- THE SECOND FORM's CARD OF 'tabulalaw03.ValTells'. -/
def valTellsUptoCard : Claim7 := { stood := { row := valTellsUptoRow, standIns := [], harness := (true, "2044a488535f445c33ab7e039c7b21a9a923e301e18fa575939a2f0690c3c9b6"), looks := false }, kinds := [], alts := [], laidByText := true, laidKinds := [.data, .pinned], laidTests := true, laidLooks := .later }
def ValTellsUptoCardSaid : Prop := Claim7.holds Tryz.pinned (.plain (OpenSpec.upto valTellsSpec)) valTellsUptoCard

/-- THE SECOND FORM's CARD OF 'tabulalaw03.ValReads'. -/
def valReadsUptoCard : Claim7 := { stood := { row := valReadsUptoRow, standIns := [], harness := (true, "2044a488535f445c33ab7e039c7b21a9a923e301e18fa575939a2f0690c3c9b6"), looks := false }, kinds := [], alts := [], laidByText := true, laidKinds := [.data, .pinned], laidTests := true, laidLooks := .later }
def ValReadsUptoCardSaid : Prop := Claim7.holds Tryz.pinned (.plain (OpenSpec.upto valReadsSpec)) valReadsUptoCard

/-- THE SECOND FORM's CARD OF 'tabulalaw03.ValBack'. -/
def valBackUptoCard : Claim7 := { stood := { row := valBackUptoRow, standIns := [], harness := (true, "2044a488535f445c33ab7e039c7b21a9a923e301e18fa575939a2f0690c3c9b6"), looks := false }, kinds := [], alts := [], laidByText := true, laidKinds := [.data, .pinned], laidTests := true, laidLooks := .later }
def ValBackUptoCardSaid : Prop := Claim7.holds Tryz.pinned (.plain (OpenSpec.upto valBackSpec)) valBackUptoCard

/-- THE SECOND FORM's CARD OF 'tabulalaw03.ValOrder'. -/
def valOrderUptoCard : Claim7 := { stood := { row := valOrderUptoRow, standIns := [], harness := (true, "2044a488535f445c33ab7e039c7b21a9a923e301e18fa575939a2f0690c3c9b6"), looks := false }, kinds := [], alts := [], laidByText := true, laidKinds := [.data, .pinned], laidTests := true, laidLooks := .later }
def ValOrderUptoCardSaid : Prop := Claim7.holds Tryz.pinned (.plain (OpenSpec.upto valOrderSpec)) valOrderUptoCard

/-- THE SECOND FORM's CARD OF 'tabulalaw03.ValTwice'. -/
def valTwiceUptoCard : Claim7 := { stood := { row := valTwiceUptoRow, standIns := [], harness := (true, "2044a488535f445c33ab7e039c7b21a9a923e301e18fa575939a2f0690c3c9b6"), looks := false }, kinds := [], alts := [], laidByText := true, laidKinds := [.data, .pinned], laidTests := true, laidLooks := .later }
def ValTwiceUptoCardSaid : Prop := Claim7.holds Tryz.pinned (.plain (OpenSpec.upto valTwiceSpec)) valTwiceUptoCard

/-- THE SECOND FORM's CARD OF 'tabulalaw03.ValEach'. -/
def valEachUptoCard : Claim7 := { stood := { row := valEachUptoRow, standIns := [], harness := (true, "2044a488535f445c33ab7e039c7b21a9a923e301e18fa575939a2f0690c3c9b6"), looks := false }, kinds := [], alts := [], laidByText := true, laidKinds := [.data, .pinned], laidTests := true, laidLooks := .later }
def ValEachUptoCardSaid : Prop := Claim7.holds Tryz.pinned (.plain (OpenSpec.upto valEachSpec)) valEachUptoCard

/-- THE SECOND FORM's CARD OF 'tabulalaw03.ValMade'. -/
def valMadeUptoCard : Claim7 := { stood := { row := valMadeUptoRow, standIns := [], harness := (true, "2044a488535f445c33ab7e039c7b21a9a923e301e18fa575939a2f0690c3c9b6"), looks := false }, kinds := [], alts := [], laidByText := true, laidKinds := [.data, .pinned], laidTests := true, laidLooks := .later }
def ValMadeUptoCardSaid : Prop := Claim7.holds Tryz.pinned (.plain (OpenSpec.upto valMadeSpec)) valMadeUptoCard

/-- THE SECOND FORM's CARD OF 'tabulalaw03.ValQuote'. -/
def valQuoteUptoCard : Claim7 := { stood := { row := valQuoteUptoRow, standIns := [], harness := (true, "2044a488535f445c33ab7e039c7b21a9a923e301e18fa575939a2f0690c3c9b6"), looks := false }, kinds := [], alts := [], laidByText := true, laidKinds := [.data, .pinned], laidTests := true, laidLooks := .later }
def ValQuoteUptoCardSaid : Prop := Claim7.holds Tryz.pinned (.plain (OpenSpec.upto valQuoteSpec)) valQuoteUptoCard
end Rows
end Go.Proofs.YtkhohjdakcchdaaGreatDoor
