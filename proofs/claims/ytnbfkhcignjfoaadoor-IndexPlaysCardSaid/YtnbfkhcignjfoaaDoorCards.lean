/-
  DERIVED. GIVEN WITH THE SEED: THE CARDS: each row of YtnbfkhcignjfoaaDoorRows.lean that lists a variable, with what it lists TIED to the program's text (the seventh form; the later family's looks); each row that meets fmt, with fmt's text TOLD by the authors' own Lean function (tested against real Go, not proved from fmt's source: count such statements apart). THE CARD IS WHAT COUNTS. Prove the row's statement (the work); the ties are given (YtnbfkhcignjfoaaDoorTie.lean); close each card by the builder's one call (the guide's Derived/Test/ToyasCard.lean, 'card_holds'). Laid BY PROGRAM, IN A SANDBOX (cutbox-door.mjs). By AI agents, Wed Nov 11 2026. No macro, syntax, notation, axiom, sorry.
-/
import Derived.Test.YtnbfkhcignjfoaaDoorRows
import GoSem.ClaimSeven
namespace Go.Proofs.YtnbfkhcignjfoaaDoor
namespace Rows

/-- THE TIED CARD OF 'tabulalaw11.IndexPlays'. -/
def indexPlaysCard : Claim7 := { stood := { row := indexPlaysRow, standIns := [], harness := (true, "c9b28693c18e387973afc360ab12f7ba2623cb22ab8cd0a3282bbac525a7c816"), looks := true }, kinds := [], alts := [], laidByText := true, laidKinds := [.sentinel, .sentinel], laidTests := true, laidLooks := .later }
def IndexPlaysCardSaid : Prop := Claim7.holds Tryd.pinned (.plain (OpenSpec.ofChange indexPlaysSpec)) indexPlaysCard

/-- THE TIED CARD OF 'tabulalaw11.IndexOrder'. -/
def indexOrderCard : Claim7 := { stood := { row := indexOrderRow, standIns := [], harness := (true, "c9b28693c18e387973afc360ab12f7ba2623cb22ab8cd0a3282bbac525a7c816"), looks := true }, kinds := [], alts := [], laidByText := true, laidKinds := [.sentinel, .sentinel], laidTests := true, laidLooks := .later }
def IndexOrderCardSaid : Prop := Claim7.holds Tryd.pinned (.plain (OpenSpec.ofChange indexOrderSpec)) indexOrderCard

/-- THE TIED CARD OF 'tabulalaw11.IndexHits'. -/
def indexHitsCard : Claim7 := { stood := { row := indexHitsRow, standIns := [], harness := (true, "c9b28693c18e387973afc360ab12f7ba2623cb22ab8cd0a3282bbac525a7c816"), looks := true }, kinds := [], alts := [], laidByText := true, laidKinds := [.sentinel, .sentinel], laidTests := true, laidLooks := .later }
def IndexHitsCardSaid : Prop := Claim7.holds Tryd.pinned (.plain (OpenSpec.ofChange indexHitsSpec)) indexHitsCard

/-- THE TIED CARD OF 'tabulalaw11.IndexDrops'. -/
def indexDropsCard : Claim7 := { stood := { row := indexDropsRow, standIns := [], harness := (true, "c9b28693c18e387973afc360ab12f7ba2623cb22ab8cd0a3282bbac525a7c816"), looks := true }, kinds := [], alts := [], laidByText := true, laidKinds := [.sentinel, .sentinel], laidTests := true, laidLooks := .later }
def IndexDropsCardSaid : Prop := Claim7.holds Tryd.pinned (.plain (OpenSpec.ofChange indexDropsSpec)) indexDropsCard

/-- THE SECOND FORM's CARD OF 'tabulalaw11.IndexPlays'. -/
def indexPlaysUptoCard : Claim7 := { stood := { row := indexPlaysUptoRow, standIns := [], harness := (true, "c9b28693c18e387973afc360ab12f7ba2623cb22ab8cd0a3282bbac525a7c816"), looks := true }, kinds := [], alts := [], laidByText := true, laidKinds := [.sentinel, .sentinel], laidTests := true, laidLooks := .later }
def IndexPlaysUptoCardSaid : Prop := Claim7.holds Tryd.pinned (.plain (OpenSpec.upto indexPlaysSpec)) indexPlaysUptoCard

/-- THE SECOND FORM's CARD OF 'tabulalaw11.IndexOrder'. -/
def indexOrderUptoCard : Claim7 := { stood := { row := indexOrderUptoRow, standIns := [], harness := (true, "c9b28693c18e387973afc360ab12f7ba2623cb22ab8cd0a3282bbac525a7c816"), looks := true }, kinds := [], alts := [], laidByText := true, laidKinds := [.sentinel, .sentinel], laidTests := true, laidLooks := .later }
def IndexOrderUptoCardSaid : Prop := Claim7.holds Tryd.pinned (.plain (OpenSpec.upto indexOrderSpec)) indexOrderUptoCard

/-- THE SECOND FORM's CARD OF 'tabulalaw11.IndexHits'. -/
def indexHitsUptoCard : Claim7 := { stood := { row := indexHitsUptoRow, standIns := [], harness := (true, "c9b28693c18e387973afc360ab12f7ba2623cb22ab8cd0a3282bbac525a7c816"), looks := true }, kinds := [], alts := [], laidByText := true, laidKinds := [.sentinel, .sentinel], laidTests := true, laidLooks := .later }
def IndexHitsUptoCardSaid : Prop := Claim7.holds Tryd.pinned (.plain (OpenSpec.upto indexHitsSpec)) indexHitsUptoCard

/-- THE SECOND FORM's CARD OF 'tabulalaw11.IndexDrops'. -/
def indexDropsUptoCard : Claim7 := { stood := { row := indexDropsUptoRow, standIns := [], harness := (true, "c9b28693c18e387973afc360ab12f7ba2623cb22ab8cd0a3282bbac525a7c816"), looks := true }, kinds := [], alts := [], laidByText := true, laidKinds := [.sentinel, .sentinel], laidTests := true, laidLooks := .later }
def IndexDropsUptoCardSaid : Prop := Claim7.holds Tryd.pinned (.plain (OpenSpec.upto indexDropsSpec)) indexDropsUptoCard
end Rows
end Go.Proofs.YtnbfkhcignjfoaaDoor
