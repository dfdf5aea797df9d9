/-
  DERIVED. GIVEN WITH THE SEED: THE CARDS: each row of YtpkohfdebgiloaaDoorRows.lean that lists a variable, with what it lists TIED to the program's text (the seventh form; the later family's looks); each row that meets fmt, with fmt's text TOLD by the authors' own Lean function (tested against real Go, not proved from fmt's source: count such statements apart). THE CARD IS WHAT COUNTS. Prove the row's statement (the work); the ties are given (YtpkohfdebgiloaaDoorTie.lean); close each card by the builder's one call (the guide's Derived/Test/ToyasCard.lean, 'card_holds'). Laid BY PROGRAM, IN A SANDBOX (cutbox-door.mjs). By AI agents, Wed Nov 11 2026. No macro, syntax, notation, axiom, sorry.
-/
import Derived.Test.YtpkohfdebgiloaaDoorRows
import GoSem.ClaimSeven
namespace Go.Proofs.YtpkohfdebgiloaaDoor
namespace Rows

/-- THE TIED CARD OF 'tabulalaw01.DecTells'. -/
def decTellsCard : Claim7 := { stood := { row := decTellsRow, standIns := [], harness := (true, "3b81961fe05859447e5de3bd50ec7a81079a260b056c2b8d17cf75860873b22a"), looks := false }, kinds := [], alts := [], laidByText := true, laidKinds := [.data, .pinned], laidTests := true, laidLooks := .later }
def DecTellsCardSaid : Prop := Claim7.holds Tryd.pinned (.plain (OpenSpec.ofChange decTellsSpec)) decTellsCard

/-- THE TIED CARD OF 'tabulalaw01.DecPowers'. -/
def decPowersCard : Claim7 := { stood := { row := decPowersRow, standIns := [], harness := (true, "3b81961fe05859447e5de3bd50ec7a81079a260b056c2b8d17cf75860873b22a"), looks := false }, kinds := [], alts := [], laidByText := true, laidKinds := [.data, .pinned], laidTests := true, laidLooks := .later }
def DecPowersCardSaid : Prop := Claim7.holds Tryd.pinned (.plain (OpenSpec.ofChange decPowersSpec)) decPowersCard

/-- THE TIED CARD OF 'tabulalaw01.DecTurns'. -/
def decTurnsCard : Claim7 := { stood := { row := decTurnsRow, standIns := [], harness := (true, "3b81961fe05859447e5de3bd50ec7a81079a260b056c2b8d17cf75860873b22a"), looks := false }, kinds := [], alts := [], laidByText := true, laidKinds := [.data, .pinned], laidTests := true, laidLooks := .later }
def DecTurnsCardSaid : Prop := Claim7.holds Tryd.pinned (.plain (OpenSpec.ofChange decTurnsSpec)) decTurnsCard

/-- THE TIED CARD OF 'tabulalaw01.DecWhole'. -/
def decWholeCard : Claim7 := { stood := { row := decWholeRow, standIns := [], harness := (true, "3b81961fe05859447e5de3bd50ec7a81079a260b056c2b8d17cf75860873b22a"), looks := false }, kinds := [], alts := [], laidByText := true, laidKinds := [.data, .pinned], laidTests := true, laidLooks := .later }
def DecWholeCardSaid : Prop := Claim7.holds Tryd.pinned (.plain (OpenSpec.ofChange decWholeSpec)) decWholeCard

/-- THE TIED CARD OF 'tabulalaw01.DecOrder'. -/
def decOrderCard : Claim7 := { stood := { row := decOrderRow, standIns := [], harness := (true, "3b81961fe05859447e5de3bd50ec7a81079a260b056c2b8d17cf75860873b22a"), looks := false }, kinds := [], alts := [], laidByText := true, laidKinds := [.data, .pinned], laidTests := true, laidLooks := .later }
def DecOrderCardSaid : Prop := Claim7.holds Tryd.pinned (.plain (OpenSpec.ofChange decOrderSpec)) decOrderCard

/-- THE TIED CARD OF 'tabulalaw01.DecNear'. -/
def decNearCard : Claim7 := { stood := { row := decNearRow, standIns := [], harness := (true, "3b81961fe05859447e5de3bd50ec7a81079a260b056c2b8d17cf75860873b22a"), looks := false }, kinds := [], alts := [], laidByText := true, laidKinds := [.data, .pinned], laidTests := true, laidLooks := .later }
def DecNearCardSaid : Prop := Claim7.holds Tryd.pinned (.plain (OpenSpec.ofChange decNearSpec)) decNearCard

/-- THE TIED CARD OF 'tabulalaw01.DecRounds'. -/
def decRoundsCard : Claim7 := { stood := { row := decRoundsRow, standIns := [], harness := (true, "3b81961fe05859447e5de3bd50ec7a81079a260b056c2b8d17cf75860873b22a"), looks := false }, kinds := [], alts := [], laidByText := true, laidKinds := [.data, .pinned], laidTests := true, laidLooks := .later }
def DecRoundsCardSaid : Prop := Claim7.holds Tryd.pinned (.plain (OpenSpec.ofChange decRoundsSpec)) decRoundsCard

/-- THE TIED CARD OF 'tabulalaw01.DecFloors'. -/
def decFloorsCard : Claim7 := { stood := { row := decFloorsRow, standIns := [], harness := (true, "3b81961fe05859447e5de3bd50ec7a81079a260b056c2b8d17cf75860873b22a"), looks := false }, kinds := [], alts := [], laidByText := true, laidKinds := [.data, .pinned], laidTests := true, laidLooks := .later }
def DecFloorsCardSaid : Prop := Claim7.holds Tryd.pinned (.plain (OpenSpec.ofChange decFloorsSpec)) decFloorsCard

/-- THE TIED CARD OF 'tabulalaw01.DecText'. -/
def decTextCard : Claim7 := { stood := { row := decTextRow, standIns := [], harness := (true, "3b81961fe05859447e5de3bd50ec7a81079a260b056c2b8d17cf75860873b22a"), looks := false }, kinds := [], alts := [], laidByText := true, laidKinds := [.data, .pinned], laidTests := true, laidLooks := .later }
def DecTextCardSaid : Prop := Claim7.holds Tryd.pinned (.plain (OpenSpec.ofChange decTextSpec)) decTextCard

/-- THE SECOND FORM's CARD OF 'tabulalaw01.DecTells'. -/
def decTellsUptoCard : Claim7 := { stood := { row := decTellsUptoRow, standIns := [], harness := (true, "3b81961fe05859447e5de3bd50ec7a81079a260b056c2b8d17cf75860873b22a"), looks := false }, kinds := [], alts := [], laidByText := true, laidKinds := [.data, .pinned], laidTests := true, laidLooks := .later }
def DecTellsUptoCardSaid : Prop := Claim7.holds Tryd.pinned (.plain (OpenSpec.upto decTellsSpec)) decTellsUptoCard

/-- THE SECOND FORM's CARD OF 'tabulalaw01.DecPowers'. -/
def decPowersUptoCard : Claim7 := { stood := { row := decPowersUptoRow, standIns := [], harness := (true, "3b81961fe05859447e5de3bd50ec7a81079a260b056c2b8d17cf75860873b22a"), looks := false }, kinds := [], alts := [], laidByText := true, laidKinds := [.data, .pinned], laidTests := true, laidLooks := .later }
def DecPowersUptoCardSaid : Prop := Claim7.holds Tryd.pinned (.plain (OpenSpec.upto decPowersSpec)) decPowersUptoCard

/-- THE SECOND FORM's CARD OF 'tabulalaw01.DecTurns'. -/
def decTurnsUptoCard : Claim7 := { stood := { row := decTurnsUptoRow, standIns := [], harness := (true, "3b81961fe05859447e5de3bd50ec7a81079a260b056c2b8d17cf75860873b22a"), looks := false }, kinds := [], alts := [], laidByText := true, laidKinds := [.data, .pinned], laidTests := true, laidLooks := .later }
def DecTurnsUptoCardSaid : Prop := Claim7.holds Tryd.pinned (.plain (OpenSpec.upto decTurnsSpec)) decTurnsUptoCard

/-- THE SECOND FORM's CARD OF 'tabulalaw01.DecWhole'. -/
def decWholeUptoCard : Claim7 := { stood := { row := decWholeUptoRow, standIns := [], harness := (true, "3b81961fe05859447e5de3bd50ec7a81079a260b056c2b8d17cf75860873b22a"), looks := false }, kinds := [], alts := [], laidByText := true, laidKinds := [.data, .pinned], laidTests := true, laidLooks := .later }
def DecWholeUptoCardSaid : Prop := Claim7.holds Tryd.pinned (.plain (OpenSpec.upto decWholeSpec)) decWholeUptoCard

/-- THE SECOND FORM's CARD OF 'tabulalaw01.DecOrder'. -/
def decOrderUptoCard : Claim7 := { stood := { row := decOrderUptoRow, standIns := [], harness := (true, "3b81961fe05859447e5de3bd50ec7a81079a260b056c2b8d17cf75860873b22a"), looks := false }, kinds := [], alts := [], laidByText := true, laidKinds := [.data, .pinned], laidTests := true, laidLooks := .later }
def DecOrderUptoCardSaid : Prop := Claim7.holds Tryd.pinned (.plain (OpenSpec.upto decOrderSpec)) decOrderUptoCard

/-- THE SECOND FORM's CARD OF 'tabulalaw01.DecNear'. -/
def decNearUptoCard : Claim7 := { stood := { row := decNearUptoRow, standIns := [], harness := (true, "3b81961fe05859447e5de3bd50ec7a81079a260b056c2b8d17cf75860873b22a"), looks := false }, kinds := [], alts := [], laidByText := true, laidKinds := [.data, .pinned], laidTests := true, laidLooks := .later }
def DecNearUptoCardSaid : Prop := Claim7.holds Tryd.pinned (.plain (OpenSpec.upto decNearSpec)) decNearUptoCard

/-- THE SECOND FORM's CARD OF 'tabulalaw01.DecRounds'. -/
def decRoundsUptoCard : Claim7 := { stood := { row := decRoundsUptoRow, standIns := [], harness := (true, "3b81961fe05859447e5de3bd50ec7a81079a260b056c2b8d17cf75860873b22a"), looks := false }, kinds := [], alts := [], laidByText := true, laidKinds := [.data, .pinned], laidTests := true, laidLooks := .later }
def DecRoundsUptoCardSaid : Prop := Claim7.holds Tryd.pinned (.plain (OpenSpec.upto decRoundsSpec)) decRoundsUptoCard

/-- THE SECOND FORM's CARD OF 'tabulalaw01.DecFloors'. -/
def decFloorsUptoCard : Claim7 := { stood := { row := decFloorsUptoRow, standIns := [], harness := (true, "3b81961fe05859447e5de3bd50ec7a81079a260b056c2b8d17cf75860873b22a"), looks := false }, kinds := [], alts := [], laidByText := true, laidKinds := [.data, .pinned], laidTests := true, laidLooks := .later }
def DecFloorsUptoCardSaid : Prop := Claim7.holds Tryd.pinned (.plain (OpenSpec.upto decFloorsSpec)) decFloorsUptoCard

/-- THE SECOND FORM's CARD OF 'tabulalaw01.DecText'. -/
def decTextUptoCard : Claim7 := { stood := { row := decTextUptoRow, standIns := [], harness := (true, "3b81961fe05859447e5de3bd50ec7a81079a260b056c2b8d17cf75860873b22a"), looks := false }, kinds := [], alts := [], laidByText := true, laidKinds := [.data, .pinned], laidTests := true, laidLooks := .later }
def DecTextUptoCardSaid : Prop := Claim7.holds Tryd.pinned (.plain (OpenSpec.upto decTextSpec)) decTextUptoCard
end Rows
end Go.Proofs.YtpkohfdebgiloaaDoor
