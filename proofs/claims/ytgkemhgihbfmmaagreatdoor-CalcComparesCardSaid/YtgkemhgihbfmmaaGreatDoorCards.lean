/-
  DERIVED. GIVEN WITH THE SEED: THE CARDS: each row of YtgkemhgihbfmmaaGreatDoorRows.lean that lists a variable, with what it lists TIED to the program's text (the seventh form; the later family's looks); each row that meets fmt, with fmt's text TOLD by the authors' own Lean function (tested against real Go, not proved from fmt's source: count such statements apart). THE CARD IS WHAT COUNTS. Prove the row's statement (the work); the ties are given (YtgkemhgihbfmmaaGreatDoorTie.lean); close each card by the builder's one call (the guide's Derived/Test/ToyasCard.lean, 'card_holds'). Laid BY PROGRAM, IN A SANDBOX (cutbox-door.mjs). By AI agents, Wed Nov 11 2026. No macro, syntax, notation, axiom, sorry.
-/
import Derived.Test.YtgkemhgihbfmmaaGreatDoorRows
import GoSem.ClaimSeven
namespace Go.Proofs.YtgkemhgihbfmmaaGreatDoor
namespace Rows

/-- THE TIED CARD OF 'soffitlaw11.CalcIfs'. -/
def calcIfsCard : Claim7 := { stood := { row := calcIfsRow, standIns := [], harness := (true, "21b94315d72cee8e0a92b2b5208ea2de76a9b965bc5700dee5f120aecc94f77f"), looks := true }, kinds := [], alts := [], laidByText := true, laidKinds := [.data, .data, .data, .data, .sentinel, .sentinel, .data, .pinned], laidTests := true, laidLooks := .later }
def CalcIfsCardSaid : Prop := Claim7.holds Tryz.pinned (.plain (OpenSpec.ofChange calcIfsSpec)) calcIfsCard

/-- THE TIED CARD OF 'soffitlaw11.CalcSides'. -/
def calcSidesCard : Claim7 := { stood := { row := calcSidesRow, standIns := [], harness := (true, "21b94315d72cee8e0a92b2b5208ea2de76a9b965bc5700dee5f120aecc94f77f"), looks := true }, kinds := [], alts := [], laidByText := true, laidKinds := [.data, .data, .data, .data, .sentinel, .sentinel, .data, .pinned], laidTests := true, laidLooks := .later }
def CalcSidesCardSaid : Prop := Claim7.holds Tryz.pinned (.plain (OpenSpec.ofChange calcSidesSpec)) calcSidesCard

/-- THE TIED CARD OF 'soffitlaw01.DeciAdds'. -/
def deciAddsCard : Claim7 := { stood := { row := deciAddsRow, standIns := [], harness := (true, "21b94315d72cee8e0a92b2b5208ea2de76a9b965bc5700dee5f120aecc94f77f"), looks := true }, kinds := [], alts := [], laidByText := true, laidKinds := [.data, .data, .data, .data, .sentinel, .sentinel, .pinned], laidTests := true, laidLooks := .later }
def DeciAddsCardSaid : Prop := Claim7.holds Tryz.pinned (.plain (OpenSpec.ofChange deciAddsSpec)) deciAddsCard

/-- THE TIED CARD OF 'soffitlaw01.DeciCompares'. -/
def deciComparesCard : Claim7 := { stood := { row := deciComparesRow, standIns := [], harness := (true, "21b94315d72cee8e0a92b2b5208ea2de76a9b965bc5700dee5f120aecc94f77f"), looks := true }, kinds := [], alts := [], laidByText := true, laidKinds := [.data, .data, .data, .data, .sentinel, .sentinel, .pinned], laidTests := true, laidLooks := .later }
def DeciComparesCardSaid : Prop := Claim7.holds Tryz.pinned (.plain (OpenSpec.ofChange deciComparesSpec)) deciComparesCard

/-- THE TIED CARD OF 'soffitlaw11.CalcEvals'. -/
def calcEvalsCard : Claim7 := { stood := { row := calcEvalsRow, standIns := [], harness := (true, "21b94315d72cee8e0a92b2b5208ea2de76a9b965bc5700dee5f120aecc94f77f"), looks := true }, kinds := [], alts := [], laidByText := true, laidKinds := [.data, .data, .data, .data, .sentinel, .sentinel, .data, .pinned], laidTests := true, laidLooks := .later }
def CalcEvalsCardSaid : Prop := Claim7.holds Tryz.pinned (.plain (OpenSpec.ofChange calcEvalsSpec)) calcEvalsCard

/-- THE TIED CARD OF 'soffitlaw11.CalcTexts'. -/
def calcTextsCard : Claim7 := { stood := { row := calcTextsRow, standIns := [], harness := (true, "21b94315d72cee8e0a92b2b5208ea2de76a9b965bc5700dee5f120aecc94f77f"), looks := true }, kinds := [], alts := [], laidByText := true, laidKinds := [.data, .data, .data, .data, .sentinel, .sentinel, .data, .pinned], laidTests := true, laidLooks := .later }
def CalcTextsCardSaid : Prop := Claim7.holds Tryz.pinned (.plain (OpenSpec.ofChange calcTextsSpec)) calcTextsCard

/-- THE TIED CARD OF 'soffitlaw11.CalcCompares'. -/
def calcComparesCard : Claim7 := { stood := { row := calcComparesRow, standIns := [], harness := (true, "21b94315d72cee8e0a92b2b5208ea2de76a9b965bc5700dee5f120aecc94f77f"), looks := true }, kinds := [], alts := [], laidByText := true, laidKinds := [.data, .data, .data, .data, .sentinel, .sentinel, .data, .pinned], laidTests := true, laidLooks := .later }
def CalcComparesCardSaid : Prop := Claim7.holds Tryz.pinned (.plain (OpenSpec.ofChange calcComparesSpec)) calcComparesCard

/-- THE TIED CARD OF 'soffitlaw11.CalcThree'. -/
def calcThreeCard : Claim7 := { stood := { row := calcThreeRow, standIns := [], harness := (true, "21b94315d72cee8e0a92b2b5208ea2de76a9b965bc5700dee5f120aecc94f77f"), looks := true }, kinds := [], alts := [], laidByText := true, laidKinds := [.data, .data, .data, .data, .sentinel, .sentinel, .data, .pinned], laidTests := true, laidLooks := .later }
def CalcThreeCardSaid : Prop := Claim7.holds Tryz.pinned (.plain (OpenSpec.ofChange calcThreeSpec)) calcThreeCard

/-- THE TIED CARD OF 'soffitlaw11.CalcSound'. -/
def calcSoundCard : Claim7 := { stood := { row := calcSoundRow, standIns := [], harness := (true, "21b94315d72cee8e0a92b2b5208ea2de76a9b965bc5700dee5f120aecc94f77f"), looks := true }, kinds := [], alts := [], laidByText := true, laidKinds := [.data, .data, .data, .data, .sentinel, .sentinel, .data, .pinned], laidTests := true, laidLooks := .later }
def CalcSoundCardSaid : Prop := Claim7.holds Tryz.pinned (.plain (OpenSpec.ofChange calcSoundSpec)) calcSoundCard

/-- THE SECOND FORM's CARD OF 'soffitlaw11.CalcIfs'. -/
def calcIfsUptoCard : Claim7 := { stood := { row := calcIfsUptoRow, standIns := [], harness := (true, "21b94315d72cee8e0a92b2b5208ea2de76a9b965bc5700dee5f120aecc94f77f"), looks := true }, kinds := [], alts := [], laidByText := true, laidKinds := [.data, .data, .data, .data, .sentinel, .sentinel, .data, .pinned], laidTests := true, laidLooks := .later }
def CalcIfsUptoCardSaid : Prop := Claim7.holds Tryz.pinned (.plain (OpenSpec.upto calcIfsSpec)) calcIfsUptoCard

/-- THE SECOND FORM's CARD OF 'soffitlaw11.CalcSides'. -/
def calcSidesUptoCard : Claim7 := { stood := { row := calcSidesUptoRow, standIns := [], harness := (true, "21b94315d72cee8e0a92b2b5208ea2de76a9b965bc5700dee5f120aecc94f77f"), looks := true }, kinds := [], alts := [], laidByText := true, laidKinds := [.data, .data, .data, .data, .sentinel, .sentinel, .data, .pinned], laidTests := true, laidLooks := .later }
def CalcSidesUptoCardSaid : Prop := Claim7.holds Tryz.pinned (.plain (OpenSpec.upto calcSidesSpec)) calcSidesUptoCard

/-- THE SECOND FORM's CARD OF 'soffitlaw01.DeciAdds'. -/
def deciAddsUptoCard : Claim7 := { stood := { row := deciAddsUptoRow, standIns := [], harness := (true, "21b94315d72cee8e0a92b2b5208ea2de76a9b965bc5700dee5f120aecc94f77f"), looks := true }, kinds := [], alts := [], laidByText := true, laidKinds := [.data, .data, .data, .data, .sentinel, .sentinel, .pinned], laidTests := true, laidLooks := .later }
def DeciAddsUptoCardSaid : Prop := Claim7.holds Tryz.pinned (.plain (OpenSpec.upto deciAddsSpec)) deciAddsUptoCard

/-- THE SECOND FORM's CARD OF 'soffitlaw01.DeciCompares'. -/
def deciComparesUptoCard : Claim7 := { stood := { row := deciComparesUptoRow, standIns := [], harness := (true, "21b94315d72cee8e0a92b2b5208ea2de76a9b965bc5700dee5f120aecc94f77f"), looks := true }, kinds := [], alts := [], laidByText := true, laidKinds := [.data, .data, .data, .data, .sentinel, .sentinel, .pinned], laidTests := true, laidLooks := .later }
def DeciComparesUptoCardSaid : Prop := Claim7.holds Tryz.pinned (.plain (OpenSpec.upto deciComparesSpec)) deciComparesUptoCard

/-- THE SECOND FORM's CARD OF 'soffitlaw11.CalcEvals'. -/
def calcEvalsUptoCard : Claim7 := { stood := { row := calcEvalsUptoRow, standIns := [], harness := (true, "21b94315d72cee8e0a92b2b5208ea2de76a9b965bc5700dee5f120aecc94f77f"), looks := true }, kinds := [], alts := [], laidByText := true, laidKinds := [.data, .data, .data, .data, .sentinel, .sentinel, .data, .pinned], laidTests := true, laidLooks := .later }
def CalcEvalsUptoCardSaid : Prop := Claim7.holds Tryz.pinned (.plain (OpenSpec.upto calcEvalsSpec)) calcEvalsUptoCard

/-- THE SECOND FORM's CARD OF 'soffitlaw11.CalcTexts'. -/
def calcTextsUptoCard : Claim7 := { stood := { row := calcTextsUptoRow, standIns := [], harness := (true, "21b94315d72cee8e0a92b2b5208ea2de76a9b965bc5700dee5f120aecc94f77f"), looks := true }, kinds := [], alts := [], laidByText := true, laidKinds := [.data, .data, .data, .data, .sentinel, .sentinel, .data, .pinned], laidTests := true, laidLooks := .later }
def CalcTextsUptoCardSaid : Prop := Claim7.holds Tryz.pinned (.plain (OpenSpec.upto calcTextsSpec)) calcTextsUptoCard

/-- THE SECOND FORM's CARD OF 'soffitlaw11.CalcCompares'. -/
def calcComparesUptoCard : Claim7 := { stood := { row := calcComparesUptoRow, standIns := [], harness := (true, "21b94315d72cee8e0a92b2b5208ea2de76a9b965bc5700dee5f120aecc94f77f"), looks := true }, kinds := [], alts := [], laidByText := true, laidKinds := [.data, .data, .data, .data, .sentinel, .sentinel, .data, .pinned], laidTests := true, laidLooks := .later }
def CalcComparesUptoCardSaid : Prop := Claim7.holds Tryz.pinned (.plain (OpenSpec.upto calcComparesSpec)) calcComparesUptoCard

/-- THE SECOND FORM's CARD OF 'soffitlaw11.CalcThree'. -/
def calcThreeUptoCard : Claim7 := { stood := { row := calcThreeUptoRow, standIns := [], harness := (true, "21b94315d72cee8e0a92b2b5208ea2de76a9b965bc5700dee5f120aecc94f77f"), looks := true }, kinds := [], alts := [], laidByText := true, laidKinds := [.data, .data, .data, .data, .sentinel, .sentinel, .data, .pinned], laidTests := true, laidLooks := .later }
def CalcThreeUptoCardSaid : Prop := Claim7.holds Tryz.pinned (.plain (OpenSpec.upto calcThreeSpec)) calcThreeUptoCard

/-- THE SECOND FORM's CARD OF 'soffitlaw11.CalcSound'. -/
def calcSoundUptoCard : Claim7 := { stood := { row := calcSoundUptoRow, standIns := [], harness := (true, "21b94315d72cee8e0a92b2b5208ea2de76a9b965bc5700dee5f120aecc94f77f"), looks := true }, kinds := [], alts := [], laidByText := true, laidKinds := [.data, .data, .data, .data, .sentinel, .sentinel, .data, .pinned], laidTests := true, laidLooks := .later }
def CalcSoundUptoCardSaid : Prop := Claim7.holds Tryz.pinned (.plain (OpenSpec.upto calcSoundSpec)) calcSoundUptoCard
end Rows
end Go.Proofs.YtgkemhgihbfmmaaGreatDoor
