/-
  DERIVED. GIVEN WITH THE SEED: THE CARDS: each row of YtgjnlgcdpbilfaaGreatDoorRows.lean that lists a variable, with what it lists TIED to the program's text (the seventh form; the later family's looks); each row that meets fmt, with fmt's text TOLD by the authors' own Lean function (tested against real Go, not proved from fmt's source: count such statements apart). THE CARD IS WHAT COUNTS. Prove the row's statement (the work); the ties are given (YtgjnlgcdpbilfaaGreatDoorTie.lean); close each card by the builder's one call (the guide's Derived/Test/ToyasCard.lean, 'card_holds'). Laid BY PROGRAM, IN A SANDBOX (cutbox-door.mjs). By AI agents, Wed Nov 11 2026. No macro, syntax, notation, axiom, sorry.
-/
import Derived.Test.YtgjnlgcdpbilfaaGreatDoorRows
import GoSem.ClaimSeven
namespace Go.Proofs.YtgjnlgcdpbilfaaGreatDoor
namespace Rows

/-- THE TIED CARD OF 'semaphorelaw30.DiagramChecks'. -/
def diagramChecksCard : Claim7 := { stood := { row := diagramChecksRow, standIns := [], harness := (true, "b8a931e38a8c40f2334750611a73aadb8655b68079041cde532e90a682d49043"), looks := false }, kinds := [], alts := [], laidByText := true, laidKinds := [.data, .data, .data, .data, .pinned], laidTests := true, laidLooks := .later }
def DiagramChecksCardSaid : Prop := Claim7.holds Tryz.pinned (.plain (OpenSpec.ofChange diagramChecksSpec)) diagramChecksCard

/-- THE TIED CARD OF 'semaphorelaw30.DiagramTexts'. -/
def diagramTextsCard : Claim7 := { stood := { row := diagramTextsRow, standIns := [], harness := (true, "b8a931e38a8c40f2334750611a73aadb8655b68079041cde532e90a682d49043"), looks := false }, kinds := [], alts := [], laidByText := true, laidKinds := [.data, .data, .data, .data, .pinned], laidTests := true, laidLooks := .later }
def DiagramTextsCardSaid : Prop := Claim7.holds Tryz.pinned (.plain (OpenSpec.ofChange diagramTextsSpec)) diagramTextsCard

/-- THE TIED CARD OF 'semaphorelaw30.DiagramReads'. -/
def diagramReadsCard : Claim7 := { stood := { row := diagramReadsRow, standIns := [], harness := (true, "b8a931e38a8c40f2334750611a73aadb8655b68079041cde532e90a682d49043"), looks := false }, kinds := [], alts := [], laidByText := true, laidKinds := [.data, .data, .data, .data, .pinned], laidTests := true, laidLooks := .later }
def DiagramReadsCardSaid : Prop := Claim7.holds Tryz.pinned (.plain (OpenSpec.ofChange diagramReadsSpec)) diagramReadsCard

/-- THE TIED CARD OF 'semaphorelaw30.DiagramSpoilt'. -/
def diagramSpoiltCard : Claim7 := { stood := { row := diagramSpoiltRow, standIns := [], harness := (true, "b8a931e38a8c40f2334750611a73aadb8655b68079041cde532e90a682d49043"), looks := false }, kinds := [], alts := [], laidByText := true, laidKinds := [.data, .data, .data, .data, .pinned], laidTests := true, laidLooks := .later }
def DiagramSpoiltCardSaid : Prop := Claim7.holds Tryz.pinned (.plain (OpenSpec.ofChange diagramSpoiltSpec)) diagramSpoiltCard

/-- THE TIED CARD OF 'semaphorelaw30.DiagramFewer'. -/
def diagramFewerCard : Claim7 := { stood := { row := diagramFewerRow, standIns := [], harness := (true, "b8a931e38a8c40f2334750611a73aadb8655b68079041cde532e90a682d49043"), looks := false }, kinds := [], alts := [], laidByText := true, laidKinds := [.data, .data, .data, .data, .pinned], laidTests := true, laidLooks := .later }
def DiagramFewerCardSaid : Prop := Claim7.holds Tryz.pinned (.plain (OpenSpec.ofChange diagramFewerSpec)) diagramFewerCard

/-- THE TIED CARD OF 'semaphorelaw30.DiagramLater'. -/
def diagramLaterCard : Claim7 := { stood := { row := diagramLaterRow, standIns := [], harness := (true, "b8a931e38a8c40f2334750611a73aadb8655b68079041cde532e90a682d49043"), looks := false }, kinds := [], alts := [], laidByText := true, laidKinds := [.data, .data, .data, .data, .pinned], laidTests := true, laidLooks := .later }
def DiagramLaterCardSaid : Prop := Claim7.holds Tryz.pinned (.plain (OpenSpec.ofChange diagramLaterSpec)) diagramLaterCard

/-- THE TIED CARD OF 'semaphorelaw30.DiagramStock'. -/
def diagramStockCard : Claim7 := { stood := { row := diagramStockRow, standIns := [], harness := (true, "b8a931e38a8c40f2334750611a73aadb8655b68079041cde532e90a682d49043"), looks := false }, kinds := [], alts := [], laidByText := true, laidKinds := [.data, .data, .data, .data, .pinned], laidTests := true, laidLooks := .later }
def DiagramStockCardSaid : Prop := Claim7.holds Tryz.pinned (.plain (OpenSpec.ofChange diagramStockSpec)) diagramStockCard

/-- THE SECOND FORM's CARD OF 'semaphorelaw30.DiagramChecks'. -/
def diagramChecksUptoCard : Claim7 := { stood := { row := diagramChecksUptoRow, standIns := [], harness := (true, "b8a931e38a8c40f2334750611a73aadb8655b68079041cde532e90a682d49043"), looks := false }, kinds := [], alts := [], laidByText := true, laidKinds := [.data, .data, .data, .data, .pinned], laidTests := true, laidLooks := .later }
def DiagramChecksUptoCardSaid : Prop := Claim7.holds Tryz.pinned (.plain (OpenSpec.upto diagramChecksSpec)) diagramChecksUptoCard

/-- THE SECOND FORM's CARD OF 'semaphorelaw30.DiagramTexts'. -/
def diagramTextsUptoCard : Claim7 := { stood := { row := diagramTextsUptoRow, standIns := [], harness := (true, "b8a931e38a8c40f2334750611a73aadb8655b68079041cde532e90a682d49043"), looks := false }, kinds := [], alts := [], laidByText := true, laidKinds := [.data, .data, .data, .data, .pinned], laidTests := true, laidLooks := .later }
def DiagramTextsUptoCardSaid : Prop := Claim7.holds Tryz.pinned (.plain (OpenSpec.upto diagramTextsSpec)) diagramTextsUptoCard

/-- THE SECOND FORM's CARD OF 'semaphorelaw30.DiagramReads'. -/
def diagramReadsUptoCard : Claim7 := { stood := { row := diagramReadsUptoRow, standIns := [], harness := (true, "b8a931e38a8c40f2334750611a73aadb8655b68079041cde532e90a682d49043"), looks := false }, kinds := [], alts := [], laidByText := true, laidKinds := [.data, .data, .data, .data, .pinned], laidTests := true, laidLooks := .later }
def DiagramReadsUptoCardSaid : Prop := Claim7.holds Tryz.pinned (.plain (OpenSpec.upto diagramReadsSpec)) diagramReadsUptoCard

/-- THE SECOND FORM's CARD OF 'semaphorelaw30.DiagramSpoilt'. -/
def diagramSpoiltUptoCard : Claim7 := { stood := { row := diagramSpoiltUptoRow, standIns := [], harness := (true, "b8a931e38a8c40f2334750611a73aadb8655b68079041cde532e90a682d49043"), looks := false }, kinds := [], alts := [], laidByText := true, laidKinds := [.data, .data, .data, .data, .pinned], laidTests := true, laidLooks := .later }
def DiagramSpoiltUptoCardSaid : Prop := Claim7.holds Tryz.pinned (.plain (OpenSpec.upto diagramSpoiltSpec)) diagramSpoiltUptoCard

/-- THE SECOND FORM's CARD OF 'semaphorelaw30.DiagramFewer'. -/
def diagramFewerUptoCard : Claim7 := { stood := { row := diagramFewerUptoRow, standIns := [], harness := (true, "b8a931e38a8c40f2334750611a73aadb8655b68079041cde532e90a682d49043"), looks := false }, kinds := [], alts := [], laidByText := true, laidKinds := [.data, .data, .data, .data, .pinned], laidTests := true, laidLooks := .later }
def DiagramFewerUptoCardSaid : Prop := Claim7.holds Tryz.pinned (.plain (OpenSpec.upto diagramFewerSpec)) diagramFewerUptoCard

/-- THE SECOND FORM's CARD OF 'semaphorelaw30.DiagramLater'. -/
def diagramLaterUptoCard : Claim7 := { stood := { row := diagramLaterUptoRow, standIns := [], harness := (true, "b8a931e38a8c40f2334750611a73aadb8655b68079041cde532e90a682d49043"), looks := false }, kinds := [], alts := [], laidByText := true, laidKinds := [.data, .data, .data, .data, .pinned], laidTests := true, laidLooks := .later }
def DiagramLaterUptoCardSaid : Prop := Claim7.holds Tryz.pinned (.plain (OpenSpec.upto diagramLaterSpec)) diagramLaterUptoCard

/-- THE SECOND FORM's CARD OF 'semaphorelaw30.DiagramStock'. -/
def diagramStockUptoCard : Claim7 := { stood := { row := diagramStockUptoRow, standIns := [], harness := (true, "b8a931e38a8c40f2334750611a73aadb8655b68079041cde532e90a682d49043"), looks := false }, kinds := [], alts := [], laidByText := true, laidKinds := [.data, .data, .data, .data, .pinned], laidTests := true, laidLooks := .later }
def DiagramStockUptoCardSaid : Prop := Claim7.holds Tryz.pinned (.plain (OpenSpec.upto diagramStockSpec)) diagramStockUptoCard
end Rows
end Go.Proofs.YtgjnlgcdpbilfaaGreatDoor
