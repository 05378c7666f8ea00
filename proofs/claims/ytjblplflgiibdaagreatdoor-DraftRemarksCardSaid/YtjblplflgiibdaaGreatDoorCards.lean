/-
  DERIVED. GIVEN WITH THE SEED: THE CARDS: each row of YtjblplflgiibdaaGreatDoorRows.lean that lists a variable, with what it lists TIED to the program's text (the seventh form; the later family's looks); each row that meets fmt, with fmt's text TOLD by the authors' own Lean function (tested against real Go, not proved from fmt's source: count such statements apart). THE CARD IS WHAT COUNTS. Prove the row's statement (the work); the ties are given (YtjblplflgiibdaaGreatDoorTie.lean); close each card by the builder's one call (the guide's Derived/Test/ToyasCard.lean, 'card_holds'). Laid BY PROGRAM, IN A SANDBOX (cutbox-door.mjs). By AI agents, Wed Nov 11 2026. No macro, syntax, notation, axiom, sorry.
-/
import Derived.Test.YtjblplflgiibdaaGreatDoorRows
import GoSem.ClaimSeven
namespace Go.Proofs.YtjblplflgiibdaaGreatDoor
namespace Rows

/-- THE TIED CARD OF 'semaphorelaw3.DraftParses'. -/
def draftParsesCard : Claim7 := { stood := { row := draftParsesRow, standIns := [], harness := (true, "3e3a8a881531b5e3eaa9130141209cde3d3b4d5ee431809ef815196f57cd6b74"), looks := false }, kinds := [], alts := [], laidByText := true, laidKinds := [.data, .data, .data, .data, .pinned], laidTests := true, laidLooks := .later }
def DraftParsesCardSaid : Prop := Claim7.holds Tryz.pinned (.plain (OpenSpec.ofChange draftParsesSpec)) draftParsesCard

/-- THE TIED CARD OF 'semaphorelaw3.DraftPrints'. -/
def draftPrintsCard : Claim7 := { stood := { row := draftPrintsRow, standIns := [], harness := (true, "3e3a8a881531b5e3eaa9130141209cde3d3b4d5ee431809ef815196f57cd6b74"), looks := false }, kinds := [], alts := [], laidByText := true, laidKinds := [.data, .data, .data, .data, .pinned], laidTests := true, laidLooks := .later }
def DraftPrintsCardSaid : Prop := Claim7.holds Tryz.pinned (.plain (OpenSpec.ofChange draftPrintsSpec)) draftPrintsCard

/-- THE TIED CARD OF 'semaphorelaw3.DraftBack'. -/
def draftBackCard : Claim7 := { stood := { row := draftBackRow, standIns := [], harness := (true, "3e3a8a881531b5e3eaa9130141209cde3d3b4d5ee431809ef815196f57cd6b74"), looks := false }, kinds := [], alts := [], laidByText := true, laidKinds := [.data, .data, .data, .data, .pinned], laidTests := true, laidLooks := .later }
def DraftBackCardSaid : Prop := Claim7.holds Tryz.pinned (.plain (OpenSpec.ofChange draftBackSpec)) draftBackCard

/-- THE TIED CARD OF 'semaphorelaw3.DraftRemarks'. -/
def draftRemarksCard : Claim7 := { stood := { row := draftRemarksRow, standIns := [], harness := (true, "3e3a8a881531b5e3eaa9130141209cde3d3b4d5ee431809ef815196f57cd6b74"), looks := false }, kinds := [], alts := [], laidByText := true, laidKinds := [.data, .data, .data, .data, .pinned], laidTests := true, laidLooks := .later }
def DraftRemarksCardSaid : Prop := Claim7.holds Tryz.pinned (.plain (OpenSpec.ofChange draftRemarksSpec)) draftRemarksCard

/-- THE TIED CARD OF 'semaphorelaw3.DraftWrong'. -/
def draftWrongCard : Claim7 := { stood := { row := draftWrongRow, standIns := [], harness := (true, "3e3a8a881531b5e3eaa9130141209cde3d3b4d5ee431809ef815196f57cd6b74"), looks := false }, kinds := [], alts := [], laidByText := true, laidKinds := [.data, .data, .data, .data, .pinned], laidTests := true, laidLooks := .later }
def DraftWrongCardSaid : Prop := Claim7.holds Tryz.pinned (.plain (OpenSpec.ofChange draftWrongSpec)) draftWrongCard

/-- THE TIED CARD OF 'semaphorelaw3.DraftLate'. -/
def draftLateCard : Claim7 := { stood := { row := draftLateRow, standIns := [], harness := (true, "3e3a8a881531b5e3eaa9130141209cde3d3b4d5ee431809ef815196f57cd6b74"), looks := false }, kinds := [], alts := [], laidByText := true, laidKinds := [.data, .data, .data, .data, .pinned], laidTests := true, laidLooks := .later }
def DraftLateCardSaid : Prop := Claim7.holds Tryz.pinned (.plain (OpenSpec.ofChange draftLateSpec)) draftLateCard

/-- THE SECOND FORM's CARD OF 'semaphorelaw3.DraftParses'. -/
def draftParsesUptoCard : Claim7 := { stood := { row := draftParsesUptoRow, standIns := [], harness := (true, "3e3a8a881531b5e3eaa9130141209cde3d3b4d5ee431809ef815196f57cd6b74"), looks := false }, kinds := [], alts := [], laidByText := true, laidKinds := [.data, .data, .data, .data, .pinned], laidTests := true, laidLooks := .later }
def DraftParsesUptoCardSaid : Prop := Claim7.holds Tryz.pinned (.plain (OpenSpec.upto draftParsesSpec)) draftParsesUptoCard

/-- THE SECOND FORM's CARD OF 'semaphorelaw3.DraftPrints'. -/
def draftPrintsUptoCard : Claim7 := { stood := { row := draftPrintsUptoRow, standIns := [], harness := (true, "3e3a8a881531b5e3eaa9130141209cde3d3b4d5ee431809ef815196f57cd6b74"), looks := false }, kinds := [], alts := [], laidByText := true, laidKinds := [.data, .data, .data, .data, .pinned], laidTests := true, laidLooks := .later }
def DraftPrintsUptoCardSaid : Prop := Claim7.holds Tryz.pinned (.plain (OpenSpec.upto draftPrintsSpec)) draftPrintsUptoCard

/-- THE SECOND FORM's CARD OF 'semaphorelaw3.DraftBack'. -/
def draftBackUptoCard : Claim7 := { stood := { row := draftBackUptoRow, standIns := [], harness := (true, "3e3a8a881531b5e3eaa9130141209cde3d3b4d5ee431809ef815196f57cd6b74"), looks := false }, kinds := [], alts := [], laidByText := true, laidKinds := [.data, .data, .data, .data, .pinned], laidTests := true, laidLooks := .later }
def DraftBackUptoCardSaid : Prop := Claim7.holds Tryz.pinned (.plain (OpenSpec.upto draftBackSpec)) draftBackUptoCard

/-- THE SECOND FORM's CARD OF 'semaphorelaw3.DraftRemarks'. -/
def draftRemarksUptoCard : Claim7 := { stood := { row := draftRemarksUptoRow, standIns := [], harness := (true, "3e3a8a881531b5e3eaa9130141209cde3d3b4d5ee431809ef815196f57cd6b74"), looks := false }, kinds := [], alts := [], laidByText := true, laidKinds := [.data, .data, .data, .data, .pinned], laidTests := true, laidLooks := .later }
def DraftRemarksUptoCardSaid : Prop := Claim7.holds Tryz.pinned (.plain (OpenSpec.upto draftRemarksSpec)) draftRemarksUptoCard

/-- THE SECOND FORM's CARD OF 'semaphorelaw3.DraftWrong'. -/
def draftWrongUptoCard : Claim7 := { stood := { row := draftWrongUptoRow, standIns := [], harness := (true, "3e3a8a881531b5e3eaa9130141209cde3d3b4d5ee431809ef815196f57cd6b74"), looks := false }, kinds := [], alts := [], laidByText := true, laidKinds := [.data, .data, .data, .data, .pinned], laidTests := true, laidLooks := .later }
def DraftWrongUptoCardSaid : Prop := Claim7.holds Tryz.pinned (.plain (OpenSpec.upto draftWrongSpec)) draftWrongUptoCard

/-- THE SECOND FORM's CARD OF 'semaphorelaw3.DraftLate'. -/
def draftLateUptoCard : Claim7 := { stood := { row := draftLateUptoRow, standIns := [], harness := (true, "3e3a8a881531b5e3eaa9130141209cde3d3b4d5ee431809ef815196f57cd6b74"), looks := false }, kinds := [], alts := [], laidByText := true, laidKinds := [.data, .data, .data, .data, .pinned], laidTests := true, laidLooks := .later }
def DraftLateUptoCardSaid : Prop := Claim7.holds Tryz.pinned (.plain (OpenSpec.upto draftLateSpec)) draftLateUptoCard
end Rows
end Go.Proofs.YtjblplflgiibdaaGreatDoor
