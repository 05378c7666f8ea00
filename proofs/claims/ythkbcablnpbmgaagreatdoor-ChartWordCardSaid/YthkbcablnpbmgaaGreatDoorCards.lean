/-
  DERIVED. GIVEN WITH THE SEED: THE CARDS: each row of YthkbcablnpbmgaaGreatDoorRows.lean that lists a variable, with what it lists TIED to the program's text (the seventh form; the later family's looks); each row that meets fmt, with fmt's text TOLD by the authors' own Lean function (tested against real Go, not proved from fmt's source: count such statements apart). THE CARD IS WHAT COUNTS. Prove the row's statement (the work); the ties are given (YthkbcablnpbmgaaGreatDoorTie.lean); close each card by the builder's one call (the guide's Derived/Test/ToyasCard.lean, 'card_holds'). Laid BY PROGRAM, IN A SANDBOX (cutbox-door.mjs). By AI agents, Wed Nov 11 2026. No macro, syntax, notation, axiom, sorry.
-/
import Derived.Test.YthkbcablnpbmgaaGreatDoorRows
import GoSem.ClaimSeven
namespace Go.Proofs.YthkbcablnpbmgaaGreatDoor
namespace Rows

/-- THE TIED CARD OF 'semaphorelaw11.ChartBuilds'. -/
def chartBuildsCard : Claim7 := { stood := { row := chartBuildsRow, standIns := [], harness := (true, "f675395f9495289439fa50a8eb67c0fe0f17c6952fb59bc769c9ea6f3cfa25fa"), looks := false }, kinds := [], alts := [], laidByText := true, laidKinds := [.data, .data, .data, .data, .pinned], laidTests := true, laidLooks := .later }
def ChartBuildsCardSaid : Prop := Claim7.holds Tryz.pinned (.plain (OpenSpec.ofChange chartBuildsSpec)) chartBuildsCard

/-- THE TIED CARD OF 'semaphorelaw11.ChartWord'. -/
def chartWordCard : Claim7 := { stood := { row := chartWordRow, standIns := [], harness := (true, "f675395f9495289439fa50a8eb67c0fe0f17c6952fb59bc769c9ea6f3cfa25fa"), looks := false }, kinds := [], alts := [], laidByText := true, laidKinds := [.data, .data, .data, .data, .pinned], laidTests := true, laidLooks := .later }
def ChartWordCardSaid : Prop := Claim7.holds Tryz.pinned (.plain (OpenSpec.ofChange chartWordSpec)) chartWordCard

/-- THE SECOND FORM's CARD OF 'semaphorelaw11.ChartBuilds'. -/
def chartBuildsUptoCard : Claim7 := { stood := { row := chartBuildsUptoRow, standIns := [], harness := (true, "f675395f9495289439fa50a8eb67c0fe0f17c6952fb59bc769c9ea6f3cfa25fa"), looks := false }, kinds := [], alts := [], laidByText := true, laidKinds := [.data, .data, .data, .data, .pinned], laidTests := true, laidLooks := .later }
def ChartBuildsUptoCardSaid : Prop := Claim7.holds Tryz.pinned (.plain (OpenSpec.upto chartBuildsSpec)) chartBuildsUptoCard

/-- THE SECOND FORM's CARD OF 'semaphorelaw11.ChartWord'. -/
def chartWordUptoCard : Claim7 := { stood := { row := chartWordUptoRow, standIns := [], harness := (true, "f675395f9495289439fa50a8eb67c0fe0f17c6952fb59bc769c9ea6f3cfa25fa"), looks := false }, kinds := [], alts := [], laidByText := true, laidKinds := [.data, .data, .data, .data, .pinned], laidTests := true, laidLooks := .later }
def ChartWordUptoCardSaid : Prop := Claim7.holds Tryz.pinned (.plain (OpenSpec.upto chartWordSpec)) chartWordUptoCard
end Rows
end Go.Proofs.YthkbcablnpbmgaaGreatDoor
