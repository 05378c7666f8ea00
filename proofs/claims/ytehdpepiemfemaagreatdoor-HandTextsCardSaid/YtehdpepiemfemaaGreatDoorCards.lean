/-
  DERIVED. GIVEN WITH THE SEED: THE CARDS: each row of YtehdpepiemfemaaGreatDoorRows.lean that lists a variable, with what it lists TIED to the program's text (the seventh form; the later family's looks); each row that meets fmt, with fmt's text TOLD by the authors' own Lean function (tested against real Go, not proved from fmt's source: count such statements apart). THE CARD IS WHAT COUNTS. Prove the row's statement (the work); the ties are given (YtehdpepiemfemaaGreatDoorTie.lean); close each card by the builder's one call (the guide's Derived/Test/ToyasCard.lean, 'card_holds'). Laid BY PROGRAM, IN A SANDBOX (cutbox-door.mjs). By AI agents, Wed Nov 11 2026. No macro, syntax, notation, axiom, sorry.
-/
import Derived.Test.YtehdpepiemfemaaGreatDoorRows
import GoSem.ClaimSeven
namespace Go.Proofs.YtehdpepiemfemaaGreatDoor
namespace Rows

/-- THE TIED CARD OF 'semaphorelaw25.HandForms'. -/
def handFormsCard : Claim7 := { stood := { row := handFormsRow, standIns := [], harness := (true, "f10796eb8b29bd04bb8e767abb59ab473c84ae591f2c1bd6c7b14b744055771c"), looks := false }, kinds := [], alts := [], laidByText := true, laidKinds := [.data, .pinned], laidTests := true, laidLooks := .later }
def HandFormsCardSaid : Prop := Claim7.holds Tryz.pinned (.plain (OpenSpec.ofChange handFormsSpec)) handFormsCard

/-- THE TIED CARD OF 'semaphorelaw25.HandTexts'. -/
def handTextsCard : Claim7 := { stood := { row := handTextsRow, standIns := [], harness := (true, "f10796eb8b29bd04bb8e767abb59ab473c84ae591f2c1bd6c7b14b744055771c"), looks := false }, kinds := [], alts := [], laidByText := true, laidKinds := [.data, .data, .data, .data, .pinned], laidTests := true, laidLooks := .later }
def HandTextsCardSaid : Prop := Claim7.holds Tryz.pinned (.plain (OpenSpec.ofChange handTextsSpec)) handTextsCard

/-- THE TIED CARD OF 'semaphorelaw25.HandReads'. -/
def handReadsCard : Claim7 := { stood := { row := handReadsRow, standIns := [], harness := (true, "f10796eb8b29bd04bb8e767abb59ab473c84ae591f2c1bd6c7b14b744055771c"), looks := false }, kinds := [], alts := [], laidByText := true, laidKinds := [.data, .data, .data, .data, .pinned], laidTests := true, laidLooks := .later }
def HandReadsCardSaid : Prop := Claim7.holds Tryz.pinned (.plain (OpenSpec.ofChange handReadsSpec)) handReadsCard

/-- THE SECOND FORM's CARD OF 'semaphorelaw25.HandForms'. -/
def handFormsUptoCard : Claim7 := { stood := { row := handFormsUptoRow, standIns := [], harness := (true, "f10796eb8b29bd04bb8e767abb59ab473c84ae591f2c1bd6c7b14b744055771c"), looks := false }, kinds := [], alts := [], laidByText := true, laidKinds := [.data, .pinned], laidTests := true, laidLooks := .later }
def HandFormsUptoCardSaid : Prop := Claim7.holds Tryz.pinned (.plain (OpenSpec.upto handFormsSpec)) handFormsUptoCard

/-- THE SECOND FORM's CARD OF 'semaphorelaw25.HandTexts'. -/
def handTextsUptoCard : Claim7 := { stood := { row := handTextsUptoRow, standIns := [], harness := (true, "f10796eb8b29bd04bb8e767abb59ab473c84ae591f2c1bd6c7b14b744055771c"), looks := false }, kinds := [], alts := [], laidByText := true, laidKinds := [.data, .data, .data, .data, .pinned], laidTests := true, laidLooks := .later }
def HandTextsUptoCardSaid : Prop := Claim7.holds Tryz.pinned (.plain (OpenSpec.upto handTextsSpec)) handTextsUptoCard

/-- THE SECOND FORM's CARD OF 'semaphorelaw25.HandReads'. -/
def handReadsUptoCard : Claim7 := { stood := { row := handReadsUptoRow, standIns := [], harness := (true, "f10796eb8b29bd04bb8e767abb59ab473c84ae591f2c1bd6c7b14b744055771c"), looks := false }, kinds := [], alts := [], laidByText := true, laidKinds := [.data, .data, .data, .data, .pinned], laidTests := true, laidLooks := .later }
def HandReadsUptoCardSaid : Prop := Claim7.holds Tryz.pinned (.plain (OpenSpec.upto handReadsSpec)) handReadsUptoCard
end Rows
end Go.Proofs.YtehdpepiemfemaaGreatDoor
