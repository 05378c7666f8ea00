/-
  DERIVED. GIVEN WITH THE SEED: THE CARDS: each row of YtehdpepiemfemaaDoorRows.lean that lists a variable, with what it lists TIED to the program's text (the seventh form; the later family's looks); each row that meets fmt, with fmt's text TOLD by the authors' own Lean function (tested against real Go, not proved from fmt's source: count such statements apart). THE CARD IS WHAT COUNTS. Prove the row's statement (the work); the ties are given (YtehdpepiemfemaaDoorTie.lean); close each card by the builder's one call (the guide's Derived/Test/ToyasCard.lean, 'card_holds'). Laid BY PROGRAM, IN A SANDBOX (cutbox-door.mjs). By AI agents, Wed Nov 11 2026. No macro, syntax, notation, axiom, sorry.
-/
import Derived.Test.YtehdpepiemfemaaDoorRows
import GoSem.ClaimSeven
namespace Go.Proofs.YtehdpepiemfemaaDoor
namespace Rows

/-- THE TIED CARD OF 'semaphorelaw25.HandCareful'. -/
def handCarefulCard : Claim7 := { stood := { row := handCarefulRow, standIns := [], harness := (true, "0862f28a28301c11d63e3cb5e14d4eee139b322407b0f84665f858588a83dc3c"), looks := false }, kinds := [], alts := [], laidByText := true, laidKinds := [.data, .pinned], laidTests := true, laidLooks := .later }
def HandCarefulCardSaid : Prop := Claim7.holds Tryd.pinned (.plain (OpenSpec.ofChange handCarefulSpec)) handCarefulCard

/-- THE TIED CARD OF 'semaphorelaw25.HandClears'. -/
def handClearsCard : Claim7 := { stood := { row := handClearsRow, standIns := [], harness := (true, "0862f28a28301c11d63e3cb5e14d4eee139b322407b0f84665f858588a83dc3c"), looks := false }, kinds := [], alts := [], laidByText := true, laidKinds := [.data, .pinned], laidTests := true, laidLooks := .later }
def HandClearsCardSaid : Prop := Claim7.holds Tryd.pinned (.plain (OpenSpec.ofChange handClearsSpec)) handClearsCard

/-- THE TIED CARD OF 'semaphorelaw25.HandKeen'. -/
def handKeenCard : Claim7 := { stood := { row := handKeenRow, standIns := [], harness := (true, "0862f28a28301c11d63e3cb5e14d4eee139b322407b0f84665f858588a83dc3c"), looks := false }, kinds := [], alts := [], laidByText := true, laidKinds := [.data, .pinned], laidTests := true, laidLooks := .later }
def HandKeenCardSaid : Prop := Claim7.holds Tryd.pinned (.plain (OpenSpec.ofChange handKeenSpec)) handKeenCard

/-- THE SECOND FORM's CARD OF 'semaphorelaw25.HandCareful'. -/
def handCarefulUptoCard : Claim7 := { stood := { row := handCarefulUptoRow, standIns := [], harness := (true, "0862f28a28301c11d63e3cb5e14d4eee139b322407b0f84665f858588a83dc3c"), looks := false }, kinds := [], alts := [], laidByText := true, laidKinds := [.data, .pinned], laidTests := true, laidLooks := .later }
def HandCarefulUptoCardSaid : Prop := Claim7.holds Tryd.pinned (.plain (OpenSpec.upto handCarefulSpec)) handCarefulUptoCard

/-- THE SECOND FORM's CARD OF 'semaphorelaw25.HandClears'. -/
def handClearsUptoCard : Claim7 := { stood := { row := handClearsUptoRow, standIns := [], harness := (true, "0862f28a28301c11d63e3cb5e14d4eee139b322407b0f84665f858588a83dc3c"), looks := false }, kinds := [], alts := [], laidByText := true, laidKinds := [.data, .pinned], laidTests := true, laidLooks := .later }
def HandClearsUptoCardSaid : Prop := Claim7.holds Tryd.pinned (.plain (OpenSpec.upto handClearsSpec)) handClearsUptoCard

/-- THE SECOND FORM's CARD OF 'semaphorelaw25.HandKeen'. -/
def handKeenUptoCard : Claim7 := { stood := { row := handKeenUptoRow, standIns := [], harness := (true, "0862f28a28301c11d63e3cb5e14d4eee139b322407b0f84665f858588a83dc3c"), looks := false }, kinds := [], alts := [], laidByText := true, laidKinds := [.data, .pinned], laidTests := true, laidLooks := .later }
def HandKeenUptoCardSaid : Prop := Claim7.holds Tryd.pinned (.plain (OpenSpec.upto handKeenSpec)) handKeenUptoCard
end Rows
end Go.Proofs.YtehdpepiemfemaaDoor
