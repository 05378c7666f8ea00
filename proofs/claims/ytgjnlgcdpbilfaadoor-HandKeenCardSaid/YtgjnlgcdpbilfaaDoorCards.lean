/-
  DERIVED. GIVEN WITH THE SEED: THE CARDS: each row of YtgjnlgcdpbilfaaDoorRows.lean that lists a variable, with what it lists TIED to the program's text (the seventh form; the later family's looks); each row that meets fmt, with fmt's text TOLD by the authors' own Lean function (tested against real Go, not proved from fmt's source: count such statements apart). THE CARD IS WHAT COUNTS. Prove the row's statement (the work); the ties are given (YtgjnlgcdpbilfaaDoorTie.lean); close each card by the builder's one call (the guide's Derived/Test/ToyasCard.lean, 'card_holds'). Laid BY PROGRAM, IN A SANDBOX (cutbox-door.mjs). By AI agents, Wed Nov 11 2026. No macro, syntax, notation, axiom, sorry.
-/
import Derived.Test.YtgjnlgcdpbilfaaDoorRows
import GoSem.ClaimSeven
namespace Go.Proofs.YtgjnlgcdpbilfaaDoor
namespace Rows

/-- THE TIED CARD OF 'semaphorelaw25.HandClears'. -/
def handClearsCard : Claim7 := { stood := { row := handClearsRow, standIns := [], harness := (true, "39f835e7c715dad997a8328f4de9ab382b5ffd746ac5c8525d2d79aa53a304f8"), looks := false }, kinds := [], alts := [], laidByText := true, laidKinds := [.data, .pinned], laidTests := true, laidLooks := .later }
def HandClearsCardSaid : Prop := Claim7.holds Tryd.pinned (.plain (OpenSpec.ofChange handClearsSpec)) handClearsCard

/-- THE TIED CARD OF 'semaphorelaw25.HandKeen'. -/
def handKeenCard : Claim7 := { stood := { row := handKeenRow, standIns := [], harness := (true, "39f835e7c715dad997a8328f4de9ab382b5ffd746ac5c8525d2d79aa53a304f8"), looks := false }, kinds := [], alts := [], laidByText := true, laidKinds := [.data, .pinned], laidTests := true, laidLooks := .later }
def HandKeenCardSaid : Prop := Claim7.holds Tryd.pinned (.plain (OpenSpec.ofChange handKeenSpec)) handKeenCard

/-- THE SECOND FORM's CARD OF 'semaphorelaw25.HandClears'. -/
def handClearsUptoCard : Claim7 := { stood := { row := handClearsUptoRow, standIns := [], harness := (true, "39f835e7c715dad997a8328f4de9ab382b5ffd746ac5c8525d2d79aa53a304f8"), looks := false }, kinds := [], alts := [], laidByText := true, laidKinds := [.data, .pinned], laidTests := true, laidLooks := .later }
def HandClearsUptoCardSaid : Prop := Claim7.holds Tryd.pinned (.plain (OpenSpec.upto handClearsSpec)) handClearsUptoCard

/-- THE SECOND FORM's CARD OF 'semaphorelaw25.HandKeen'. -/
def handKeenUptoCard : Claim7 := { stood := { row := handKeenUptoRow, standIns := [], harness := (true, "39f835e7c715dad997a8328f4de9ab382b5ffd746ac5c8525d2d79aa53a304f8"), looks := false }, kinds := [], alts := [], laidByText := true, laidKinds := [.data, .pinned], laidTests := true, laidLooks := .later }
def HandKeenUptoCardSaid : Prop := Claim7.holds Tryd.pinned (.plain (OpenSpec.upto handKeenSpec)) handKeenUptoCard
end Rows
end Go.Proofs.YtgjnlgcdpbilfaaDoor
