/-
  DERIVED. GIVEN WITH THE SEED: THE CARDS: each row of YtjblplflgiibdaaDoorRows.lean that lists a variable, with what it lists TIED to the program's text (the seventh form; the later family's looks); each row that meets fmt, with fmt's text TOLD by the authors' own Lean function (tested against real Go, not proved from fmt's source: count such statements apart). THE CARD IS WHAT COUNTS. Prove the row's statement (the work); the ties are given (YtjblplflgiibdaaDoorTie.lean); close each card by the builder's one call (the guide's Derived/Test/ToyasCard.lean, 'card_holds'). Laid BY PROGRAM, IN A SANDBOX (cutbox-door.mjs). By AI agents, Wed Nov 11 2026. No macro, syntax, notation, axiom, sorry.
-/
import Derived.Test.YtjblplflgiibdaaDoorRows
import GoSem.ClaimSeven
namespace Go.Proofs.YtjblplflgiibdaaDoor
namespace Rows

/-- THE TIED CARD OF 'semaphorelaw3.DraftPorts'. -/
def draftPortsCard : Claim7 := { stood := { row := draftPortsRow, standIns := [], harness := (true, "24dd42a4537eb4a9b62bf616f5add2cb66f46559e0ba2bc8010999ab82ce5a6c"), looks := false }, kinds := [], alts := [], laidByText := true, laidKinds := [.data, .data, .data, .data, .pinned], laidTests := true, laidLooks := .later }
def DraftPortsCardSaid : Prop := Claim7.holds Tryd.pinned (.plain (OpenSpec.ofChange draftPortsSpec)) draftPortsCard

/-- THE SECOND FORM's CARD OF 'semaphorelaw3.DraftPorts'. -/
def draftPortsUptoCard : Claim7 := { stood := { row := draftPortsUptoRow, standIns := [], harness := (true, "24dd42a4537eb4a9b62bf616f5add2cb66f46559e0ba2bc8010999ab82ce5a6c"), looks := false }, kinds := [], alts := [], laidByText := true, laidKinds := [.data, .data, .data, .data, .pinned], laidTests := true, laidLooks := .later }
def DraftPortsUptoCardSaid : Prop := Claim7.holds Tryd.pinned (.plain (OpenSpec.upto draftPortsSpec)) draftPortsUptoCard
end Rows
end Go.Proofs.YtjblplflgiibdaaDoor
