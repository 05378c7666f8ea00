/-
  No cell of these rows narrows 'for every input' (looked for: loops, veiled, ifaces, maps, wideKeys, modest, calm, conditions, laid).
  DERIVED. THE GIVEN ROWS OF THIS SEAT. 12 by the template 'for every input the law returns true; each argument reads behind the call as it read before'; 0 by the template 'total and deterministic' (their statements: YtiblkcbehcpjbaaTotals.lean).
  GIVEN WITH THE SEED: the statements are not yours to turn. If you find one false, say at which input.
  Laid BY PROGRAM, IN A SANDBOX (cutbox-rows.mjs): the forced cells as the released guide's own fill.sh prints them over the translation 91b727aadb50154e… (all of the seat's roots in one cut). By AI agents, Wed Nov 11 2026. No macro, syntax, notation, axiom, sorry.
-/
import Derived.Test.YtiblkcbehcpjbaaChecked
import GoSem.Claim
import GoSem.ClaimJoined
import GoSem.ClaimMapViews
import Derived.JoinedTies
import Derived.KernelRfl
namespace Go.Proofs.Ytiblkcbehcpjbaa
/- THE CELL 'sum', in the pinned program and in every row, IS THE sha256 OF THE DUMP (.gsa) THAT YtiblkcbehcpjbaaProg.lean LOADS. Nothing in Lean hashes anything: it is a label: what it is worth is what the hold of that sum in a sandbox is worth. -/
noncomputable def Try.pinned : Pinned := { name := "ytiblkcbehcpjbaa", sum := "91b727aadb50154e9a6c2701e8950d4c38cee1e9440729c8c993ecd22ec700d3", checked := Try.checked }
namespace Rows
def none {H : Type} : Left H := { results := [], args := [] }

/-- 'semaphorelaw29.ClockForms': WHATEVER THE INPUT: true; the input reads as it did. -/
def clockFormsSpec : ChangeSpec := { name := "clockForms", fn := fun _ => fun
  | [d1, d2, d3] => { results := [.lit (.bool true)], args := [d1, d2, d3] }
  | _ => none }
def clockFormsRow : OpenClaim := { program := "ytiblkcbehcpjbaa", sum := "91b727aadb50154e9a6c2701e8950d4c38cee1e9440729c8c993ecd22ec700d3", func := "semaphore/semaphorelaw29.ClockForms", spec := "clockForms", apart := false }
def ClockFormsSaid : Prop := clockFormsRow.holds Try.pinned (OpenSpec.ofChange clockFormsSpec)

/-- ITS FALSE NEIGHBOUR: 'it returns false'. Refute it at one input. -/
def clockFormsWrong : ChangeSpec := { name := "clockForms", fn := fun _ => fun
  | [d1, d2, d3] => { results := [.lit (.bool false)], args := [d1, d2, d3] }
  | _ => none }
def ClockFormsWrongFalsely : Prop := clockFormsRow.holds Try.pinned (OpenSpec.ofChange clockFormsWrong)

/-- 'semaphorelaw29.ClockBack': WHATEVER THE INPUT: true; the input reads as it did. -/
def clockBackSpec : ChangeSpec := { name := "clockBack", fn := fun _ => fun
  | [d1, d2] => { results := [.lit (.bool true)], args := [d1, d2] }
  | _ => none }
def clockBackRow : OpenClaim := { program := "ytiblkcbehcpjbaa", sum := "91b727aadb50154e9a6c2701e8950d4c38cee1e9440729c8c993ecd22ec700d3", func := "semaphore/semaphorelaw29.ClockBack", spec := "clockBack", apart := false }
def ClockBackSaid : Prop := clockBackRow.holds Try.pinned (OpenSpec.ofChange clockBackSpec)

/-- ITS FALSE NEIGHBOUR: 'it returns false'. Refute it at one input. -/
def clockBackWrong : ChangeSpec := { name := "clockBack", fn := fun _ => fun
  | [d1, d2] => { results := [.lit (.bool false)], args := [d1, d2] }
  | _ => none }
def ClockBackWrongFalsely : Prop := clockBackRow.holds Try.pinned (OpenSpec.ofChange clockBackWrong)

/-- 'semaphorelaw29.ClockRound': WHATEVER THE INPUT: true; the input reads as it did. -/
def clockRoundSpec : ChangeSpec := { name := "clockRound", fn := fun _ => fun
  | [d1, d2] => { results := [.lit (.bool true)], args := [d1, d2] }
  | _ => none }
def clockRoundRow : OpenClaim := { program := "ytiblkcbehcpjbaa", sum := "91b727aadb50154e9a6c2701e8950d4c38cee1e9440729c8c993ecd22ec700d3", func := "semaphore/semaphorelaw29.ClockRound", spec := "clockRound", apart := false }
def ClockRoundSaid : Prop := clockRoundRow.holds Try.pinned (OpenSpec.ofChange clockRoundSpec)

/-- ITS FALSE NEIGHBOUR: 'it returns false'. Refute it at one input. -/
def clockRoundWrong : ChangeSpec := { name := "clockRound", fn := fun _ => fun
  | [d1, d2] => { results := [.lit (.bool false)], args := [d1, d2] }
  | _ => none }
def ClockRoundWrongFalsely : Prop := clockRoundRow.holds Try.pinned (OpenSpec.ofChange clockRoundWrong)

/-- 'semaphorelaw29.ClockTurns': WHATEVER THE INPUT: true; the input reads as it did. -/
def clockTurnsSpec : ChangeSpec := { name := "clockTurns", fn := fun _ => fun
  | [d1, d2, d3] => { results := [.lit (.bool true)], args := [d1, d2, d3] }
  | _ => none }
def clockTurnsRow : OpenClaim := { program := "ytiblkcbehcpjbaa", sum := "91b727aadb50154e9a6c2701e8950d4c38cee1e9440729c8c993ecd22ec700d3", func := "semaphore/semaphorelaw29.ClockTurns", spec := "clockTurns", apart := false }
def ClockTurnsSaid : Prop := clockTurnsRow.holds Try.pinned (OpenSpec.ofChange clockTurnsSpec)

/-- ITS FALSE NEIGHBOUR: 'it returns false'. Refute it at one input. -/
def clockTurnsWrong : ChangeSpec := { name := "clockTurns", fn := fun _ => fun
  | [d1, d2, d3] => { results := [.lit (.bool false)], args := [d1, d2, d3] }
  | _ => none }
def ClockTurnsWrongFalsely : Prop := clockTurnsRow.holds Try.pinned (OpenSpec.ofChange clockTurnsWrong)

/-- 'semaphorelaw29.ClockSpoilt': WHATEVER THE INPUT: true; the input reads as it did. -/
def clockSpoiltSpec : ChangeSpec := { name := "clockSpoilt", fn := fun _ => fun
  | [d1, d2, d3] => { results := [.lit (.bool true)], args := [d1, d2, d3] }
  | _ => none }
def clockSpoiltRow : OpenClaim := { program := "ytiblkcbehcpjbaa", sum := "91b727aadb50154e9a6c2701e8950d4c38cee1e9440729c8c993ecd22ec700d3", func := "semaphore/semaphorelaw29.ClockSpoilt", spec := "clockSpoilt", apart := false }
def ClockSpoiltSaid : Prop := clockSpoiltRow.holds Try.pinned (OpenSpec.ofChange clockSpoiltSpec)

/-- ITS FALSE NEIGHBOUR: 'it returns false'. Refute it at one input. -/
def clockSpoiltWrong : ChangeSpec := { name := "clockSpoilt", fn := fun _ => fun
  | [d1, d2, d3] => { results := [.lit (.bool false)], args := [d1, d2, d3] }
  | _ => none }
def ClockSpoiltWrongFalsely : Prop := clockSpoiltRow.holds Try.pinned (OpenSpec.ofChange clockSpoiltWrong)

/-- 'semaphorelaw22.PaceForms': WHATEVER THE INPUT: true; the input reads as it did. -/
def paceFormsSpec : ChangeSpec := { name := "paceForms", fn := fun _ => fun
  | [d1, d2, d3, d4, d5, d6, d7] => { results := [.lit (.bool true)], args := [d1, d2, d3, d4, d5, d6, d7] }
  | _ => none }
def paceFormsRow : OpenClaim := { program := "ytiblkcbehcpjbaa", sum := "91b727aadb50154e9a6c2701e8950d4c38cee1e9440729c8c993ecd22ec700d3", func := "semaphore/semaphorelaw22.PaceForms", spec := "paceForms", apart := false }
def PaceFormsSaid : Prop := paceFormsRow.holds Try.pinned (OpenSpec.ofChange paceFormsSpec)

/-- ITS FALSE NEIGHBOUR: 'it returns false'. Refute it at one input. -/
def paceFormsWrong : ChangeSpec := { name := "paceForms", fn := fun _ => fun
  | [d1, d2, d3, d4, d5, d6, d7] => { results := [.lit (.bool false)], args := [d1, d2, d3, d4, d5, d6, d7] }
  | _ => none }
def PaceFormsWrongFalsely : Prop := paceFormsRow.holds Try.pinned (OpenSpec.ofChange paceFormsWrong)

/-- 'semaphorelaw22.PaceStops': WHATEVER THE INPUT: true; the input reads as it did. -/
def paceStopsSpec : ChangeSpec := { name := "paceStops", fn := fun _ => fun
  | [d1, d2, d3] => { results := [.lit (.bool true)], args := [d1, d2, d3] }
  | _ => none }
def paceStopsRow : OpenClaim := { program := "ytiblkcbehcpjbaa", sum := "91b727aadb50154e9a6c2701e8950d4c38cee1e9440729c8c993ecd22ec700d3", func := "semaphore/semaphorelaw22.PaceStops", spec := "paceStops", apart := false }
def PaceStopsSaid : Prop := paceStopsRow.holds Try.pinned (OpenSpec.ofChange paceStopsSpec)

/-- ITS FALSE NEIGHBOUR: 'it returns false'. Refute it at one input. -/
def paceStopsWrong : ChangeSpec := { name := "paceStops", fn := fun _ => fun
  | [d1, d2, d3] => { results := [.lit (.bool false)], args := [d1, d2, d3] }
  | _ => none }
def PaceStopsWrongFalsely : Prop := paceStopsRow.holds Try.pinned (OpenSpec.ofChange paceStopsWrong)

/-- 'semaphorelaw22.PaceKept': WHATEVER THE INPUT: true; the input reads as it did. -/
def paceKeptSpec : ChangeSpec := { name := "paceKept", fn := fun _ => fun
  | [d1, d2, d3, d4] => { results := [.lit (.bool true)], args := [d1, d2, d3, d4] }
  | _ => none }
def paceKeptRow : OpenClaim := { program := "ytiblkcbehcpjbaa", sum := "91b727aadb50154e9a6c2701e8950d4c38cee1e9440729c8c993ecd22ec700d3", func := "semaphore/semaphorelaw22.PaceKept", spec := "paceKept", apart := false }
def PaceKeptSaid : Prop := paceKeptRow.holds Try.pinned (OpenSpec.ofChange paceKeptSpec)

/-- ITS FALSE NEIGHBOUR: 'it returns false'. Refute it at one input. -/
def paceKeptWrong : ChangeSpec := { name := "paceKept", fn := fun _ => fun
  | [d1, d2, d3, d4] => { results := [.lit (.bool false)], args := [d1, d2, d3, d4] }
  | _ => none }
def PaceKeptWrongFalsely : Prop := paceKeptRow.holds Try.pinned (OpenSpec.ofChange paceKeptWrong)

/-- 'semaphorelaw22.PaceMost': WHATEVER THE INPUT: true; the input reads as it did. -/
def paceMostSpec : ChangeSpec := { name := "paceMost", fn := fun _ => fun
  | [d1, d2, d3] => { results := [.lit (.bool true)], args := [d1, d2, d3] }
  | _ => none }
def paceMostRow : OpenClaim := { program := "ytiblkcbehcpjbaa", sum := "91b727aadb50154e9a6c2701e8950d4c38cee1e9440729c8c993ecd22ec700d3", func := "semaphore/semaphorelaw22.PaceMost", spec := "paceMost", apart := false }
def PaceMostSaid : Prop := paceMostRow.holds Try.pinned (OpenSpec.ofChange paceMostSpec)

/-- ITS FALSE NEIGHBOUR: 'it returns false'. Refute it at one input. -/
def paceMostWrong : ChangeSpec := { name := "paceMost", fn := fun _ => fun
  | [d1, d2, d3] => { results := [.lit (.bool false)], args := [d1, d2, d3] }
  | _ => none }
def PaceMostWrongFalsely : Prop := paceMostRow.holds Try.pinned (OpenSpec.ofChange paceMostWrong)

/-- 'semaphorelaw22.PaceLeast': WHATEVER THE INPUT: true; the input reads as it did. -/
def paceLeastSpec : ChangeSpec := { name := "paceLeast", fn := fun _ => fun
  | [d1, d2, d3] => { results := [.lit (.bool true)], args := [d1, d2, d3] }
  | _ => none }
def paceLeastRow : OpenClaim := { program := "ytiblkcbehcpjbaa", sum := "91b727aadb50154e9a6c2701e8950d4c38cee1e9440729c8c993ecd22ec700d3", func := "semaphore/semaphorelaw22.PaceLeast", spec := "paceLeast", apart := false }
def PaceLeastSaid : Prop := paceLeastRow.holds Try.pinned (OpenSpec.ofChange paceLeastSpec)

/-- ITS FALSE NEIGHBOUR: 'it returns false'. Refute it at one input. -/
def paceLeastWrong : ChangeSpec := { name := "paceLeast", fn := fun _ => fun
  | [d1, d2, d3] => { results := [.lit (.bool false)], args := [d1, d2, d3] }
  | _ => none }
def PaceLeastWrongFalsely : Prop := paceLeastRow.holds Try.pinned (OpenSpec.ofChange paceLeastWrong)

/-- 'semaphorelaw22.PaceFar': WHATEVER THE INPUT: true; the input reads as it did. -/
def paceFarSpec : ChangeSpec := { name := "paceFar", fn := fun _ => fun
  | [d1, d2, d3, d4] => { results := [.lit (.bool true)], args := [d1, d2, d3, d4] }
  | _ => none }
def paceFarRow : OpenClaim := { program := "ytiblkcbehcpjbaa", sum := "91b727aadb50154e9a6c2701e8950d4c38cee1e9440729c8c993ecd22ec700d3", func := "semaphore/semaphorelaw22.PaceFar", spec := "paceFar", apart := false }
def PaceFarSaid : Prop := paceFarRow.holds Try.pinned (OpenSpec.ofChange paceFarSpec)

/-- ITS FALSE NEIGHBOUR: 'it returns false'. Refute it at one input. -/
def paceFarWrong : ChangeSpec := { name := "paceFar", fn := fun _ => fun
  | [d1, d2, d3, d4] => { results := [.lit (.bool false)], args := [d1, d2, d3, d4] }
  | _ => none }
def PaceFarWrongFalsely : Prop := paceFarRow.holds Try.pinned (OpenSpec.ofChange paceFarWrong)

/-- 'semaphorelaw22.PaceOrder': WHATEVER THE INPUT: true; the input reads as it did. -/
def paceOrderSpec : ChangeSpec := { name := "paceOrder", fn := fun _ => fun
  | [d1, d2, d3, d4, d5, d6] => { results := [.lit (.bool true)], args := [d1, d2, d3, d4, d5, d6] }
  | _ => none }
def paceOrderRow : OpenClaim := { program := "ytiblkcbehcpjbaa", sum := "91b727aadb50154e9a6c2701e8950d4c38cee1e9440729c8c993ecd22ec700d3", func := "semaphore/semaphorelaw22.PaceOrder", spec := "paceOrder", apart := false }
def PaceOrderSaid : Prop := paceOrderRow.holds Try.pinned (OpenSpec.ofChange paceOrderSpec)

/-- ITS FALSE NEIGHBOUR: 'it returns false'. Refute it at one input. -/
def paceOrderWrong : ChangeSpec := { name := "paceOrder", fn := fun _ => fun
  | [d1, d2, d3, d4, d5, d6] => { results := [.lit (.bool false)], args := [d1, d2, d3, d4, d5, d6] }
  | _ => none }
def PaceOrderWrongFalsely : Prop := paceOrderRow.holds Try.pinned (OpenSpec.ofChange paceOrderWrong)

/- THE SECOND FORM. 'bulk': how many values and letters a reading holds, each counted each time it is reached (what is shared counts as often as it is met; a slice's spare places count too). A statement '..UptoSaid' is the law's where the arguments, and the package variables that the reading takes, are together of bulk at most 1048576: NARROWER than '..Said'. Prove '..Said' where nothing that the law and all that it calls make is longer than what came in: it says more and counts as full. Else prove '..UptoSaid'. A law counts once. -/
mutual
def uptoBulk {H : Type} : DataW H → Nat
  | .lit (.string bytes) => bytes.length + 1
  | .lit _ => 1
  | .nil => 1
  | .ptr d => uptoBulk d + 1
  | .slice elems spare => uptoBulkAll elems + uptoBulkAll spare + 1
  | .agg parts => uptoBulkAll parts + 1
  | .iface _ d => uptoBulk d + 1
  | .map entries => uptoBulkEntries entries + 1
  | .held _ => 1
def uptoBulkAll {H : Type} : List (DataW H) → Nat
  | [] => 0
  | d :: r => uptoBulk d + uptoBulkAll r
def uptoBulkEntries {H : Type} : List (Lit × DataW H) → Nat
  | [] => 0
  | x :: r => uptoBulkEntry x + uptoBulkEntries r
def uptoBulkEntry {H : Type} : Lit × DataW H → Nat
  | (.string bytes, d) => bytes.length + uptoBulk d + 1
  | (_, d) => uptoBulk d + 1
 end
def uptoSmall : (H : Type) → List (DataW H) → Bool := fun _ ds => decide (uptoBulkAll ds ≤ 1048576)
def OpenSpec.upto (s : _root_.Go.ChangeSpec) : _root_.Go.OpenSpec := { _root_.Go.OpenSpec.ofChange s with cond := some uptoSmall }

/-- 'semaphorelaw29.ClockForms', WHERE WHAT IT READS IS OF BULK AT MOST 1048576: true; the input reads as it did. -/
def clockFormsUptoRow : OpenClaim := { program := "ytiblkcbehcpjbaa", sum := "91b727aadb50154e9a6c2701e8950d4c38cee1e9440729c8c993ecd22ec700d3", func := "semaphore/semaphorelaw29.ClockForms", spec := "clockForms", apart := false, narrowed := true }
def ClockFormsUptoSaid : Prop := clockFormsUptoRow.holds Try.pinned (OpenSpec.upto clockFormsSpec)

/-- 'semaphorelaw29.ClockBack', WHERE WHAT IT READS IS OF BULK AT MOST 1048576: true; the input reads as it did. -/
def clockBackUptoRow : OpenClaim := { program := "ytiblkcbehcpjbaa", sum := "91b727aadb50154e9a6c2701e8950d4c38cee1e9440729c8c993ecd22ec700d3", func := "semaphore/semaphorelaw29.ClockBack", spec := "clockBack", apart := false, narrowed := true }
def ClockBackUptoSaid : Prop := clockBackUptoRow.holds Try.pinned (OpenSpec.upto clockBackSpec)

/-- 'semaphorelaw29.ClockRound', WHERE WHAT IT READS IS OF BULK AT MOST 1048576: true; the input reads as it did. -/
def clockRoundUptoRow : OpenClaim := { program := "ytiblkcbehcpjbaa", sum := "91b727aadb50154e9a6c2701e8950d4c38cee1e9440729c8c993ecd22ec700d3", func := "semaphore/semaphorelaw29.ClockRound", spec := "clockRound", apart := false, narrowed := true }
def ClockRoundUptoSaid : Prop := clockRoundUptoRow.holds Try.pinned (OpenSpec.upto clockRoundSpec)

/-- 'semaphorelaw29.ClockTurns', WHERE WHAT IT READS IS OF BULK AT MOST 1048576: true; the input reads as it did. -/
def clockTurnsUptoRow : OpenClaim := { program := "ytiblkcbehcpjbaa", sum := "91b727aadb50154e9a6c2701e8950d4c38cee1e9440729c8c993ecd22ec700d3", func := "semaphore/semaphorelaw29.ClockTurns", spec := "clockTurns", apart := false, narrowed := true }
def ClockTurnsUptoSaid : Prop := clockTurnsUptoRow.holds Try.pinned (OpenSpec.upto clockTurnsSpec)

/-- 'semaphorelaw29.ClockSpoilt', WHERE WHAT IT READS IS OF BULK AT MOST 1048576: true; the input reads as it did. -/
def clockSpoiltUptoRow : OpenClaim := { program := "ytiblkcbehcpjbaa", sum := "91b727aadb50154e9a6c2701e8950d4c38cee1e9440729c8c993ecd22ec700d3", func := "semaphore/semaphorelaw29.ClockSpoilt", spec := "clockSpoilt", apart := false, narrowed := true }
def ClockSpoiltUptoSaid : Prop := clockSpoiltUptoRow.holds Try.pinned (OpenSpec.upto clockSpoiltSpec)

/-- 'semaphorelaw22.PaceForms', WHERE WHAT IT READS IS OF BULK AT MOST 1048576: true; the input reads as it did. -/
def paceFormsUptoRow : OpenClaim := { program := "ytiblkcbehcpjbaa", sum := "91b727aadb50154e9a6c2701e8950d4c38cee1e9440729c8c993ecd22ec700d3", func := "semaphore/semaphorelaw22.PaceForms", spec := "paceForms", apart := false, narrowed := true }
def PaceFormsUptoSaid : Prop := paceFormsUptoRow.holds Try.pinned (OpenSpec.upto paceFormsSpec)

/-- 'semaphorelaw22.PaceStops', WHERE WHAT IT READS IS OF BULK AT MOST 1048576: true; the input reads as it did. -/
def paceStopsUptoRow : OpenClaim := { program := "ytiblkcbehcpjbaa", sum := "91b727aadb50154e9a6c2701e8950d4c38cee1e9440729c8c993ecd22ec700d3", func := "semaphore/semaphorelaw22.PaceStops", spec := "paceStops", apart := false, narrowed := true }
def PaceStopsUptoSaid : Prop := paceStopsUptoRow.holds Try.pinned (OpenSpec.upto paceStopsSpec)

/-- 'semaphorelaw22.PaceKept', WHERE WHAT IT READS IS OF BULK AT MOST 1048576: true; the input reads as it did. -/
def paceKeptUptoRow : OpenClaim := { program := "ytiblkcbehcpjbaa", sum := "91b727aadb50154e9a6c2701e8950d4c38cee1e9440729c8c993ecd22ec700d3", func := "semaphore/semaphorelaw22.PaceKept", spec := "paceKept", apart := false, narrowed := true }
def PaceKeptUptoSaid : Prop := paceKeptUptoRow.holds Try.pinned (OpenSpec.upto paceKeptSpec)

/-- 'semaphorelaw22.PaceMost', WHERE WHAT IT READS IS OF BULK AT MOST 1048576: true; the input reads as it did. -/
def paceMostUptoRow : OpenClaim := { program := "ytiblkcbehcpjbaa", sum := "91b727aadb50154e9a6c2701e8950d4c38cee1e9440729c8c993ecd22ec700d3", func := "semaphore/semaphorelaw22.PaceMost", spec := "paceMost", apart := false, narrowed := true }
def PaceMostUptoSaid : Prop := paceMostUptoRow.holds Try.pinned (OpenSpec.upto paceMostSpec)

/-- 'semaphorelaw22.PaceLeast', WHERE WHAT IT READS IS OF BULK AT MOST 1048576: true; the input reads as it did. -/
def paceLeastUptoRow : OpenClaim := { program := "ytiblkcbehcpjbaa", sum := "91b727aadb50154e9a6c2701e8950d4c38cee1e9440729c8c993ecd22ec700d3", func := "semaphore/semaphorelaw22.PaceLeast", spec := "paceLeast", apart := false, narrowed := true }
def PaceLeastUptoSaid : Prop := paceLeastUptoRow.holds Try.pinned (OpenSpec.upto paceLeastSpec)

/-- 'semaphorelaw22.PaceFar', WHERE WHAT IT READS IS OF BULK AT MOST 1048576: true; the input reads as it did. -/
def paceFarUptoRow : OpenClaim := { program := "ytiblkcbehcpjbaa", sum := "91b727aadb50154e9a6c2701e8950d4c38cee1e9440729c8c993ecd22ec700d3", func := "semaphore/semaphorelaw22.PaceFar", spec := "paceFar", apart := false, narrowed := true }
def PaceFarUptoSaid : Prop := paceFarUptoRow.holds Try.pinned (OpenSpec.upto paceFarSpec)

/-- 'semaphorelaw22.PaceOrder', WHERE WHAT IT READS IS OF BULK AT MOST 1048576: true; the input reads as it did. -/
def paceOrderUptoRow : OpenClaim := { program := "ytiblkcbehcpjbaa", sum := "91b727aadb50154e9a6c2701e8950d4c38cee1e9440729c8c993ecd22ec700d3", func := "semaphore/semaphorelaw22.PaceOrder", spec := "paceOrder", apart := false, narrowed := true }
def PaceOrderUptoSaid : Prop := paceOrderUptoRow.holds Try.pinned (OpenSpec.upto paceOrderSpec)

end Rows
end Go.Proofs.Ytiblkcbehcpjbaa
