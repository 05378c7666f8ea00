/- DiagramFewer. -/
import Derived.Test.YtgjnlgcdpbilfaaGreatDoorRows
import Derived.Test.YtgjnlgcdpbilfaaGreatDoorRLaD1
import Derived.Test.YtgjnlgcdpbilfaaGreatDoorB17
import Derived.Test.YtgjnlgcdpbilfaaGreatDoorB9
import Derived.Test.YtgjnlgcdpbilfaaGreatDoorRDpZ
namespace Go.Proofs.YtgjnlgcdpbilfaaGreatDoor
open Go.ChangeShapes Go.WideShapes Go.ChangeAt Go.RowKit Go.Maps
set_option linter.unusedVariables false
set_option linter.unusedSimpArgs false
theorem bx_new {w : World} {T : TypeId} {t : Int} {sv rv : Value} : Bx T w.heap.size 0 (w.alloc (.cells #[.int .i64 t, sv, rv] T)) t sv rv := by
  refine ⟨⟨_, heap_alloc_new w _⟩, ?_, ?_, ?_⟩ <;> (rw [cell_of_row _ _ _ _ _ _ (heap_alloc_new w _)]; rfl)
end Go.Proofs.YtgjnlgcdpbilfaaGreatDoor
