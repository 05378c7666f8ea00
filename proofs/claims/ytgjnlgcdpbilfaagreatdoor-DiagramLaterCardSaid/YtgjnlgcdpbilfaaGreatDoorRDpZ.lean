/- The reference's reader of timetables: the ends: what the diagram's box holds behind the append and the store. No walk. -/
import Derived.Test.YtgjnlgcdpbilfaaGreatDoorRows
import Derived.Test.YtgjnlgcdpbilfaaGreatDoorB9
namespace Go.Proofs.YtgjnlgcdpbilfaaGreatDoor
open Go.ChangeShapes Go.WideShapes Go.ChangeAt Go.RowKit Go.Maps
set_option linter.unusedVariables false
set_option linter.unusedSimpArgs false
def RetLr (T : TypeId) (w0 : World) (b o B : Nat) (r : Int ⊕ Dgm) (x : Ending) (w' : World) : Prop := RetLn T w0 b o B (fun _ => True) r x w'
theorem RetLr.no {T : TypeId} {w0 w' : World} {b o B : Nat} {r : Int ⊕ Dgm} {n : Int} (h : r = .inl n) (g : Gr w0 w') : RetLr T w0 b o B r (.returned (.int .i64 n)) w' := RetLn.no h g
theorem rd_cells0 {T : TypeId} {b : Nat} {w : World} {D : Dgm} {sv rv : Value} (h : Bx T b 0 w D.beg sv rv) : ∀ w', Gr w w' → b < w'.heap.size ∧ w'.cell? ⟨b, 0, none⟩ = some (.int .i64 D.beg) ∧ w'.cell? ⟨b, 1, none⟩ = some sv ∧ w'.cell? ⟨b, 2, none⟩ = some rv := fun w' g => ⟨(h.gr g).lt, (h.gr g).2.1, (h.gr g).2.2.1, (h.gr g).2.2.2⟩
end Go.Proofs.YtgjnlgcdpbilfaaGreatDoor
