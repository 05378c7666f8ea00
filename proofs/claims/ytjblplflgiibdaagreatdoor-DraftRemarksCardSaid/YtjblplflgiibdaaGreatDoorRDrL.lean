/- What the laws of plans' texts say of remarks, of wrong lines, of joins that stand too early. Plain. -/
import Derived.Test.YtjblplflgiibdaaGreatDoorRows
import Derived.Test.YtjblplflgiibdaaGreatDoorB9
namespace Go.Proofs.YtjblplflgiibdaaGreatDoor
open Go.ChangeShapes Go.WideShapes Go.ChangeAt Go.RowKit Go.Maps
set_option linter.unusedVariables false
set_option linter.unusedSimpArgs false
theorem ba_assoc (a b c : ByteArray) : a ++ b ++ c = a ++ (b ++ c) := by apply ByteArray.ext; simp [ByteArray.data_append]
theorem unl_one (x : ByteArray) : unl [x] = x ++ ⟨#[10]⟩ := by
  show x ++ ⟨#[10]⟩ ++ ⟨#[]⟩ = _
  apply ByteArray.ext; simp [ByteArray.data_append]
end Go.Proofs.YtjblplflgiibdaaGreatDoor
