/- Words: the walks. -/
import Derived.Test.YtehdpepiemfemaaDoorRVls
import Derived.Test.YtehdpepiemfemaaDoorRWrdQ
namespace Go.Proofs.YtehdpepiemfemaaDoor
open Go.ChangeShapes Go.WideShapes Go.ChangeAt Go.RowKit
set_option linter.unusedVariables false
set_option linter.unusedSimpArgs false

/-- what Words returns -/
def RetW (w : World) (o : Option (List ByteArray)) (e : Ending) (w' : World) : Prop :=
  ∃ v, e = .returned (.tuple #[v, .bool o.isSome]) ∧ IsVals w' v ((o.getD []).map Value.string) ∧ Gr w w'
theorem RetW.no {w w' : World} {o : Option (List ByteArray)} (h : o = none) (g : Gr w w') : RetW w o (.returned (.tuple #[.slice none 0 0, .bool false])) w' := by
  subst h
  exact ⟨_, rfl, ⟨none, 0, rfl, by simp, .inl rfl⟩, g⟩
theorem RetW.yes {w w' : World} {o : Option (List ByteArray)} {L : List ByteArray} {v : Value} (h : o = some L) (hv : IsVals w' v (L.map Value.string)) (g : Gr w w') : RetW w o (.returned (.tuple #[v, .bool true])) w' := by
  subst h
  exact ⟨_, rfl, hv, g⟩

/-- a slice's room is no less than its length -/
def CapOk (v : Value) : Prop := ∀ a n c, v = .slice a n c → n ≤ c
theorem OwnS.cap {B : Nat} {w : World} {v : Value} {L : List ByteArray} (h : OwnS B w v L) : CapOk v := by
  intro a n c e
  obtain ⟨-, h⟩ := h
  rcases h with ⟨rfl, -⟩ | ⟨g, cap, cur, rfl, -, -, hc, -⟩
  · cases e; omega
  · cases e; exact hc
/-- what Words returns, and that its room is enough -/
def RetWc (w : World) (o : Option (List ByteArray)) (e : Ending) (w' : World) : Prop :=
  ∃ v, e = .returned (.tuple #[v, .bool o.isSome]) ∧ IsVals w' v ((o.getD []).map Value.string) ∧ CapOk v ∧ Gr w w'
theorem RetWc.no {w w' : World} {o : Option (List ByteArray)} (h : o = none) (g : Gr w w') : RetWc w o (.returned (.tuple #[.slice none 0 0, .bool false])) w' := by
  subst h
  exact ⟨_, rfl, ⟨none, 0, rfl, by simp, .inl rfl⟩, fun a n c e => by cases e; omega, g⟩
theorem RetWc.yes {w w' : World} {o : Option (List ByteArray)} {L : List ByteArray} {v : Value} (h : o = some L) (hv : IsVals w' v (L.map Value.string)) (hc : CapOk v) (g : Gr w w') : RetWc w o (.returned (.tuple #[v, .bool true])) w' := by
  subst h
  exact ⟨_, rfl, hv, hc, g⟩
theorem RetWc.drop {w w' : World} {o : Option (List ByteArray)} {e : Ending} (h : RetWc w o e w') : RetW w o e w' := by
  obtain ⟨v, h1, h2, -, h3⟩ := h
  exact ⟨v, h1, h2, h3⟩
theorem wrdB_of {c : UInt8} (h1 : 33 ≤ (c.toNat : Int)) (h2 : (c.toNat : Int) ≤ 126) : wrdB c = true := by unfold wrdB; simp; omega
theorem wrdB_no {c : UInt8} (h : ¬ (33 ≤ (c.toNat : Int) ∧ (c.toNat : Int) ≤ 126)) : wrdB c = false := by unfold wrdB; simp; omega

end Go.Proofs.YtehdpepiemfemaaDoor
