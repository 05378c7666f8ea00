/- the plain tie between the net's element and the reference's kind. -/
import Derived.Test.YtaanepadgoefhaaGreatDoorRows
import Derived.Test.YtaanepadgoefhaaGreatDoorRRef1
namespace Go.Proofs.YtaanepadgoefhaaGreatDoor
open Go.ChangeShapes Go.WideShapes Go.ChangeAt Go.RowKit Go.Maps
set_option linter.unusedVariables false
theorem eleAt_kind (P : Pln) (i : Int) : (eleAt P i).k = kindP P i := by
  unfold eleAt kindP
  by_cases h0 : 0 ≤ i
  · by_cases h1 : i < P.es.length
    · rw [if_pos h0, if_pos ⟨h0, h1⟩]
    · rw [if_pos h0, if_neg (by omega), List.getD_eq_getElem?_getD, List.getElem?_eq_none (by omega)]; rfl
  · rw [if_neg h0, if_neg (by omega)]; rfl
theorem outsK_pos {k i : Int} {w : Int × Int} (h : w ∈ outsK k i) : w.2 = 0 ∨ w.2 = 1 ∨ w.2 = 2 := by
  unfold outsK at h
  by_cases h0 : i < 0 ∨ endsK k ≤ i
  · rw [if_pos h0] at h; cases h
  rw [if_neg h0] at h
  by_cases h1 : k = 1
  · rw [if_pos h1] at h; simp at h; subst h; simp
  rw [if_neg h1] at h
  by_cases h3 : k = 3
  · rw [if_pos h3] at h; simp at h; subst h; simp
  rw [if_neg h3] at h
  by_cases h2 : k = 2
  · rw [if_pos h2] at h
    subst h2
    have he : endsK 2 = 3 := rfl
    have hi : i = 0 ∨ i = 1 ∨ i = 2 := by omega
    rcases hi with rfl | rfl | rfl
    · simp at h; rcases h with rfl | rfl <;> simp
    · simp at h; subst h; simp
    · simp at h; subst h; simp
  · rw [if_neg h2] at h; cases h
theorem through_lies (pos : List Int) (e : Int) : ∀ l : List (Int × Int), (∀ w ∈ l, w.2 = 0 ∨ w.2 = 1 ∨ w.2 = 2) → throughL l (rliesP pos e) = throughL l (liesP pos e)
  | [], _ => rfl
  | (o, p) :: t, h => by
    have hp := h (o, p) (List.mem_cons_self ..)
    have ih := through_lies pos e t fun w hw => h w (List.mem_cons_of_mem _ hw)
    unfold throughL
    rw [ih]
    have : (p = 0 ∨ p = rliesP pos e) ↔ (p = 0 ∨ p = liesP pos e) := by
      unfold rliesP
      dsimp only at hp
      split <;> omega
    by_cases hq : p = 0 ∨ p = liesP pos e
    · rw [if_pos hq, if_pos (this.2 hq)]
    · rw [if_neg hq, if_neg fun h => hq (this.1 h)]
end Go.Proofs.YtaanepadgoefhaaGreatDoor
