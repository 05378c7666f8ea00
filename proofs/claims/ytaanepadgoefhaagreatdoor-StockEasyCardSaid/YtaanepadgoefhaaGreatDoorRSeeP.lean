/- How far a head sees: plain. -/
import Derived.Test.YtaanepadgoefhaaGreatDoorRows
import Derived.Test.YtaanepadgoefhaaGreatDoorRRef2
namespace Go.Proofs.YtaanepadgoefhaaGreatDoor
open Go.ChangeShapes Go.WideShapes Go.ChangeAt Go.RowKit Go.Maps
set_option linter.unusedVariables false
/-- does the signal at h, if there is one, hold -/
def stopsB (P : Pln) (L : List Int) (h : Prt) : Bool := match readsL P.ss h with | none => false | some i => !passP L i
/-- n rounds from h on, with left metres ahead already -/
def seesL (P : Pln) (pos L : List Int) : Nat → Prt → Int → Int
  | 0, _, _ => 4000
  | n + 1, h, left => if 4000 ≤ left then 4000 else if stopsB P L h then left else
      if (stepP P pos h).2 = 0 then seesL P pos L n (stepP P pos h).1 (left + max (eleAt P (stepP P pos h).1.e).l 1)
      else if (stepP P pos h).2 = 2 then 4000 else left
def seesP (P : Pln) (pos L : List Int) (B : Bdy) : Int :=
  match B.trail.getLast? with
  | none => 0
  | some h => if B.mode = 4 then 0 else if 0 < B.over then 4000 else seesL P pos L 4000 h (max B.left 0)
theorem seesL_far (P : Pln) (pos L : List Int) (n : Nat) (h : Prt) (left : Int) (hl : 4000 ≤ left) : seesL P pos L n h left = 4000 := by
  cases n with
  | zero => rfl
  | succ n => unfold seesL; rw [if_pos hl]
theorem seesL_succ (P : Pln) (pos L : List Int) (n : Nat) (h : Prt) (left : Int) (hl : left < 4000) : seesL P pos L (n + 1) h left = if stopsB P L h then left else
      if (stepP P pos h).2 = 0 then seesL P pos L n (stepP P pos h).1 (left + max (eleAt P (stepP P pos h).1.e).l 1)
      else if (stepP P pos h).2 = 2 then 4000 else left := by
  conv => lhs; unfold seesL
  rw [if_neg (by omega)]
theorem nextL_ok {P : Pln} (hk : PlnOk P) {x y : Prt} (h : nextL P.js x = some y) : PrtOk y := by
  have hm := nextL_mem _ _ _ h
  unfold portsL at hm
  simp only [List.mem_flatMap, List.mem_cons, List.not_mem_nil, or_false] at hm
  obtain ⟨j, hj, e⟩ := hm
  obtain ⟨a, b, c, d⟩ := hk.js j hj
  rcases e with rfl | rfl
  · exact ⟨a, b⟩
  · exact ⟨c, d⟩
theorem I64_of {x : Int} (h0 : -9223372036854775808 ≤ x) (h1 : x ≤ 9223372036854775807) : I64 x := by
  rw [← IntWalk.i64_in x ⟨h0, h1⟩]; exact i64_wrap _
theorem outsK_small {k i : Int} {w : Int × Int} (h : w ∈ outsK k i) : 0 ≤ w.1 ∧ w.1 ≤ 3 := by
  unfold outsK at h
  by_cases h0 : i < 0 ∨ endsK k ≤ i
  · rw [if_pos h0] at h; cases h
  rw [if_neg h0] at h
  by_cases h1 : k = 1
  · rw [if_pos h1] at h; subst h1
    have he : endsK 1 = 2 := rfl
    simp at h; subst h; dsimp only; omega
  rw [if_neg h1] at h
  by_cases h3 : k = 3
  · rw [if_pos h3] at h; subst h3
    have he : endsK 3 = 4 := rfl
    have hi : i = 0 ∨ i = 1 ∨ i = 2 ∨ i = 3 := by omega
    rcases hi with rfl | rfl | rfl | rfl <;> (simp at h; subst h; simp)
  rw [if_neg h3] at h
  by_cases h2 : k = 2
  · rw [if_pos h2] at h
    by_cases hi : i = 0
    · rw [if_pos hi] at h; simp at h; rcases h with rfl | rfl <;> simp
    · rw [if_neg hi] at h; simp at h; subst h; simp
  · rw [if_neg h2] at h; cases h
theorem throughL_mem : ∀ {l : List (Int × Int)} {q o : Int}, throughL l q = some o → ∃ w ∈ l, w.1 = o
  | [], _, _, h => by cases h
  | (a, p) :: t, q, o, h => by
    unfold throughL at h
    split at h
    · cases h; exact ⟨(a, p), List.mem_cons_self .., rfl⟩
    · obtain ⟨w, hw, e⟩ := throughL_mem h
      exact ⟨w, List.mem_cons_of_mem _ hw, e⟩
theorem stepP_ok {P : Pln} (hk : PlnOk P) (pos : List Int) (x : Prt) : PrtOk (stepP P pos x).1 := by
  have z : PrtOk ⟨0, 0⟩ := ⟨I64_of (by dsimp only; omega) (by dsimp only; omega), I64_of (by dsimp only; omega) (by dsimp only; omega)⟩
  unfold stepP
  cases hn : nextL P.js x with
  | none => exact z
  | some y =>
    dsimp only
    split
    · exact z
    · cases ht : throughL (outsK (eleAt P y.e).k y.x) (liesP pos y.e) with
      | none => exact z
      | some o =>
        obtain ⟨w, hw, rfl⟩ := throughL_mem ht
        have hs := outsK_small hw
        exact ⟨(nextL_ok hk hn).1, I64_of (by dsimp only; omega) (by dsimp only; omega)⟩
end Go.Proofs.YtaanepadgoefhaaGreatDoor
