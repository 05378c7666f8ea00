/- Numbers of so many digits: plain. No program. -/
import Derived.Test.YthhakjckbnoefaaDoorUtil
namespace Go.Proofs.YthhakjckbnoefaaDoor
open Go.ChangeShapes Go.WideShapes Go.ChangeAt Go.RowKit
set_option linter.unusedVariables false
set_option linter.unusedSimpArgs false

/-- is byte c a digit -/
def dgB (c : Int) : Bool := decide (48 ≤ c) && decide (c ≤ 57)
theorem dgB_iff (c : Int) : dgB c = true ↔ 48 ≤ c ∧ c ≤ 57 := by unfold dgB; simp
/-- the number that the first k bytes say -/
def nvB (s : ByteArray) : Nat → Int
  | 0 => 0
  | k + 1 => 10 * nvB s k + (bt s k - 48)
def allD (s : ByteArray) : Bool := (List.range s.size).all fun i => dgB (bt s i)
/-- is it a number of so many digits at most -/
def numB (s : ByteArray) (d : Int) : Bool := decide (1 ≤ d) && decide (d ≤ 9) && decide (1 ≤ s.size) && decide ((s.size : Int) ≤ d) && !(decide (1 < s.size) && decide (bt s 0 = 48)) && allD s
def numN (s : ByteArray) (d : Int) : Int := if numB s d then nvB s s.size else 0

theorem allD_iff (s : ByteArray) : allD s = true ↔ ∀ i, i < s.size → 48 ≤ bt s i ∧ bt s i ≤ 57 := by
  unfold allD
  rw [List.all_eq_true]
  constructor
  · intro h i hi
    exact (dgB_iff _).1 (h i (List.mem_range.2 hi))
  · intro h i hi
    exact (dgB_iff _).2 (h i (List.mem_range.1 hi))
theorem numB_iff (s : ByteArray) (d : Int) : numB s d = true ↔ 1 ≤ d ∧ d ≤ 9 ∧ 1 ≤ s.size ∧ (s.size : Int) ≤ d ∧ ¬ (1 < s.size ∧ bt s 0 = 48) ∧ ∀ i, i < s.size → 48 ≤ bt s i ∧ bt s i ≤ 57 := by
  unfold numB
  rw [← allD_iff]
  simp only [Bool.and_eq_true, decide_eq_true_eq, Bool.not_eq_true', Bool.and_eq_false_iff, decide_eq_false_iff_not]
  constructor
  · rintro ⟨⟨⟨⟨⟨a, b⟩, c⟩, d⟩, e⟩, f⟩
    refine ⟨a, b, c, d, ?_, f⟩
    rintro ⟨g, h⟩
    rcases e with e | e
    · exact e g
    · exact e h
  · rintro ⟨a, b, c, d, e, f⟩
    refine ⟨⟨⟨⟨⟨a, b⟩, c⟩, d⟩, ?_⟩, f⟩
    rcases Classical.em (1 < s.size) with g | g
    · exact .inr fun h => e ⟨g, h⟩
    · exact .inl g
theorem numB_not {s : ByteArray} {d : Int} (h : ¬ (1 ≤ d ∧ d ≤ 9 ∧ 1 ≤ s.size ∧ (s.size : Int) ≤ d ∧ ¬ (1 < s.size ∧ bt s 0 = 48) ∧ ∀ i, i < s.size → 48 ≤ bt s i ∧ bt s i ≤ 57)) : numB s d = false ∧ numN s d = 0 := by
  have e : numB s d = false := by
    cases hq : numB s d with
    | false => rfl
    | true => exact absurd ((numB_iff s d).1 hq) h
  exact ⟨e, by unfold numN; rw [e]; rfl⟩
theorem nvB_bd (s : ByteArray) : ∀ k : Nat, (∀ i, i < k → 48 ≤ bt s i ∧ bt s i ≤ 57) → 0 ≤ nvB s k ∧ nvB s k < 10 ^ k
  | 0, _ => by simp [nvB]
  | k + 1, h => by
    have ih := nvB_bd s k fun i hi => h i (by omega)
    have hk := h k (by omega)
    have e : (10 : Int) ^ (k + 1) = 10 * 10 ^ k := by rw [Int.pow_succ, Int.mul_comm]
    simp only [nvB]
    omega
theorem pow_le9 (k : Nat) (h : k ≤ 8) : (10 : Int) ^ k ≤ 100000000 := by
  match k, h with
  | 0, _ => decide
  | 1, _ => decide
  | 2, _ => decide
  | 3, _ => decide
  | 4, _ => decide
  | 5, _ => decide
  | 6, _ => decide
  | 7, _ => decide
  | 8, _ => decide
end Go.Proofs.YthhakjckbnoefaaDoor
