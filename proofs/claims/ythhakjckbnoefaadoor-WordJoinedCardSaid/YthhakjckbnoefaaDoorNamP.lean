/- Names: plain. No program. -/
import Derived.Test.YthhakjckbnoefaaDoorUtil
namespace Go.Proofs.YthhakjckbnoefaaDoor
open Go.ChangeShapes Go.WideShapes Go.ChangeAt Go.RowKit
set_option linter.unusedVariables false
set_option linter.unusedSimpArgs false

/-- a letter -/
def letB (c : Int) : Bool := (decide (97 ≤ c) && decide (c ≤ 122)) || (decide (65 ≤ c) && decide (c ≤ 90))
/-- a digit -/
def digB (c : Int) : Bool := decide (48 ≤ c) && decide (c ≤ 57)
/-- may byte c stand at place i of a name -/
def okc (i : Nat) (c : Int) : Bool := letB c || (decide (i ≠ 0) && digB c)
/-- is it a name -/
def nmB (s : ByteArray) : Bool := decide (1 ≤ s.size) && decide (s.size ≤ 8) && (List.range s.size).all fun i => okc i (bt s i)

theorem nmB_bad (s : ByteArray) (k : Nat) (hk : k < s.size) (h : okc k (bt s k) = false) : nmB s = false := by
  cases hq : nmB s with
  | false => rfl
  | true =>
    unfold nmB at hq
    rw [Bool.and_eq_true, List.all_eq_true] at hq
    rw [hq.2 k (List.mem_range.2 hk)] at h
    cases h
theorem nmB_good (s : ByteArray) (h : ∀ i, i < s.size → okc i (bt s i) = true) : nmB s = (decide (1 ≤ s.size) && decide (s.size ≤ 8)) := by
  unfold nmB
  have : ((List.range s.size).all fun i => okc i (bt s i)) = true := by
    rw [List.all_eq_true]; intro i hi; exact h i (List.mem_range.1 hi)
  rw [this, Bool.and_true]
theorem okc_mk (i : Nat) (c : Int) (h : (97 ≤ c ∧ c ≤ 122) ∨ (65 ≤ c ∧ c ≤ 90) ∨ (i ≠ 0 ∧ 48 ≤ c ∧ c ≤ 57)) : okc i c = true := by
  unfold okc letB digB; simp; omega
theorem okc_no (i : Nat) (c : Int) (h : ¬ ((97 ≤ c ∧ c ≤ 122) ∨ (65 ≤ c ∧ c ≤ 90) ∨ (i ≠ 0 ∧ 48 ≤ c ∧ c ≤ 57))) : okc i c = false := by
  unfold okc letB digB; simp; omega
theorem okc_iff (i : Nat) (c : Int) : okc i c = true ↔ (97 ≤ c ∧ c ≤ 122) ∨ (65 ≤ c ∧ c ≤ 90) ∨ (i ≠ 0 ∧ 48 ≤ c ∧ c ≤ 57) := by
  unfold okc letB digB; simp; omega
end Go.Proofs.YthhakjckbnoefaaDoor
