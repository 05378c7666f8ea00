/- Pace: the reference's May. -/
import Derived.Test.YtaanepadgoefhaaGreatDoorB3
import Derived.Test.YtaanepadgoefhaaGreatDoorB2
namespace Go.Proofs.YtaanepadgoefhaaGreatDoor
open Go.ChangeShapes Go.WideShapes Go.ChangeAt Go.RowKit
set_option linter.unusedVariables false
set_option linter.unusedSimpArgs false

def winB (n lo hi : Int) : Bool := decide (lo ≤ n) && decide (n ≤ hi)
theorem winB_iff (n lo hi : Int) : winB n lo hi = true ↔ lo ≤ n ∧ n ≤ hi := by unfold winB; simp
theorem within_any (n lo hi : Int) (w : World) :
    Calls Tryz.prog 40 #[.int .i64 n, .int .i64 lo, .int .i64 hi] w fun e w' => e = .returned (.bool (winB n lo hi)) ∧ w' = w := by
  go_enter Tryz.func40, Tryz.ntmps40
  go_wp2
  all_goals go_ret
  all_goals (refine ⟨ret_bool ?_, rfl⟩; unfold winB; by_cases a1 : lo ≤ n <;> by_cases a2 : n ≤ hi <;> simp [a1, a2] <;> omega)

/-- a kind of trains that may be -/
def mayB (nm : ByteArray) (l t a b : Int) : Bool := nmB nm && winB l 1 4000 && winB t 1 60 && winB a 1 10 && winB b 1 10
theorem mayB_parts {nm : ByteArray} {l t a b : Int} (h : mayB nm l t a b = true) : nmB nm = true ∧ (1 ≤ l ∧ l ≤ 4000) ∧ (1 ≤ t ∧ t ≤ 60) ∧ (1 ≤ a ∧ a ≤ 10) ∧ (1 ≤ b ∧ b ≤ 10) := by
  unfold mayB at h
  simp only [Bool.and_eq_true, winB_iff] at h
  obtain ⟨⟨⟨⟨h1, h2⟩, h3⟩, h4⟩, h5⟩ := h
  exact ⟨h1, h2, h3, h4, h5⟩

theorem may_any (nm : ByteArray) (l t a b : Int) (hs : nm.size ≤ maxLen) (w : World) :
    Calls Tryz.prog 13 #[.agg #[.string nm, .int .i64 l, .int .i64 t, .int .i64 a, .int .i64 b]] w fun e w' => e = .returned (.bool (mayB nm l t a b)) ∧ Gr w w' := by
  go_enter Tryz.func13, Tryz.ntmps13
  go_wp2_with (first | (go_at_call 39; refine (refName_any nm hs _).mono ?_; rintro e w' ⟨rfl, rfl⟩) | (go_at_call 40; refine (within_any _ _ _ _).mono ?_; rintro e w' ⟨rfl, rfl⟩))
  all_goals go_ret
  all_goals refine ⟨ret_bool ?_, (Gr.refl _).alloc _⟩
  all_goals (unfold mayB; simp_all)

end Go.Proofs.YtaanepadgoefhaaGreatDoor
