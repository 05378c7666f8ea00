/- Pace: the reference's May; what is known. -/
import Derived.Test.YtiblkcbehcpjbaaNam1
import Derived.Test.YtiblkcbehcpjbaaPac4
import Derived.Test.YtiblkcbehcpjbaaPac5
import Derived.Test.YtiblkcbehcpjbaaPac6
namespace Go.Proofs.Ytiblkcbehcpjbaa
open Go.ChangeShapes Go.WideShapes Go.ChangeAt Go.RowKit
set_option linter.unusedVariables false
set_option linter.unusedSimpArgs false

def winB (n lo hi : Int) : Bool := decide (lo ≤ n) && decide (n ≤ hi)
theorem winB_iff (n lo hi : Int) : winB n lo hi = true ↔ lo ≤ n ∧ n ≤ hi := by unfold winB; simp
theorem within_any (n lo hi : Int) (w : World) :
    Calls Try.prog 44 #[.int .i64 n, .int .i64 lo, .int .i64 hi] w fun e w' => e = .returned (.bool (winB n lo hi)) ∧ w' = w := by
  go_enter Try.func44, Try.ntmps44
  go_wp2
  all_goals go_ret
  all_goals (refine ⟨ret_bool ?_, rfl⟩; unfold winB; by_cases a1 : lo ≤ n <;> by_cases a2 : n ≤ hi <;> simp [a1, a2] <;> omega)

/-- a kind of trains that may be -/
def mayB (nm : ByteArray) (l t a b : Int) : Bool := nmB nm && winB l 1 4000 && winB t 1 60 && winB a 1 10 && winB b 1 10
theorem mayB_parts {nm : ByteArray} {l t a b : Int} (h : mayB nm l t a b = true) : nmB nm = true ∧ (1 ≤ l ∧ l ≤ 4000) ∧ (1 ≤ t ∧ t ≤ 60) ∧ (1 ≤ a ∧ a ≤ 10) ∧ (1 ≤ b ∧ b ≤ 10) := by
  unfold mayB at h
  simp only [Bool.and_eq_true, winB_iff] at h
  obtain ⟨⟨⟨⟨h1, h2⟩, h3⟩, h4⟩, h5⟩ := h
  exact ⟨h1, h2, h3, h4, h5⟩

theorem may_any (nm : ByteArray) (l t a b : Int) (hs : nm.size ≤ maxLen) (w : World) :
    Calls Try.prog 26 #[.agg #[.string nm, .int .i64 l, .int .i64 t, .int .i64 a, .int .i64 b]] w fun e w' => e = .returned (.bool (mayB nm l t a b)) ∧ Gr w w' := by
  go_enter Try.func26, Try.ntmps26
  go_wp2_with (first | (go_at_call 43; refine (refName_any nm hs _).mono ?_; rintro e w' ⟨rfl, rfl⟩) | (go_at_call 44; refine (within_any _ _ _ _).mono ?_; rintro e w' ⟨rfl, rfl⟩))
  all_goals go_ret
  all_goals refine ⟨ret_bool ?_, (Gr.refl _).alloc _⟩
  all_goals (unfold mayB; simp_all)

theorem one_any (w : World) :
    Calls Try.prog 42 #[] w fun e w' => e = .returned (.agg #[.string ⟨#[120]⟩, .int .i64 5, .int .i64 10, .int .i64 2, .int .i64 3]) ∧ Gr w w' := by
  go_enter Try.func42, Try.ntmps42
  go_wp2
  refine bodyPost_ret (v := .agg #[.string ⟨#[120]⟩, .int .i64 5, .int .i64 10, .int .i64 2, .int .i64 3]) (by simp [results, Try.results42, go_sem]) rfl ⟨rfl, ?_⟩
  exact (Gr.refl _).alloc _

theorem known22_any (w : World) : Calls Try.prog 25 #[] w fun e w' => e = .returned (.bool true) ∧ Gr w w' := by
  have ht : (1 : Int) ≤ 10 ∧ (10 : Int) ≤ 60 := by decide
  have ha : (1 : Int) ≤ 2 ∧ (2 : Int) ≤ 10 := by decide
  have hb : (1 : Int) ≤ 3 ∧ (3 : Int) ≤ 10 := by decide
  have k1 : nxt 10 2 3 4 9 false = 6 := by kernel_rfl
  have k2 : nxt 10 2 3 4 9 true = 1 := by kernel_rfl
  have k3 : stopD 10 3 10 = 12 := by kernel_rfl
  have k4 : tck 10 3 10 = 4 := by kernel_rfl
  have k5 : kps 10 2 3 4 9 = 6 := by kernel_rfl
  have k6 : rch 10 2 3 (hld 3 0 65536).toNat 0 = 12 := by kernel_rfl
  have k7 : lst 10 2 3 0 13 = 4 := by kernel_rfl
  go_enter Try.func25, Try.ntmps25
  go_wp2_with fail
  refine (one_any _).mono ?_
  rintro e w1 ⟨rfl, h1⟩
  go_wp2_with fail
  refine (next_any _ _ _ _ _ _ _ _ ht ha hb _).mono ?_
  rintro e w2 ⟨rfl, h2⟩
  rw [k1]
  go_wp2_with fail
  refine (one_any _).mono ?_
  rintro e w3 ⟨rfl, h3⟩
  go_wp2_with fail
  refine (next_any _ _ _ _ _ _ _ _ ht ha hb _).mono ?_
  rintro e w4 ⟨rfl, h4⟩
  rw [k2]
  go_wp2_with fail
  refine (one_any _).mono ?_
  rintro e w5 ⟨rfl, h5⟩
  go_wp2_with fail
  refine (stop_any _ _ _ _ _ _ ht ha hb _).mono ?_
  rintro e w6 ⟨rfl, h6⟩
  rw [k3]
  go_wp2_with fail
  refine (one_any _).mono ?_
  rintro e w7 ⟨rfl, h7⟩
  go_wp2_with fail
  refine (ticks_any _ _ _ _ _ _ ht ha hb _).mono ?_
  rintro e w8 ⟨rfl, h8⟩
  rw [k4]
  go_wp2_with fail
  refine (one_any _).mono ?_
  rintro e w9 ⟨rfl, h9⟩
  go_wp2_with fail
  refine (keeps_any _ _ _ _ _ _ _ ht ha hb _).mono ?_
  rintro e w10 ⟨rfl, h10⟩
  rw [k5]
  go_wp2_with fail
  refine (one_any _).mono ?_
  rintro e w11 ⟨rfl, h11⟩
  go_wp2_with fail
  refine (reach_any _ _ _ _ _ _ _ ht ha hb _).mono ?_
  rintro e w12 ⟨rfl, h12⟩
  rw [k6]
  go_wp2_with fail
  refine (one_any _).mono ?_
  rintro e w13 ⟨rfl, h13⟩
  go_wp2_with fail
  refine (least_any _ _ _ _ _ _ _ ht ha hb _).mono ?_
  rintro e w14 ⟨rfl, h14⟩
  rw [k7]
  go_wp2_with fail
  go_ret
  exact ⟨rfl, h1.trans (h2.trans (h3.trans (h4.trans (h5.trans (h6.trans (h7.trans (h8.trans (h9.trans (h10.trans (h11.trans (h12.trans (h13.trans h14))))))))))))⟩
end Go.Proofs.Ytiblkcbehcpjbaa
