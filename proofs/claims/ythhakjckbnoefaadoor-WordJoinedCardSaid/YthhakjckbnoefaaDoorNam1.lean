/- The reference's Name. -/
import Derived.Test.YthhakjckbnoefaaDoorRows
import Derived.Test.YthhakjckbnoefaaDoorNamP
namespace Go.Proofs.YthhakjckbnoefaaDoor
open Go.ChangeShapes Go.WideShapes Go.ChangeAt Go.RowKit
set_option linter.unusedVariables false
set_option linter.unusedSimpArgs false

set_option maxHeartbeats 400000 in
theorem refName_any (s : ByteArray) (hs : s.size ≤ maxLen) (w : World) :
    Calls Tryd.prog 20 #[.string s] w fun e w' => e = .returned (.bool (nmB s)) ∧ w' = w := by
  unfold maxLen at hs
  go_enter Tryd.func20, Tryd.ntmps20
  go_wp2
  go_loop [3, 4, 5] (fun i _ _ => ∃ k : Nat, i = .int .i64 k ∧ k ≤ s.size ∧ Hid (∀ j, j < k → okc j (bt s j) = true)) (fun i _ _ => s.size - (intOf i).toNat)
  case atStart => exact ⟨0, rfl, Nat.zero_le _, fun j hj => by omega⟩
  case round =>
    obtain ⟨k, rfl, hk, HA⟩ := hrel
    by_cases hlt : k < s.size
    · have HG := Lib.hid (bt_get s k hlt)
      have hk0 : ((k : Int) == 0) = true ∨ ((k : Int) == 0) = false := by cases h : ((k : Int) == 0) <;> simp
      by_cases hok : okc k (bt s k) = true
      · have HN : Hid (∀ j, j < k + 1 → okc j (bt s j) = true) := by
          intro j hj
          by_cases e : j = k
          · rw [e]; exact hok
          · exact HA.out j (by omega)
        have ho := (okc_iff k (bt s k)).1 hok
        rw [HG.out] at ho
        rw [show (k ≠ 0) = ¬ ((k : Int) == 0) = true from by simp] at ho
        clear hok HA HG
        rcases hk0 with hk0 | hk0
        all_goals go_wp2
        all_goals (first | (exfalso; simp_all; done) | (exfalso; simp_all; omega) | skip)
        all_goals go_round
        all_goals try (case rel => exact ⟨k + 1, by go_num, by omega, HN⟩)
        all_goals try (case measure => simp [intOf]; omega)
      · have HB := Lib.hid (nmB_bad s k hlt (by simpa using hok))
        have ho : ¬ ((97 ≤ bt s k ∧ bt s k ≤ 122) ∨ (65 ≤ bt s k ∧ bt s k ≤ 90) ∨ (k ≠ 0 ∧ 48 ≤ bt s k ∧ bt s k ≤ 57)) := fun h => hok ((okc_iff k (bt s k)).2 h)
        rw [HG.out] at ho
        rw [show (k ≠ 0) = ¬ ((k : Int) == 0) = true from by simp] at ho
        clear hok HA HG
        rcases hk0 with hk0 | hk0
        all_goals go_wp2
        all_goals (first | (exfalso; simp_all; done) | (exfalso; simp_all; omega) | skip)
        all_goals go_ret
        all_goals exact ⟨ret_bool HB.out.symm, rfl⟩
    · have HB := Lib.hid (nmB_good s fun i hi => HA.out i (by omega))
      clear HA
      go_wp2
      all_goals go_ret
      all_goals (refine ⟨ret_bool ?_, rfl⟩; rw [HB.out]; by_cases a1 : 1 ≤ s.size <;> by_cases a2 : s.size ≤ 8 <;> simp [a1, a2] <;> omega)
end Go.Proofs.YthhakjckbnoefaaDoor
