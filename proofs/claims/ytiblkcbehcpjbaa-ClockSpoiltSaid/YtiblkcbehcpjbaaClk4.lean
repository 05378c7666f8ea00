/- Clock: the reference's Parse. -/
import Derived.Test.YtiblkcbehcpjbaaClk3
namespace Go.Proofs.Ytiblkcbehcpjbaa
open Go.ChangeShapes Go.WideShapes Go.ChangeAt Go.RowKit
set_option linter.unusedVariables false
set_option linter.unusedSimpArgs false

theorem refParse_any (s : ByteArray) (w : World) (hs : s.size ≤ maxLen) :
    Calls Try.prog 17 #[.string s] w fun e w' => e = .returned (.tuple #[.int .i64 (clkN s), .bool (clkB s)]) ∧ Gr w w' := by
  by_cases h8 : s.size = 8
  · have h8' : ((s.size : Int) != 8) = false := by simp [h8]
    have l8 : 8 ≤ s.size := by omega
    clear h8
    have G0 := Lib.hid (bt_get s 0 (by omega))
    have G1 := Lib.hid (bt_get s 1 (by omega))
    have G3 := Lib.hid (bt_get s 3 (by omega))
    have G4 := Lib.hid (bt_get s 4 (by omega))
    have G6 := Lib.hid (bt_get s 6 (by omega))
    have G7 := Lib.hid (bt_get s 7 (by omega))
    go_enter Try.func17, Try.ntmps17
    go_wp2
    refine wp_loop_rounds 9 ?_
    rw [rounds_succ]
    go_wp2
    rw [rounds_succ]
    go_wp2
    rw [rounds_succ]
    go_wp2
    rw [rounds_succ]
    go_wp2
    rw [rounds_succ]
    go_wp2
    rw [rounds_succ]
    go_wp2
    rw [rounds_succ]
    go_wp2
    rw [rounds_succ]
    go_wp2
    rw [rounds_succ]
    go_wp2_with (first | (go_at_call 19; refine (refPrint_any _ _).mono ?_; rintro e w' ⟨rfl, hb⟩))
    · go_ret2
      have hB := refR_no' s _ _ _ _ _ _ G0.out G1.out G3.out G4.out G6.out G7.out (by assumption)
      have hN : clkN s = 0 := by unfold clkN; rw [hB]; rfl
      exact ⟨ret_ib hN.symm hB.symm, by assumption⟩
    · go_ret2
      have hB := refR_yes' s _ _ _ _ _ _ G0.out G1.out G3.out G4.out G6.out G7.out (by assumption)
      exact ⟨ret_ib hB.2.symm hB.1.symm, by assumption⟩
  · have hB : clkB s = false := by unfold clkB; simp [h8]
    have hN : clkN s = 0 := by unfold clkN; rw [hB]; rfl
    have HB := Lib.hid hB
    have HN := Lib.hid hN
    have h8' : ((s.size : Int) != 8) = true := by rw [bne_iff_ne]; omega
    clear hB hN h8
    go_enter Try.func17, Try.ntmps17
    go_wp2
    go_ret2
    exact ⟨ret_ib HN.out.symm HB.out.symm, Gr.refl _⟩
end Go.Proofs.Ytiblkcbehcpjbaa
