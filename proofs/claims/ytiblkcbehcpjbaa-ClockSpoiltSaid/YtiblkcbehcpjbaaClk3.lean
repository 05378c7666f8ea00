/- Clock: Parse, Add, Till and the reference's. -/
import Derived.Test.YtiblkcbehcpjbaaClk2
namespace Go.Proofs.Ytiblkcbehcpjbaa
open Go.ChangeShapes Go.WideShapes Go.ChangeAt Go.RowKit
set_option linter.unusedVariables false
set_option linter.unusedSimpArgs false

theorem add_any (t d : Int) (w : World) :
    Calls Try.prog 20 #[.int .i64 t, .int .i64 d] w fun e w' => e = .returned (.int .i64 ((t + d) % 86400)) ∧ w = w' := by
  obtain ⟨T, hT⟩ : ∃ T, T = t % 86400 := ⟨_, rfl⟩
  obtain ⟨D, hD⟩ : ∃ D, D = d % 86400 := ⟨_, rfl⟩
  have b0 : 0 ≤ T ∧ T < 86400 := by omega
  have b1 : 0 ≤ D ∧ D < 86400 := by omega
  have e : (T + D) % 86400 = (t + d) % 86400 := by omega
  have E := Lib.hid e
  have HT := Lib.hid hT
  have HD := Lib.hid hD
  clear hT hD e
  go_enter Try.func20, Try.ntmps20
  go_wp2_with fail
  refine (time_hid t T HT _).mono ?_
  rintro e w' ⟨rfl, rfl⟩
  go_wp2_with fail
  refine (time_hid d D HD _).mono ?_
  rintro e w' ⟨rfl, rfl⟩
  go_wp2_with fail
  refine (time_any _ _).mono ?_
  rintro e w' ⟨rfl, rfl⟩
  go_wp2_with fail
  go_ret
  exact ⟨ret_int E.out, rfl⟩

theorem till_any (a b : Int) (w : World) :
    Calls Try.prog 22 #[.int .i64 a, .int .i64 b] w fun e w' => e = .returned (.int .i64 ((b - a) % 86400)) ∧ w = w' := by
  obtain ⟨T, hT⟩ : ∃ T, T = b % 86400 := ⟨_, rfl⟩
  obtain ⟨D, hD⟩ : ∃ D, D = a % 86400 := ⟨_, rfl⟩
  have b0 : 0 ≤ T ∧ T < 86400 := by omega
  have b1 : 0 ≤ D ∧ D < 86400 := by omega
  have e : (T - D) % 86400 = (b - a) % 86400 := by omega
  have E := Lib.hid e
  have HT := Lib.hid hT
  have HD := Lib.hid hD
  clear hT hD e
  go_enter Try.func22, Try.ntmps22
  go_wp2_with fail
  refine (time_hid b T HT _).mono ?_
  rintro e w' ⟨rfl, rfl⟩
  go_wp2_with fail
  refine (time_hid a D HD _).mono ?_
  rintro e w' ⟨rfl, rfl⟩
  go_wp2_with fail
  refine (time_any _ _).mono ?_
  rintro e w' ⟨rfl, rfl⟩
  go_wp2_with fail
  go_ret
  exact ⟨ret_int E.out, rfl⟩

theorem refAdd_any (t d : Int) (w : World) :
    Calls Try.prog 21 #[.int .i64 t, .int .i64 d] w fun e w' => e = .returned (.int .i64 ((t + d) % 86400)) ∧ w = w' := by
  obtain ⟨T, hT⟩ : ∃ T, T = t % 86400 := ⟨_, rfl⟩
  obtain ⟨D, hD⟩ : ∃ D, D = d % 86400 := ⟨_, rfl⟩
  have b0 : 0 ≤ T ∧ T < 86400 := by omega
  have b1 : 0 ≤ D ∧ D < 86400 := by omega
  have e : (T + D) % 86400 = (t + d) % 86400 := by omega
  have E := Lib.hid e
  have HT := Lib.hid hT
  have HD := Lib.hid hD
  clear hT hD e
  go_enter Try.func21, Try.ntmps21
  go_wp2_with fail
  refine (mod_hid t T HT _).mono ?_
  rintro e w' ⟨rfl, rfl⟩
  go_wp2_with fail
  refine (mod_hid d D HD _).mono ?_
  rintro e w' ⟨rfl, rfl⟩
  go_wp2_with fail
  refine (mod_any _ _).mono ?_
  rintro e w' ⟨rfl, rfl⟩
  go_wp2_with fail
  go_ret
  exact ⟨ret_int E.out, rfl⟩

theorem refTill_any (a b : Int) (w : World) :
    Calls Try.prog 23 #[.int .i64 a, .int .i64 b] w fun e w' => e = .returned (.int .i64 ((b - a) % 86400)) ∧ w = w' := by
  obtain ⟨T, hT⟩ : ∃ T, T = b % 86400 := ⟨_, rfl⟩
  obtain ⟨D, hD⟩ : ∃ D, D = a % 86400 := ⟨_, rfl⟩
  have b0 : 0 ≤ T ∧ T < 86400 := by omega
  have b1 : 0 ≤ D ∧ D < 86400 := by omega
  have e : (T - D) % 86400 = (b - a) % 86400 := by omega
  have E := Lib.hid e
  have HT := Lib.hid hT
  have HD := Lib.hid hD
  clear hT hD e
  go_enter Try.func23, Try.ntmps23
  go_wp2_with fail
  refine (mod_hid b T HT _).mono ?_
  rintro e w' ⟨rfl, rfl⟩
  go_wp2_with fail
  refine (mod_hid a D HD _).mono ?_
  rintro e w' ⟨rfl, rfl⟩
  go_wp2_with fail
  refine (mod_any _ _).mono ?_
  rintro e w' ⟨rfl, rfl⟩
  go_wp2_with fail
  go_ret
  exact ⟨ret_int E.out, rfl⟩

theorem two_sub (s : ByteArray) (a b : Nat) (hab : b = a + 2) (hb : b ≤ s.size) (w : World) :
    Calls Try.prog 39 #[.string (s.extract a b)] w fun e w' => e = .returned (.tuple #[.int .i64 (twoN (bt s a) (bt s (a + 1))), .bool (twoB (bt s a) (bt s (a + 1)))]) ∧ Gr w w' := by
  have h := two_any (s.extract a b) (by simp; omega) (by simp; omega) w
  rw [bt_extract s a b 0 (by omega) hb, bt_extract s a b 1 (by omega) hb] at h
  exact h

theorem parse_any (s : ByteArray) (w : World) (hs : s.size ≤ maxLen) :
    Calls Try.prog 16 #[.string s] w fun e w' => e = .returned (.tuple #[.int .i64 (clkN s), .bool (clkB s)]) ∧ Gr w w' := by
  by_cases h8 : s.size = 8
  · have g2 := bt_get s 2 (by omega)
    have g5 := bt_get s 5 (by omega)
    have l8 : 8 ≤ s.size := by omega
    have G2 := Lib.hid g2
    have G5 := Lib.hid g5
    have H8 := Lib.hid h8
    clear g2 g5
    have n0 := twoN_bd (bt s 0) (bt s 1)
    have n3 := twoN_bd (bt s 3) (bt s 4)
    have n6 := twoN_bd (bt s 6) (bt s 7)
    obtain ⟨n01, n02⟩ := n0
    obtain ⟨n31, n32⟩ := n3
    obtain ⟨n61, n62⟩ := n6
    go_enter Try.func16, Try.ntmps16
    go_wp2_with (first | (go_at_call 39; refine (two_sub s _ _ rfl (by omega) _).mono ?_; rintro e w' ⟨rfl, hb⟩))
    all_goals go_ret2
    all_goals first
      | (have hB : clkB s = false := by
           cases hq : clkB s with
           | false => rfl
           | true =>
             exfalso
             obtain ⟨_, i2, i5, a, b, c, a1, b1, c1⟩ := clkB_parts hq
             rw [G2.out] at i2
             rw [G5.out] at i5
             first | omega | (simp_all; done) | (simp_all; omega)
         have hN : clkN s = 0 := by unfold clkN; rw [hB]; rfl
         refine ⟨ret_ib hN.symm hB.symm, ?_⟩
         first | exact Gr.refl _ | exact Gr.trans (by assumption) (Gr.trans (by assumption) (by assumption)))
      | (have hB : clkB s = true := by
           unfold clkB
           rw [G2.out, G5.out]
           simp_all <;> omega
         have hN : clkN s = (twoN (bt s 0) (bt s 1) * 60 + twoN (bt s 3) (bt s 4)) * 60 + twoN (bt s 6) (bt s 7) := by unfold clkN; rw [hB]; rfl
         refine ⟨ret_ib hN.symm hB.symm, ?_⟩
         exact Gr.trans (by assumption) (Gr.trans (by assumption) (by assumption)))
  · have hB : clkB s = false := by unfold clkB; simp [h8]
    have hN : clkN s = 0 := by unfold clkN; rw [hB]; rfl
    have HB := Lib.hid hB
    have HN := Lib.hid hN
    have h8' : ((s.size : Int) != 8) = true := by rw [bne_iff_ne]; omega
    clear hB hN h8
    go_enter Try.func16, Try.ntmps16
    go_wp2
    go_ret2
    exact ⟨ret_ib HN.out.symm HB.out.symm, Gr.refl _⟩
end Go.Proofs.Ytiblkcbehcpjbaa
