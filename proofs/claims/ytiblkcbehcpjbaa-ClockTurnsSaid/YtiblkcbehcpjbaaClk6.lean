/- Clock: the other laws' walks. -/
import Derived.Test.YtiblkcbehcpjbaaClk5
namespace Go.Proofs.Ytiblkcbehcpjbaa
open Go.ChangeShapes Go.WideShapes Go.ChangeAt Go.RowKit
set_option linter.unusedVariables false
set_option linter.unusedSimpArgs false

theorem clockBack_walk (a : Int) (s : ByteArray) (w : World) (wa : (Lit.int .i64 a).wf = true) (ws : s.size ≤ maxLen) :
    Calls Try.prog 4 #[.int .i64 a, .string s] w fun e w' => e = .returned (.bool true) ∧ Gr w w' := by
  obtain ⟨k1, k2⟩ := clkN_val (a % 86400) (by omega) (by omega)
  have ksz : (clkT (a % 86400)).size ≤ maxLen := by rw [clkT_size]; decide
  have K1 := Lib.hid k1
  have K2 := Lib.hid k2
  clear k1 k2
  cases hB : clkB s with
  | false =>
    have HB := Lib.hid hB
    clear hB
    go_enter Try.func4, Try.ntmps4
    go_wp2_with fail
    refine (known_any _).mono ?_
    rintro e w0 ⟨rfl, h0⟩
    go_wp2_with fail
    refine (print_any _ _).mono ?_
    rintro e w1 ⟨rfl, h1⟩
    go_wp2_with fail
    refine (parse_any _ _ ksz).mono ?_
    rintro e w2 ⟨rfl, h2⟩
    rw [K1.out, K2.out]
    go_wp2_with fail
    refine (parse_any _ _ ws).mono ?_
    rintro e w3 ⟨rfl, h3⟩
    rw [HB.out]
    go_wp2_with fail
    refine (mod_any _ _).mono ?_
    rintro e w4 ⟨rfl, rfl⟩
    go_wp2_with fail
    go_ret
    exact ⟨rfl, h0.trans (h1.trans (h2.trans h3))⟩
  | true =>
    have e := clkT_clkN hB
    have hb := clkN_bd s
    have e2 : clkT (clkN s % 86400) = s := by rw [Int.emod_eq_of_lt hb.1 hb.2]; exact e
    have HB := Lib.hid hB
    have HE := Lib.hid e2
    clear hB e e2 hb
    go_enter Try.func4, Try.ntmps4
    go_wp2_with fail
    refine (known_any _).mono ?_
    rintro e w0 ⟨rfl, h0⟩
    go_wp2_with fail
    refine (print_any _ _).mono ?_
    rintro e w1 ⟨rfl, h1⟩
    go_wp2_with fail
    refine (parse_any _ _ ksz).mono ?_
    rintro e w2 ⟨rfl, h2⟩
    rw [K1.out, K2.out]
    go_wp2_with fail
    refine (parse_any _ _ ws).mono ?_
    rintro e w3 ⟨rfl, h3⟩
    rw [HB.out]
    go_wp2_with fail
    refine (mod_any _ _).mono ?_
    rintro e w4 ⟨rfl, rfl⟩
    go_wp2_with fail
    refine (print_any _ _).mono ?_
    rintro e w5 ⟨rfl, h5⟩
    rw [HE.out]
    go_wp2_with fail
    go_ret
    exact ⟨rfl, h0.trans (h1.trans (h2.trans (h3.trans h5)))⟩

theorem clockRound_walk (a b : Int) (w : World) (wa : (Lit.int .i64 a).wf = true) (wb : (Lit.int .i64 b).wf = true) :
    Calls Try.prog 5 #[.int .i64 a, .int .i64 b] w fun e w' => e = .returned (.bool true) ∧ Gr w w' := by
  have e1 : (a + (b - a) % 86400) % 86400 = b % 86400 := by omega
  have e2 : ((a + b) % 86400 - a) % 86400 = b % 86400 := by omega
  have E1 := Lib.hid e1
  have E2 := Lib.hid e2
  clear e1 e2
  have d0 : 0 ≤ (b - a) % 86400 := by omega
  have d1 : (b - a) % 86400 < 86400 := by omega
  go_enter Try.func5, Try.ntmps5
  go_wp2_with fail
  refine (known_any _).mono ?_
  rintro e w0 ⟨rfl, h0⟩
  go_wp2_with fail
  refine (till_any _ _ _).mono ?_
  rintro e w1 ⟨rfl, rfl⟩
  go_wp2_with fail
  refine (add_any _ _ _).mono ?_
  rintro e w1 ⟨rfl, rfl⟩
  rw [E1.out]
  go_wp2_with fail
  refine (mod_any _ _).mono ?_
  rintro e w4 ⟨rfl, rfl⟩
  go_wp2_with fail
  refine (add_any _ _ _).mono ?_
  rintro e w1 ⟨rfl, rfl⟩
  go_wp2_with fail
  refine (till_any _ _ _).mono ?_
  rintro e w1 ⟨rfl, rfl⟩
  rw [E2.out]
  go_wp2_with fail
  refine (mod_any _ _).mono ?_
  rintro e w4 ⟨rfl, rfl⟩
  go_wp2_with fail
  go_ret
  exact ⟨rfl, h0⟩

theorem clockTurns_walk (a b c : Int) (w : World) (wa : (Lit.int .i64 a).wf = true) (wb : (Lit.int .i64 b).wf = true) (wc : (Lit.int .i64 c).wf = true) :
    Calls Try.prog 6 #[.int .i64 a, .int .i64 b, .int .i64 c] w fun e w' => e = .returned (.bool true) ∧ Gr w w' := by
  have e1 : ((a + b) % 86400 + c) % 86400 = ((a + c) % 86400 + b) % 86400 := by omega
  have e2 : (a + b) % 86400 = (b + a) % 86400 := by omega
  have e3 : (a + 86400) % 86400 = (a + 0) % 86400 := by omega
  have E1 := Lib.hid e1
  have E2 := Lib.hid e2
  have E3 := Lib.hid e3
  clear e1 e2 e3
  have d0 : 0 ≤ (b - a) % 86400 := by omega
  have d1 : (b - a) % 86400 < 86400 := by omega
  have d2 : 0 ≤ (a - b) % 86400 := by omega
  have d3 : (a - b) % 86400 < 86400 := by omega
  go_enter Try.func6, Try.ntmps6
  go_wp2_with fail
  refine (known_any _).mono ?_
  rintro e w0 ⟨rfl, h0⟩
  go_wp2_with fail
  refine (add_any _ _ _).mono ?_
  rintro e w1 ⟨rfl, rfl⟩
  go_wp2_with fail
  refine (add_any _ _ _).mono ?_
  rintro e w1 ⟨rfl, rfl⟩
  rw [E1.out]
  go_wp2_with fail
  refine (add_any _ _ _).mono ?_
  rintro e w1 ⟨rfl, rfl⟩
  go_wp2_with fail
  refine (add_any _ _ _).mono ?_
  rintro e w1 ⟨rfl, rfl⟩
  go_wp2_with fail
  refine (add_any _ _ _).mono ?_
  rintro e w1 ⟨rfl, rfl⟩
  rw [E2.out]
  go_wp2_with fail
  refine (add_any _ _ _).mono ?_
  rintro e w1 ⟨rfl, rfl⟩
  go_wp2_with fail
  refine (add_any _ _ _).mono ?_
  rintro e w1 ⟨rfl, rfl⟩
  rw [E3.out]
  go_wp2_with fail
  refine (add_any _ _ _).mono ?_
  rintro e w1 ⟨rfl, rfl⟩
  go_wp2_with fail
  refine (till_any _ _ _).mono ?_
  rintro e w1 ⟨rfl, rfl⟩
  go_wp2_with fail
  refine (till_any _ _ _).mono ?_
  rintro e w1 ⟨rfl, rfl⟩
  go_wp2_with fail
  go_ret
  exact ⟨ret_bool (by simp; omega), h0⟩
end Go.Proofs.Ytiblkcbehcpjbaa
