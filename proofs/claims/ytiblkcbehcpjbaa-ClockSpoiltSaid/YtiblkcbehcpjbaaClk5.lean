/- Clock: the laws' walks. -/
import Derived.Test.YtiblkcbehcpjbaaClk4
namespace Go.Proofs.Ytiblkcbehcpjbaa
open Go.ChangeShapes Go.WideShapes Go.ChangeAt Go.RowKit
set_option linter.unusedVariables false
set_option linter.unusedSimpArgs false

theorem known_any (w : World) : Calls Try.prog 15 #[] w fun e w' => e = .returned (.bool true) ∧ Gr w w' := by
  go_enter Try.func15, Try.ntmps15
  go_wp2_with fail
  refine (parse_any _ _ (by decide)).mono ?_
  rintro e w1 ⟨rfl, h1⟩
  have k1 : clkB ⟨#[48, 49, 58, 48, 50, 58, 48, 51]⟩ = true := by kernel_rfl
  have k2 : clkN ⟨#[48, 49, 58, 48, 50, 58, 48, 51]⟩ = 3723 := by kernel_rfl
  rw [k1, k2]
  clear k1 k2
  go_wp2_with fail
  refine (parse_any _ _ (by decide)).mono ?_
  rintro e w2 ⟨rfl, h2⟩
  have k1 : clkB ⟨#[50, 52, 58, 48, 48, 58, 48, 48]⟩ = false := by kernel_rfl
  have k2 : clkN ⟨#[50, 52, 58, 48, 48, 58, 48, 48]⟩ = 0 := by kernel_rfl
  rw [k1, k2]
  clear k1 k2
  go_wp2_with fail
  refine (print_any _ _).mono ?_
  rintro e w3 ⟨rfl, h3⟩
  have k1 : clkT ((-1) % 86400) = ⟨#[50, 51, 58, 53, 57, 58, 53, 57]⟩ := by kernel_rfl
  rw [k1]
  clear k1
  go_wp2_with fail
  refine (add_any _ _ _).mono ?_
  rintro e w4 ⟨rfl, rfl⟩
  go_wp2_with fail
  refine (till_any _ _ _).mono ?_
  rintro e w5 ⟨rfl, rfl⟩
  go_wp2_with fail
  go_ret
  exact ⟨rfl, h1.trans (h2.trans h3)⟩

theorem clockForms_walk (a b : Int) (s : ByteArray) (w : World) (wa : (Lit.int .i64 a).wf = true) (wb : (Lit.int .i64 b).wf = true) (ws : s.size ≤ maxLen) :
    Calls Try.prog 3 #[.int .i64 a, .int .i64 b, .string s] w fun e w' => e = .returned (.bool true) ∧ Gr w w' := by
  go_enter Try.func3, Try.ntmps3
  go_wp2_with fail
  refine (known_any _).mono ?_
  rintro e w0 ⟨rfl, h0⟩
  go_wp2_with fail
  refine (parse_any _ _ ws).mono ?_
  rintro e w1 ⟨rfl, h1⟩
  go_wp2_with fail
  refine (refParse_any _ _ ws).mono ?_
  rintro e w2 ⟨rfl, h2⟩
  go_wp2_with fail
  refine (print_any _ _).mono ?_
  rintro e w3 ⟨rfl, h3⟩
  go_wp2_with fail
  refine (refPrint_any _ _).mono ?_
  rintro e w4 ⟨rfl, h4⟩
  go_wp2_with fail
  refine (add_any _ _ _).mono ?_
  rintro e w5 ⟨rfl, rfl⟩
  go_wp2_with fail
  refine (refAdd_any _ _ _).mono ?_
  rintro e w5 ⟨rfl, rfl⟩
  go_wp2_with fail
  refine (till_any _ _ _).mono ?_
  rintro e w5 ⟨rfl, rfl⟩
  go_wp2_with fail
  refine (refTill_any _ _ _).mono ?_
  rintro e w5 ⟨rfl, rfl⟩
  go_wp2_with fail
  go_ret
  exact ⟨rfl, h0.trans (h1.trans (h2.trans (h3.trans h4)))⟩

end Go.Proofs.Ytiblkcbehcpjbaa
