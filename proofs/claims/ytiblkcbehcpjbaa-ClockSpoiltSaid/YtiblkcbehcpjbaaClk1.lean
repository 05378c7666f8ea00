/- Clock: what each function of clock and of its reference gives. -/
import Derived.Test.YtiblkcbehcpjbaaRows
import Derived.Test.YtiblkcbehcpjbaaClkP
namespace Go.Proofs.Ytiblkcbehcpjbaa
open Go.ChangeShapes Go.WideShapes Go.ChangeAt Go.RowKit
set_option linter.unusedVariables false
set_option linter.unusedSimpArgs false

theorem time_plain (t : Int) (h : t.tmod 86400 < 0) : t.tmod 86400 + 86400 = t % 86400 := by
  have := Int.tmod_eq_emod (a := t) (b := 86400)
  split at this <;> omega
theorem time_plain' (t : Int) (h : 0 ≤ t.tmod 86400) : t.tmod 86400 = t % 86400 := by
  have := Int.tmod_eq_emod (a := t) (b := 86400)
  split at this <;> omega
theorem time_bd (t : Int) : -86400 < t.tmod 86400 ∧ t.tmod 86400 < 86400 := by
  have := Int.tmod_eq_emod (a := t) (b := 86400)
  split at this <;> omega

theorem time_any (t : Int) (w : World) :
    Calls Try.prog 40 #[.int .i64 t] w fun e w' => e = .returned (.int .i64 (t % 86400)) ∧ w = w' := by
  have hb := time_bd t
  obtain ⟨hb1, hb2⟩ := hb
  by_cases h : t.tmod 86400 < 0
  · go_enter Try.func40, Try.ntmps40
    go_wp2
    go_ret
    exact ⟨ret_int (time_plain t h), rfl⟩
  · have h' : 0 ≤ t.tmod 86400 := by omega
    clear h
    go_enter Try.func40, Try.ntmps40
    go_wp2
    go_ret
    exact ⟨ret_int (time_plain' t h'), rfl⟩

theorem mod_any (t : Int) (w : World) :
    Calls Try.prog 24 #[.int .i64 t] w fun e w' => e = .returned (.int .i64 (t % 86400)) ∧ w = w' := by
  have hb := time_bd t
  obtain ⟨hb1, hb2⟩ := hb
  go_enter Try.func24, Try.ntmps24
  go_wp2
  go_ret
  refine ⟨ret_int ?_, rfl⟩
  have := Int.tmod_eq_emod (a := t) (b := 86400)
  split at this <;> omega

theorem two_any (s : ByteArray) (h0 : 0 < s.size) (h1 : 1 < s.size) (w : World) :
    Calls Try.prog 39 #[.string s] w fun e w' => e = .returned (.tuple #[.int .i64 (twoN (bt s 0) (bt s 1)), .bool (twoB (bt s 0) (bt s 1))]) ∧ Gr w w' := by
  have e0 := bt_get s 0 h0
  have e1 := bt_get s 1 h1
  have H0 := Lib.hid e0
  have H1 := Lib.hid e1
  clear e0 e1
  go_enter Try.func39, Try.ntmps39
  go_wp2
  all_goals try (go_quiet (fail); go_wp2)
  all_goals go_ret2
  all_goals first
    | (have hh : twoB (bt s 0) (bt s 1) = false := by (rw [H0.out, H1.out]; unfold twoB; simp; omega)
       refine ⟨ret_ib ?_ hh.symm, ?_⟩
       · unfold twoN; rw [hh]; rfl
       · exact Gr.refl _)
    | (have hh : twoB (bt s 0) (bt s 1) = true := by (rw [H0.out, H1.out]; unfold twoB; simp; omega)
       refine ⟨ret_ib ?_ hh.symm, ?_⟩
       · unfold twoN; rw [hh, H0.out, H1.out]; rfl
       · exact Gr.drewN (Gr.refl _) _)
end Go.Proofs.Ytiblkcbehcpjbaa
