/- Clock: printing. -/
import Derived.Test.YtiblkcbehcpjbaaClk1
import Derived.LoopN
namespace Go.Proofs.Ytiblkcbehcpjbaa
open Go.ChangeShapes Go.WideShapes Go.ChangeAt Go.RowKit
set_option linter.unusedVariables false
set_option linter.unusedSimpArgs false

theorem digits_any (n : Int) (h0 : 0 ≤ n) (h1 : n ≤ 99) (w : World) :
    Calls Try.prog 41 #[.int .i64 n] w fun e w' => e = .returned (.string (digT n)) ∧ Gr w w' := by
  have hc := fun wx => conv2 (P := Try.prog) 32 9 5 Try.underlying32 Try.underlying5 Try.underlying9 (48 + n / 10) (48 + n % 10) (by omega) (by omega) wx 5
  go_enter Try.func41, Try.ntmps41
  go_wp2
  go_ret
  exact ⟨ret_str rfl, (Gr.refl _).alloc _⟩

theorem time_hid (t T : Int) (hT : Hid (T = t % 86400)) (w : World) :
    Calls Try.prog 40 #[.int .i64 t] w fun e w' => e = .returned (.int .i64 T) ∧ w = w' := by
  rw [hT.out]; exact time_any t w
theorem mod_hid (t T : Int) (hT : Hid (T = t % 86400)) (w : World) :
    Calls Try.prog 24 #[.int .i64 t] w fun e w' => e = .returned (.int .i64 T) ∧ w = w' := by
  rw [hT.out]; exact mod_any t w

theorem print_any (t : Int) (w : World) :
    Calls Try.prog 18 #[.int .i64 t] w fun e w' => e = .returned (.string (clkT (t % 86400))) ∧ Gr w w' := by
  obtain ⟨T, hT⟩ : ∃ T, T = t % 86400 := ⟨_, rfl⟩
  have b0 : 0 ≤ T := by omega
  have b1 : T < 86400 := by omega
  have HT := Lib.hid hT
  clear hT
  go_enter Try.func18, Try.ntmps18
  go_wp2_with (first | (go_at_call 40; refine (time_hid t T HT _).mono ?_; rintro e w' ⟨rfl, rfl⟩) | (go_at_call 41; refine (digits_any _ (by omega) (by omega) _).mono ?_; rintro e w' ⟨rfl, hb⟩))
  go_ret
  rename_i q1 q2 _ _ _ q3 _
  rw [← HT.out]
  refine ⟨ret_str rfl, ?_⟩
  exact (Gr.trans (by assumption) (Gr.trans (by assumption) (by assumption)))

theorem refPrint_any (t : Int) (w : World) :
    Calls Try.prog 19 #[.int .i64 t] w fun e w' => e = .returned (.string (clkT (t % 86400))) ∧ Gr w w' := by
  obtain ⟨T, hT⟩ : ∃ T, T = t % 86400 := ⟨_, rfl⟩
  have b0 : 0 ≤ T := by omega
  have b1 : T < 86400 := by omega
  have HT := Lib.hid hT
  clear hT
  have hc1 := fun wx g (hg : g = wx.heap.size) => conv2_at (P := Try.prog) 32 9 5 Try.underlying32 Try.underlying5 Try.underlying9 (48 + T / 3600 / 10) (48 + T / 3600 % 10) (by omega) (by omega) wx 5 g hg
  have hc2 := fun wx g (hg : g = wx.heap.size) => conv2_at (P := Try.prog) 32 9 5 Try.underlying32 Try.underlying5 Try.underlying9 (48 + T / 60 % 60 / 10) (48 + T / 60 % 10) (by omega) (by omega) wx 5 g hg
  have hc3 := fun wx g (hg : g = wx.heap.size) => conv2_at (P := Try.prog) 32 9 5 Try.underlying32 Try.underlying5 Try.underlying9 (48 + T % 60 / 10) (48 + T % 10) (by omega) (by omega) wx 5 g hg
  go_enter Try.func19, Try.ntmps19
  go_wp2_with (first | (go_at_call 24; refine (mod_hid t T HT _).mono ?_; rintro e w' ⟨rfl, rfl⟩) | fail)
  refine wp_loop_rounds 4 ?_
  rw [rounds_succ]
  go_wp2
  rw [rounds_succ]
  go_wp2
  rw [rounds_succ]
  go_wp2
  rw [rounds_succ]
  go_wp2
  go_ret
  rw [← HT.out]
  refine ⟨ret_str ?_, (((Gr.refl _).alloc _).alloc _).alloc _ |>.alloc _⟩
  rw [clkT_lit]
  apply ByteArray.ext
  have q1 : T / 60 % 60 % 10 = T / 60 % 10 := by omega
  have q2 : T % 60 % 10 = T % 10 := by omega
  simp [clkL, q1, q2]
end Go.Proofs.Ytiblkcbehcpjbaa
