/- Pace: braking distances. -/
import Derived.Test.YtiblkcbehcpjbaaPac1
namespace Go.Proofs.Ytiblkcbehcpjbaa
open Go.ChangeShapes Go.WideShapes Go.ChangeAt Go.RowKit
set_option linter.unusedVariables false
set_option linter.unusedSimpArgs false

theorem planStop_any (v b : Int) (hv : 0 ≤ v ∧ v ≤ 60) (hb : 1 ≤ b ∧ b ≤ 10) (w : World) :
    Calls Try.prog 48 #[.int .i64 v, .int .i64 b] w fun e w' => e = .returned (.int .i64 (stp b v)) ∧ w' = w := by
  obtain ⟨hv1, hv2⟩ := hv
  obtain ⟨hb1, hb2⟩ := hb
  go_enter Try.func48, Try.ntmps48
  go_wp2
  go_loop [5, 0] (fun n x => ∃ (k : Nat) (V N : Int), n = .int .i64 N ∧ x = .int .i64 V ∧ V ≤ k ∧ k ≤ 60 ∧ -10 ≤ V ∧ 0 ≤ N ∧ N ≤ (60 - k) * 60 ∧ Hid (N + tailS b k V = stp b v)) (fun _ x => (intOf x).toNat)
  case atStart => exact ⟨60, v - b, 0, rfl, rfl, by omega, by omega, by omega, by omega, by omega, by unfold Hid stp; omega⟩
  case round =>
    obtain ⟨k, V, N, rfl, rfl, r1, r2, r3, r4, r5, HS⟩ := hrel
    by_cases hp : 0 < V
    · obtain ⟨j, hj, hs⟩ := tailS_pos b k V hp r1
      have HT : Hid (N + V + tailS b j (V - b) = stp b v) := by unfold Hid; rw [← HS.out, hs]; omega
      have r6 : V - b ≤ j := by omega
      have r7 : N + V ≤ (60 - j) * 60 := by omega
      have r8 : j ≤ 60 := by omega
      clear hs hj HS
      go_wp2
      go_round
      case rel => exact ⟨j, V - b, N + V, rfl, rfl, by omega, r8, by omega, by omega, r7, HT⟩
      case measure => simp [intOf]; omega
    · have HT : Hid (N = stp b v) := by unfold Hid; rw [← HS.out, tailS_no b k V hp]; omega
      clear HS
      go_wp2
      go_ret
      exact ⟨ret_int HT.out, rfl⟩

theorem refStop_any (v b : Int) (hv : 0 ≤ v ∧ v ≤ 60) (hb : 1 ≤ b ∧ b ≤ 10) (w : World) :
    Calls Try.prog 49 #[.int .i64 v, .int .i64 b] w fun e w' => e = .returned (.int .i64 (stp b v)) ∧ w' = w := by
  obtain ⟨hv1, hv2⟩ := hv
  obtain ⟨hb1, hb2⟩ := hb
  go_enter Try.func49, Try.ntmps49
  go_wp2
  go_loop [5, 0] (fun n x => ∃ (k : Nat) (V N : Int), n = .int .i64 N ∧ x = .int .i64 V ∧ V ≤ k ∧ k ≤ 60 ∧ -10 ≤ V ∧ 0 ≤ N ∧ N ≤ (60 - k) * 60 ∧ Hid (N + tailS b k V = stp b v)) (fun _ x => (intOf x).toNat)
  case atStart => exact ⟨60, v - b, 0, rfl, rfl, by omega, by omega, by omega, by omega, by omega, by unfold Hid stp; omega⟩
  case round =>
    obtain ⟨k, V, N, rfl, rfl, r1, r2, r3, r4, r5, HS⟩ := hrel
    by_cases hp : 0 < V
    · obtain ⟨j, hj, hs⟩ := tailS_pos b k V hp r1
      have HT : Hid (N + V + tailS b j (V - b) = stp b v) := by unfold Hid; rw [← HS.out, hs]; omega
      have r6 : V - b ≤ j := by omega
      have r7 : N + V ≤ (60 - j) * 60 := by omega
      have r8 : j ≤ 60 := by omega
      clear hs hj HS
      go_wp2
      go_round
      case rel => exact ⟨j, V - b, N + V, rfl, rfl, by omega, r8, by omega, by omega, r7, HT⟩
      case measure => simp [intOf]; omega
    · have HT : Hid (N = stp b v) := by unfold Hid; rw [← HS.out, tailS_no b k V hp]; omega
      clear HS
      go_wp2
      go_ret
      exact ⟨ret_int HT.out, rfl⟩

theorem stop_any (nm : ByteArray) (l t a b v : Int) (ht : 1 ≤ t ∧ t ≤ 60) (ha : 1 ≤ a ∧ a ≤ 10) (hb : 1 ≤ b ∧ b ≤ 10) (w : World) :
    Calls Try.prog 29 #[.agg #[.string nm, .int .i64 l, .int .i64 t, .int .i64 a, .int .i64 b], .int .i64 v] w fun e w' => e = .returned (.int .i64 (stopD t b v)) ∧ Gr w w' := by
  have q1 := hld_bd v 0 t (by omega)
  have Q : 0 ≤ hld v 0 t ∧ hld v 0 t ≤ 60 := ⟨q1.1, by omega⟩
  have o1 : (0 : Int) ≤ t := by omega
  go_enter Try.func29, Try.ntmps29
  go_wp2_with fail
  refine (may_yes nm l t a b ht ha hb _).mono ?_
  rintro e w1 ⟨rfl, h1⟩
  have hc1 := gcell h1
  go_wp2_with fail
  go_quiet ((first | (go_at_call 46; exact Calls.quiet_of_same (held_any _ _ _ _)) | (go_at_call 48; exact Calls.quiet_of_same (planStop_any _ _ Q hb _))))
  go_wp2_with fail
  go_ret
  exact ⟨ret_int rfl, (((Gr.refl _).alloc _).trans h1).drewN _⟩

theorem refStop24_any (nm : ByteArray) (l t a b v : Int) (ht : 1 ≤ t ∧ t ≤ 60) (ha : 1 ≤ a ∧ a ≤ 10) (hb : 1 ≤ b ∧ b ≤ 10) (w : World) :
    Calls Try.prog 30 #[.agg #[.string nm, .int .i64 l, .int .i64 t, .int .i64 a, .int .i64 b], .int .i64 v] w fun e w' => e = .returned (.int .i64 (stopD t b v)) ∧ Gr w w' := by
  have q1 := hld_bd v 0 t (by omega)
  have Q : 0 ≤ hld v 0 t ∧ hld v 0 t ≤ 60 := ⟨q1.1, by omega⟩
  have o1 : (0 : Int) ≤ t := by omega
  go_enter Try.func30, Try.ntmps30
  go_wp2_with fail
  go_quiet ((first | (go_at_call 47; exact Calls.quiet_of_same (hold_any _ _ _ o1 _)) | (go_at_call 49; exact Calls.quiet_of_same (refStop_any _ _ Q hb _))))
  go_wp2_with fail
  go_ret
  exact ⟨ret_int rfl, ((Gr.refl _).alloc _).drewN _⟩
end Go.Proofs.Ytiblkcbehcpjbaa
