/- Pace: how far, and in how few ticks. -/
import Derived.Test.YtiblkcbehcpjbaaPac3
namespace Go.Proofs.Ytiblkcbehcpjbaa
open Go.ChangeShapes Go.WideShapes Go.ChangeAt Go.RowKit
set_option linter.unusedVariables false
set_option linter.unusedSimpArgs false

theorem reach_any (nm : ByteArray) (l t a b v ticks : Int) (ht : 1 ≤ t ∧ t ≤ 60) (ha : 1 ≤ a ∧ a ≤ 10) (hb : 1 ≤ b ∧ b ≤ 10) (w : World) :
    Calls Try.prog 35 #[.agg #[.string nm, .int .i64 l, .int .i64 t, .int .i64 a, .int .i64 b], .int .i64 v, .int .i64 ticks] w fun e w' => e = .returned (.int .i64 (rch t a b (hld ticks 0 65536).toNat v)) ∧ Gr w w' := by
  have q1 := hld_bd ticks 0 65536 (by omega)
  obtain ⟨q11, q12⟩ := q1
  have hbox := Box.new w nm l t a b 35
  go_enter Try.func35, Try.ntmps35
  go_wp2_with fail
  refine (may_yes nm l t a b ht ha hb _).mono ?_
  rintro e w1 ⟨rfl, h1⟩
  have hbx := hbox.gr h1
  have hg1 := ((Gr.refl w).alloc _).trans h1
  clear hbox h1
  go_wp2_with fail
  refine (held_any _ _ _ _).mono ?_
  rintro e w2 ⟨rfl, rfl⟩
  go_wp2_with fail
  go_loopw [1, 7, 8] (fun x y n wr => ∃ V W N : Int, x = .int .i64 V ∧ y = .int .i64 W ∧ n = .int .i64 N ∧ 0 ≤ N ∧ N ≤ 65536 ∧ 0 ≤ W ∧ W ≤ (65536 - N) * 60 ∧ Hid (W + rch t a b N.toNat V = rch t a b (hld ticks 0 65536).toNat v) ∧ Gr w wr ∧ Box wr w.heap.size nm l t a b) (fun _ _ n _ => (intOf n).toNat)
  case atStart => exact ⟨v, 0, _, rfl, rfl, rfl, q11, q12, by omega, by omega, by unfold Hid; omega, hg1, hbx⟩
  case round =>
    obtain ⟨V, W, N, rfl, rfl, rfl, r1, r2, r3, r4, HS, g, ⟨i0, c0, c1, c2, c3, c4⟩⟩ := hrel
    clear hbx hg1 q11 q12
    by_cases hp : 0 < N
    · have bd := acc_bd t a b V ht.1 ha.1 hb.1
      obtain ⟨bd1, bd2⟩ := bd
      have HT : Hid (W + acc t a b V + rch t a b (N - 1).toNat (acc t a b V) = rch t a b (hld ticks 0 65536).toNat v) := by
        unfold Hid; rw [← HS.out, rch_step t a b V N hp]; omega
      have hn0 : (N == 0) = false := by simp; omega
      have r5 : W + acc t a b V ≤ (65536 - (N - 1)) * 60 := by omega
      clear HS
      go_wp2_with fail
      refine (next_any nm l t a b V a false ht ha hb _).mono ?_
      rintro e w3 ⟨rfl, h3⟩
      have hB : Box w3 w.heap.size nm l t a b := Box.gr ⟨i0, c0, c1, c2, c3, c4⟩ h3
      have hG := g.trans h3
      have ea : nxt t a b V a false = acc t a b V := rfl
      rw [ea]
      clear ea
      go_wp2_with fail
      go_roundw
      case rel => exact ⟨_, _, N - 1, rfl, rfl, rfl, by omega, by omega, by omega, r5, HT, hG, hB⟩
      case measure => simp [intOf]; omega
    · obtain rfl : N = 0 := by omega
      have HT : Hid (W = rch t a b (hld ticks 0 65536).toNat v) := by unfold Hid; rw [← HS.out]; simp [rch]
      clear HS
      go_wp2_with fail
      go_ret
      exact ⟨ret_int HT.out, g⟩

theorem refReach_any (nm : ByteArray) (l t a b v ticks : Int) (ht : 1 ≤ t ∧ t ≤ 60) (ha : 1 ≤ a ∧ a ≤ 10) (hb : 1 ≤ b ∧ b ≤ 10) (w : World) :
    Calls Try.prog 36 #[.agg #[.string nm, .int .i64 l, .int .i64 t, .int .i64 a, .int .i64 b], .int .i64 v, .int .i64 ticks] w fun e w' => e = .returned (.int .i64 (rch t a b (hld ticks 0 65536).toNat v)) ∧ Gr w w' := by
  have q1 := hld_bd ticks 0 65536 (by omega)
  obtain ⟨q11, q12⟩ := q1
  have hbx := Box.new w nm l t a b 35
  have hg1 := ((Gr.refl w).alloc (.cells #[.string nm, .int .i64 l, .int .i64 t, .int .i64 a, .int .i64 b] 35))
  go_enter Try.func36, Try.ntmps36
  go_wp2_with fail
  refine (hold_any _ _ _ (by omega) _).mono ?_
  rintro e w2 ⟨rfl, rfl⟩
  go_wp2_with fail
  go_loopw [1, 7, 10] (fun x y n wr => ∃ V W N : Int, x = .int .i64 V ∧ y = .int .i64 W ∧ n = .int .i64 N ∧ 0 ≤ N ∧ N ≤ hld ticks 0 65536 ∧ 0 ≤ W ∧ W ≤ N * 60 ∧ Hid (W + rch t a b (hld ticks 0 65536 - N).toNat V = rch t a b (hld ticks 0 65536).toNat v) ∧ Gr w wr ∧ Box wr w.heap.size nm l t a b) (fun _ _ n _ => (hld ticks 0 65536 - intOf n).toNat)
  case atStart => exact ⟨v, 0, 0, rfl, rfl, rfl, by omega, q11, by omega, by omega, by unfold Hid; simp, hg1, hbx⟩
  case round =>
    obtain ⟨V, W, N, rfl, rfl, rfl, r1, r2, r3, r4, HS, g, ⟨i0, c0, c1, c2, c3, c4⟩⟩ := hrel
    clear hbx hg1
    by_cases hp : N < hld ticks 0 65536
    · have bd := acc_bd t a b V ht.1 ha.1 hb.1
      obtain ⟨bd1, bd2⟩ := bd
      have HT : Hid (W + acc t a b V + rch t a b (hld ticks 0 65536 - (N + 1)).toNat (acc t a b V) = rch t a b (hld ticks 0 65536).toNat v) := by
        have := rch_step t a b V (hld ticks 0 65536 - N) (by omega)
        have e : hld ticks 0 65536 - N - 1 = hld ticks 0 65536 - (N + 1) := by omega
        rw [e] at this
        unfold Hid; rw [← HS.out, this]; omega
      have r5 : W + acc t a b V ≤ (N + 1) * 60 := by omega
      clear HS
      go_wp2_with fail
      refine (refNext_any nm l t a b V a false ht ha hb _).mono ?_
      rintro e w3 ⟨rfl, h3⟩
      have hB : Box w3 w.heap.size nm l t a b := Box.gr ⟨i0, c0, c1, c2, c3, c4⟩ h3
      have hG := g.trans h3
      have ea : nxt t a b V a false = acc t a b V := rfl
      rw [ea]
      clear ea
      go_wp2_with fail
      go_roundw
      case rel => exact ⟨_, _, N + 1, rfl, rfl, rfl, by omega, by omega, by omega, r5, HT, hG, hB⟩
      case measure => simp [intOf]; omega
    · have HT : Hid (W = rch t a b (hld ticks 0 65536).toNat v) := by
        have e : (hld ticks 0 65536 - N).toNat = 0 := by omega
        unfold Hid; rw [← HS.out, e]; simp [rch]
      clear HS
      go_wp2_with fail
      go_ret
      exact ⟨ret_int HT.out, g⟩
end Go.Proofs.Ytiblkcbehcpjbaa
