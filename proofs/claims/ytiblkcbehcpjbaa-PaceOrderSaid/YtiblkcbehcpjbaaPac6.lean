/- Pace: how far, and in how few ticks. -/
import Derived.Test.YtiblkcbehcpjbaaPac3
namespace Go.Proofs.Ytiblkcbehcpjbaa
open Go.ChangeShapes Go.WideShapes Go.ChangeAt Go.RowKit
set_option linter.unusedVariables false
set_option linter.unusedSimpArgs false

theorem tgt_iff (metres W : Int) (h : 0 ≤ W) : min metres 65536 ≤ W ↔ hld metres 0 65536 ≤ W := by unfold hld; omega

theorem least_any (nm : ByteArray) (l t a b v metres : Int) (ht : 1 ≤ t ∧ t ≤ 60) (ha : 1 ≤ a ∧ a ≤ 10) (hb : 1 ≤ b ∧ b ≤ 10) (w : World) :
    Calls Try.prog 37 #[.agg #[.string nm, .int .i64 l, .int .i64 t, .int .i64 a, .int .i64 b], .int .i64 v, .int .i64 metres] w fun e w' => e = .returned (.int .i64 (lst t a b v metres)) ∧ Gr w w' := by
  have q1 := hld_bd metres 0 65536 (by omega)
  obtain ⟨q11, q12⟩ := q1
  have hbox := Box.new w nm l t a b 35
  go_enter Try.func37, Try.ntmps37
  go_wp2_with fail
  refine (may_yes nm l t a b ht ha hb _).mono ?_
  rintro e w1 ⟨rfl, h1⟩
  have hbx := hbox.gr h1
  have hg1 := ((Gr.refl w).alloc _).trans h1
  clear hbox h1
  go_wp2_with fail
  go_loopw [1, 7, 8] (fun x y n wr => ∃ (V W N : Int) (k : Nat), x = .int .i64 V ∧ y = .int .i64 W ∧ n = .int .i64 N ∧ 0 ≤ W ∧ W ≤ 65536 + 60 ∧ 0 ≤ N ∧ N ≤ W ∧ hld metres 0 65536 - W ≤ k ∧ Hid (N + lstF t a b (hld metres 0 65536) k V W = lst t a b v metres) ∧ Gr w wr ∧ Box wr w.heap.size nm l t a b) (fun _ y _ _ => (hld metres 0 65536 - intOf y).toNat)
  case atStart => exact ⟨v, 0, 0, 65536, rfl, rfl, rfl, by omega, by omega, by omega, by omega, by omega, by unfold Hid lst; omega, hg1, hbx⟩
  case round =>
    obtain ⟨V, W, N, k, rfl, rfl, rfl, r1, r2, r3, r3', r4, HS, g, ⟨i0, c0, c1, c2, c3, c4⟩⟩ := hrel
    clear hbx hg1
    have hq := tgt_iff metres W r1
    by_cases hp : hld metres 0 65536 ≤ W
    · have HT : Hid (N = lst t a b v metres) := by unfold Hid; rw [← HS.out, lstF_end t a b _ V W k hp]; omega
      have hq' := hq.2 hp
      clear HS hq
      by_cases hm : 65536 < metres
      · have hw : 65536 ≤ W := by omega
        clear hq'
        go_wp2_with fail
        go_ret
        exact ⟨ret_int HT.out, g⟩
      · have hw : metres ≤ W := by omega
        clear hq'
        go_wp2_with fail
        go_ret
        exact ⟨ret_int HT.out, g⟩
    · have bd := acc_bd t a b V ht.1 ha.1 hb.1
      obtain ⟨bd1, bd2⟩ := bd
      obtain ⟨j, hj, hs⟩ := lstF_step t a b _ V W k hp r4
      have HT : Hid (N + 1 + lstF t a b (hld metres 0 65536) j (acc t a b V) (W + acc t a b V) = lst t a b v metres) := by
        unfold Hid; rw [← HS.out, hs]; omega
      have r5 : hld metres 0 65536 - (W + acc t a b V) ≤ j := by omega
      have hq' : ¬ (min metres 65536 ≤ W) := fun h => hp (hq.1 h)
      clear HS hs hj hq
      have hw : W < 65536 := by omega
      have hw2 : W < metres := by omega
      clear hq'
      by_cases hm : 65536 < metres
      all_goals
        go_wp2_with fail
        refine (next_any nm l t a b V a false ht ha hb _).mono ?_
        rintro e w3 ⟨rfl, h3⟩
        have hB : Box w3 w.heap.size nm l t a b := Box.gr ⟨i0, c0, c1, c2, c3, c4⟩ h3
        have hG := g.trans h3
        have ea : nxt t a b V a false = acc t a b V := rfl
        rw [ea]
        clear ea
        go_wp2_with fail
        go_roundw
        case rel => exact ⟨_, _, N + 1, j, rfl, rfl, rfl, by omega, by omega, by omega, by omega, r5, HT, hG, hB⟩
        case measure => simp [intOf]; omega

theorem refLeast_any (nm : ByteArray) (l t a b v metres : Int) (ht : 1 ≤ t ∧ t ≤ 60) (ha : 1 ≤ a ∧ a ≤ 10) (hb : 1 ≤ b ∧ b ≤ 10) (w : World) :
    Calls Try.prog 38 #[.agg #[.string nm, .int .i64 l, .int .i64 t, .int .i64 a, .int .i64 b], .int .i64 v, .int .i64 metres] w fun e w' => e = .returned (.int .i64 (lst t a b v metres)) ∧ Gr w w' := by
  have q1 := hld_bd metres 0 65536 (by omega)
  obtain ⟨q11, q12⟩ := q1
  have hbx := Box.new w nm l t a b 35
  have hg1 := ((Gr.refl w).alloc (.cells #[.string nm, .int .i64 l, .int .i64 t, .int .i64 a, .int .i64 b] 35))
  go_enter Try.func38, Try.ntmps38
  go_wp2_with fail
  go_loopw [1, 7, 8] (fun x y n wr => ∃ (V W N : Int) (k : Nat), x = .int .i64 V ∧ y = .int .i64 W ∧ n = .int .i64 N ∧ 0 ≤ W ∧ W ≤ 65536 + 60 ∧ 0 ≤ N ∧ N ≤ W ∧ hld metres 0 65536 - W ≤ k ∧ Hid (N + lstF t a b (hld metres 0 65536) k V W = lst t a b v metres) ∧ Gr w wr ∧ Box wr w.heap.size nm l t a b) (fun _ y _ _ => (hld metres 0 65536 - intOf y).toNat)
  case atStart => exact ⟨v, 0, 0, 65536, rfl, rfl, rfl, by omega, by omega, by omega, by omega, by omega, by unfold Hid lst; omega, hg1, hbx⟩
  case round =>
    obtain ⟨V, W, N, k, rfl, rfl, rfl, r1, r2, r3, r3', r4, HS, g, ⟨i0, c0, c1, c2, c3, c4⟩⟩ := hrel
    clear hbx hg1
    by_cases hp : hld metres 0 65536 ≤ W
    · have HT : Hid (N = lst t a b v metres) := by unfold Hid; rw [← HS.out, lstF_end t a b _ V W k hp]; omega
      clear HS
      go_wp2_with fail
      refine (hold_any _ _ _ (by omega) _).mono ?_
      rintro e w2 ⟨rfl, rfl⟩
      go_wp2_with fail
      go_ret
      exact ⟨ret_int HT.out, g⟩
    · have bd := acc_bd t a b V ht.1 ha.1 hb.1
      obtain ⟨bd1, bd2⟩ := bd
      obtain ⟨j, hj, hs⟩ := lstF_step t a b _ V W k hp r4
      have HT : Hid (N + 1 + lstF t a b (hld metres 0 65536) j (acc t a b V) (W + acc t a b V) = lst t a b v metres) := by
        unfold Hid; rw [← HS.out, hs]; omega
      have r5 : hld metres 0 65536 - (W + acc t a b V) ≤ j := by omega
      clear HS hs hj
      go_wp2_with fail
      refine (hold_any _ _ _ (by omega) _).mono ?_
      rintro e w2 ⟨rfl, rfl⟩
      go_wp2_with fail
      refine (refNext_any nm l t a b V a false ht ha hb _).mono ?_
      rintro e w3 ⟨rfl, h3⟩
      have hB : Box w3 w.heap.size nm l t a b := Box.gr ⟨i0, c0, c1, c2, c3, c4⟩ h3
      have hG := g.trans h3
      have ea : nxt t a b V a false = acc t a b V := rfl
      rw [ea]
      clear ea
      go_wp2_with fail
      go_roundw
      case rel => exact ⟨_, _, N + 1, j, rfl, rfl, rfl, by omega, by omega, by omega, by omega, r5, HT, hG, hB⟩
      case measure => simp [intOf]; omega
end Go.Proofs.Ytiblkcbehcpjbaa
