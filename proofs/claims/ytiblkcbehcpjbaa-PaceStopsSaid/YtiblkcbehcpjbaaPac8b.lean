/- Pace: the laws' walks. -/
import Derived.Test.YtiblkcbehcpjbaaPac7
import Derived.Test.YtiblkcbehcpjbaaPacQ
import Derived.Test.YtiblkcbehcpjbaaOpn1
import Derived.Deep.RegionHeld3
namespace Go.Proofs.Ytiblkcbehcpjbaa
open Go.ChangeShapes Go.WideShapes Go.ChangeAt Go.RowKit
set_option linter.unusedVariables false
set_option linter.unusedSimpArgs false

set_option maxHeartbeats 1000000 in
theorem paceStops_core (nm : ByteArray) (l t a b : Int) (v want : Int) (hs : nm.size ≤ maxLen) (w : World) :
    Calls Try.prog 9 #[.agg #[.string nm, .int .i64 l, .int .i64 t, .int .i64 a, .int .i64 b], .int .i64 v, .int .i64 want] w fun e w' => e = .returned (.bool true) ∧ Gr w w' := by
  have hbox := Box.new w nm l t a b 35
  have hg0 := (Gr.refl w).alloc (.cells #[.string nm, .int .i64 l, .int .i64 t, .int .i64 a, .int .i64 b] 35)
  cases hm : mayB nm l t a b with
  | false =>
    have HM := Lib.hid hm
    clear hm
    go_enter Try.func9, Try.ntmps9
    go_wp2_with fail
    refine (known22_any _).mono ?_
    rintro e w1 ⟨rfl, h1⟩
    have hb1 := hbox.gr h1
    have hg1 := hg0.trans h1
    clear hbox hg0 h1
    obtain ⟨i0, c0, c1, c2, c3, c4⟩ := hb1
    go_wp2_with fail
    refine (may_any _ _ _ _ _ hs _).mono ?_
    rintro e w2 ⟨rfl, h2⟩
    rw [HM.out]
    have hb2 := Box.gr ⟨i0, c0, c1, c2, c3, c4⟩ h2
    have hg2 := hg1.trans h2
    clear i0 c0 c1 c2 c3 c4 hg1 h2
    obtain ⟨i0, c0, c1, c2, c3, c4⟩ := hb2
    go_wp2_with fail
    go_ret
    exact ⟨rfl, hg2⟩
  | true =>
    have HM := Lib.hid hm
    obtain ⟨-, -, ht, ha, hb⟩ := mayB_parts hm
    clear hm
    have q1 := stopD_bd t b v ht hb.1
    have q2 := hld_bd v 0 t (by omega)
    have q3 := tck_bd b (hld v 0 t) hb.1 q2.1
    obtain ⟨T, hT⟩ : ∃ T, T = tck t b v := ⟨_, rfl⟩
    obtain ⟨F, hF⟩ : ∃ F, F = stopD t b v := ⟨_, rfl⟩
    have T0 : 0 ≤ T := by rw [hT]; exact q3.1
    have T1 : T ≤ 60 := by rw [hT]; unfold tck; omega
    have F0 : 0 ≤ F := by omega
    have F1 : F ≤ 3600 := by omega
    have HT := Lib.hid hT
    have HF := Lib.hid hF
    clear hT hF q1 q2 q3
    go_enter Try.func9, Try.ntmps9
    go_wp2_with fail
    refine (known22_any _).mono ?_
    rintro e w1 ⟨rfl, h1⟩
    have hb1 := hbox.gr h1
    have hg1 := hg0.trans h1
    clear hbox hg0 h1
    obtain ⟨i0, c0, c1, c2, c3, c4⟩ := hb1
    go_wp2_with fail
    refine (may_any _ _ _ _ _ hs _).mono ?_
    rintro e w2 ⟨rfl, h2⟩
    rw [HM.out]
    have hb2 := Box.gr ⟨i0, c0, c1, c2, c3, c4⟩ h2
    have hg2 := hg1.trans h2
    clear i0 c0 c1 c2 c3 c4 hg1 h2
    obtain ⟨i0, c0, c1, c2, c3, c4⟩ := hb2
    go_wp2_with fail
    go_region_held3 (fun w' => Gr w w' ∧ w.heap.size < w'.heap.size ∧ w'.cell? ⟨w.heap.size, 0, none⟩ = some (.string nm) ∧ w'.cell? ⟨w.heap.size, 1, none⟩ = some (.int .i64 l) ∧ w'.cell? ⟨w.heap.size, 2, none⟩ = some (.int .i64 t) ∧ w'.cell? ⟨w.heap.size, 3, none⟩ = some (.int .i64 a) ∧ w'.cell? ⟨w.heap.size, 4, none⟩ = some (.int .i64 b)) (first | exact ⟨hg2, i0, c0, c1, c2, c3, c4⟩ | exact Box.held h3 (by assumption) | exact ⟨hg2.drew, i0, c0, c1, c2, c3, c4⟩) (first | (go_at_call 29; refine (stop_any nm l t a b v ht ha hb _).mono ?_; rintro e w3 ⟨rfl, h3⟩) | (go_at_call 31; refine (ticks_any nm l t a b v ht ha hb _).mono ?_; rintro e w3 ⟨rfl, h3⟩))
    rename_i hS
    obtain ⟨hg3, i0, c0, c1, c2, c3, c4⟩ := hS
    rw [← HT.out, ← HF.out]
    have hbx : Box w3 w.heap.size nm l t a b := ⟨i0, c0, c1, c2, c3, c4⟩
    clear i0 c0 c1 c2 c3 c4 hg2 h3
    go_wp2_with fail
    go_loopw [1, 9, 10, 11, 24] (fun x n y z i wr => ∃ V N K : Int, x = .int .i64 V ∧ n = .int .i64 N ∧ i = .int .i64 K ∧ 0 ≤ K ∧ K ≤ T ∧ 0 ≤ N ∧ N ≤ F ∧ (K = 0 ∨ (0 ≤ V ∧ V ≤ t)) ∧ Hid (K + tck t b V = T) ∧ Hid (N + stopD t b V = F) ∧ Gr w wr ∧ Box wr w.heap.size nm l t a b) (fun _ _ _ _ i _ => (T - intOf i).toNat)
    case atStart => exact ⟨v, 0, 0, rfl, rfl, rfl, by omega, by omega, by omega, by omega, .inl rfl, by unfold Hid; rw [HT.out]; omega, by unfold Hid; rw [HF.out]; omega, hg3, hbx⟩
    case round =>
      obtain ⟨V, N, K, rfl, rfl, rfl, r1, r2, r3, r4, r5, HK, HN, g, ⟨i0, c0, c1, c2, c3, c4⟩⟩ := hrel
      clear hbx hg3
      have p1 := hld_bd V 0 t (by omega)
      by_cases hp : K < T
      · have hV : 0 < hld V 0 t := by
          rcases Int.lt_or_le 0 (hld V 0 t) with h | h
          · exact h
          · exfalso
            have e : tck t b V = 0 := by unfold tck; rw [show hld V 0 t = 0 from by omega]; exact tck_zero b hb.1
            have := HK.out
            omega
        have e1 : nxt t a b V want true = max 0 (hld V 0 t - b) := nxt_forced_val t a b V want ht.1 hb.1
        have e2 : tck t b V = 1 + tck t b (nxt t a b V want true) := by
          have s := tck_step t a b (hld V 0 t) hb.1 hV p1.2
          have e3 := nxt_forced_val t a b (hld V 0 t) 0 ht.1 hb.1
          rw [hld_id (hld V 0 t) 0 t p1.1 p1.2] at e3
          rw [e3] at s
          have e4 : hld (max 0 (hld V 0 t - b)) 0 t = max 0 (hld V 0 t - b) := hld_id _ _ _ (by omega) (by omega)
          unfold tck
          rw [e1, e4]
          exact s
        have e5 : stopD t b V = nxt t a b V want true + stopD t b (nxt t a b V want true) := by
          have e4 : hld (max 0 (hld V 0 t - b)) 0 t = max 0 (hld V 0 t - b) := hld_id _ _ _ (by omega) (by omega)
          unfold stopD
          rw [e1, e4]
          exact stp_step b _ hb.1 (by omega) p1.1
        obtain ⟨W, hW⟩ : ∃ W, W = nxt t a b V want true := ⟨_, rfl⟩
        rw [← hW] at e1 e2 e5
        have b1 : 0 ≤ W := by omega
        have b2 : W ≤ t := by omega
        have HK' : Hid (K + 1 + tck t b W = T) := by unfold Hid; have := HK.out; omega
        have HN' : Hid (N + W + stopD t b W = F) := by unfold Hid; have := HN.out; omega
        have b3 : N + W ≤ F := by have := stopD_bd t b W ht hb.1; have := HN'.out; omega
        have hz : W = 0 → K + 1 = T := fun h => by
          have e : tck t b W = 0 := by unfold tck; rw [h, hld_id 0 0 t (by omega) (by omega)]; exact tck_zero b hb.1
          have := HK'.out
          omega
        have HW := Lib.hid hW
        have HZ := Lib.hid hz
        clear e1 e2 e5 hW hz HK HN r5 p1 hV
        go_wp2_with fail
        refine (next_any nm l t a b V want true ht ha hb _).mono ?_
        rintro e w4 ⟨rfl, h4⟩
        have hB : Box w4 w.heap.size nm l t a b := Box.gr ⟨i0, c0, c1, c2, c3, c4⟩ h4
        have hG := g.trans h4
        rw [← HW.out]
        clear i0 c0 c1 c2 c3 c4 g h4
        by_cases hw0 : W = 0
        · have t1 : (W == 0) = true := by simp [hw0]
          have t2 : ¬ (K + 1 < T) := by have := HZ.out hw0; omega
          clear hw0
          go_wp2_with fail
          go_roundw
          case rel => exact ⟨W, N + W, K + 1, rfl, rfl, rfl, by omega, by omega, by omega, b3, .inr ⟨b1, b2⟩, HK', HN', hG, hB⟩
          case measure => simp [intOf]; omega
        · have t1 : (W == 0) = false := by simp [hw0]
          clear hw0
          go_wp2_with fail
          go_roundw
          case rel => exact ⟨W, N + W, K + 1, rfl, rfl, rfl, by omega, by omega, by omega, b3, .inr ⟨b1, b2⟩, HK', HN', hG, hB⟩
          case measure => simp [intOf]; omega
      · have e0 : tck t b V = 0 := by have := HK.out; omega
        have hV : hld V 0 t = 0 := by
          rcases Int.lt_or_le 0 (hld V 0 t) with h | h
          · exfalso
            have s := tck_step t a b (hld V 0 t) hb.1 h p1.2
            have := tck_bd b (nxt t a b (hld V 0 t) 0 true) hb.1 (nxt_bd _ _ _ _ _ _ ht.1).1
            unfold tck at e0
            omega
          · omega
        have e1 : nxt t a b V want true = 0 := by rw [nxt_forced_val t a b V want ht.1 hb.1, hV]; omega
        have e2 : stopD t b V = 0 := by unfold stopD; rw [hV]; exact stp_zero b hb.1
        have e3 : N = F := by have := HN.out; omega
        have e4 : K = 0 ∨ V = 0 := by
          rcases r5 with r5 | r5
          · exact .inl r5
          · right; rw [hld_id V 0 t r5.1 r5.2] at hV; exact hV
        have e5 : K = T := by omega
        have t1 : (N == F) = true := by simp [e3]
        have H1 := Lib.hid e1
        subst e5
        clear HK HN r5 p1 hV e0 e2 e1 e3
        rcases e4 with e4 | e4
        · have t2 : (K == 0) = true := by simp [e4]
          clear e4
          go_wp2_with fail
          refine (next_any nm l t a b V want true ht ha hb _).mono ?_
          rintro e w4 ⟨rfl, h4⟩
          rw [H1.out]
          go_wp2_with fail
          go_ret
          exact ⟨rfl, g.trans h4⟩
        · have t2 : (V == 0) = true := by simp [e4]
          have t3 : (K == 0) = true ∨ (K == 0) = false := by cases (K == 0) <;> simp
          clear e4
          rcases t3 with t3 | t3
          all_goals
            go_wp2_with fail
            refine (next_any nm l t a b V want true ht ha hb _).mono ?_
            rintro e w4 ⟨rfl, h4⟩
            rw [H1.out]
            go_wp2_with fail
            go_ret
            exact ⟨rfl, g.trans h4⟩

theorem paceStops_walk (x : Value) (s : Stk) (v want : Int) (w : World) (hx : IsStk x s) (_wv : (Lit.int .i64 v).wf = true) (_ww : (Lit.int .i64 want).wf = true) :
    Calls Try.prog 9 #[x, .int .i64 v, .int .i64 want] w fun e w' => e = .returned (.bool true) ∧ Gr w w' := by
  obtain ⟨rfl, hs, -⟩ := hx
  exact paceStops_core s.nm s.l s.t s.a s.b v want hs w
end Go.Proofs.Ytiblkcbehcpjbaa
