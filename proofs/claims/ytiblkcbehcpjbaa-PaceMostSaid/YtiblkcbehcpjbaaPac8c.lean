/- Pace: the laws' walks. -/
import Derived.Test.YtiblkcbehcpjbaaPac7
import Derived.Test.YtiblkcbehcpjbaaPacQ
import Derived.Test.YtiblkcbehcpjbaaOpn1
import Derived.Deep.RegionHeld3
namespace Go.Proofs.Ytiblkcbehcpjbaa
open Go.ChangeShapes Go.WideShapes Go.ChangeAt Go.RowKit
set_option linter.unusedVariables false
set_option linter.unusedSimpArgs false

set_option maxHeartbeats 1000000 in
theorem paceMost_core (nm : ByteArray) (l t a b : Int) (v room : Int) (hs : nm.size ≤ maxLen) (w : World) :
    Calls Try.prog 11 #[.agg #[.string nm, .int .i64 l, .int .i64 t, .int .i64 a, .int .i64 b], .int .i64 v, .int .i64 room] w fun e w' => e = .returned (.bool true) ∧ Gr w w' := by
  have hbox := Box.new w nm l t a b 35
  have hg0 := (Gr.refl w).alloc (.cells #[.string nm, .int .i64 l, .int .i64 t, .int .i64 a, .int .i64 b] 35)
  cases hm : mayB nm l t a b with
  | false =>
    have HM := Lib.hid hm
    clear hm
    go_enter Try.func11, Try.ntmps11
    go_wp2_with fail
    refine (known22_any _).mono ?_
    rintro e w1 ⟨rfl, h1⟩
    have hb1 := hbox.gr h1
    have hg1 := hg0.trans h1
    clear hbox hg0 h1
    obtain ⟨i0, c0, c1, c2, c3, c4⟩ := hb1
    go_wp2_with fail
    refine (may_any _ _ _ _ _ hs _).mono ?_
    rintro e w2 ⟨rfl, h2⟩
    rw [HM.out]
    have hb2 := Box.gr ⟨i0, c0, c1, c2, c3, c4⟩ h2
    have hg2 := hg1.trans h2
    clear i0 c0 c1 c2 c3 c4 hg1 h2
    obtain ⟨i0, c0, c1, c2, c3, c4⟩ := hb2
    go_wp2_with fail
    go_ret
    exact ⟨rfl, hg2⟩
  | true =>
    have HM := Lib.hid hm
    obtain ⟨-, -, ht, ha, hb⟩ := mayB_parts hm
    clear hm
    by_cases hv0 : v < 0
    · go_enter Try.func11, Try.ntmps11
      go_wp2_with fail
      refine (known22_any _).mono ?_
      rintro e w1 ⟨rfl, h1⟩
      have hb1 := hbox.gr h1
      have hg1 := hg0.trans h1
      clear hbox hg0 h1
      obtain ⟨i0, c0, c1, c2, c3, c4⟩ := hb1
      go_wp2_with fail
      refine (may_any _ _ _ _ _ hs _).mono ?_
      rintro e w2 ⟨rfl, h2⟩
      rw [HM.out]
      have hb2 := Box.gr ⟨i0, c0, c1, c2, c3, c4⟩ h2
      have hg2 := hg1.trans h2
      clear i0 c0 c1 c2 c3 c4 hg1 h2
      obtain ⟨i0, c0, c1, c2, c3, c4⟩ := hb2
      go_wp2_with fail
      go_ret
      exact ⟨rfl, hg2⟩
    · by_cases hv1 : t < v
      · go_enter Try.func11, Try.ntmps11
        go_wp2_with fail
        refine (known22_any _).mono ?_
        rintro e w1 ⟨rfl, h1⟩
        have hb1 := hbox.gr h1
        have hg1 := hg0.trans h1
        clear hbox hg0 h1
        obtain ⟨i0, c0, c1, c2, c3, c4⟩ := hb1
        go_wp2_with fail
        refine (may_any _ _ _ _ _ hs _).mono ?_
        rintro e w2 ⟨rfl, h2⟩
        rw [HM.out]
        have hb2 := Box.gr ⟨i0, c0, c1, c2, c3, c4⟩ h2
        have hg2 := hg1.trans h2
        clear i0 c0 c1 c2 c3 c4 hg1 h2
        obtain ⟨i0, c0, c1, c2, c3, c4⟩ := hb2
        go_wp2_with fail
        go_ret
        exact ⟨rfl, hg2⟩
      · obtain ⟨k1, k2, k3, k4⟩ := kps_law t a b v room ht.1 ha.1 hb.1
        have b0 := (nxt_bd t a b v (-b) false ht.1).1
        have b1 := (nxt_bd t a b v a false ht.1).2
        obtain ⟨W, hW⟩ : ∃ W, W = kps t a b v room := ⟨_, rfl⟩
        obtain ⟨L, hL⟩ : ∃ L, L = nxt t a b v (-b) false := ⟨_, rfl⟩
        obtain ⟨M, hM⟩ : ∃ M, M = nxt t a b v a false := ⟨_, rfl⟩
        rw [← hW, ← hL] at k1
        rw [← hW, ← hM] at k2
        rw [← hW, ← hL] at k3
        rw [← hW, ← hM] at k4
        rw [← hL] at b0
        rw [← hM] at b1
        have HW := Lib.hid hW
        have HL := Lib.hid hL
        have HM' := Lib.hid hM
        have K3 := Lib.hid k3
        have K4 := Lib.hid k4
        clear hW hL hM k3 k4
        have s1 := stopD_bd t b W ht hb.1
        have s2 := stopD_bd t b (W + 1) ht hb.1
        have wb : IntKind.i64.wrap (-b) = -b := IntWalk.i64_in _ (by omega)
        obtain ⟨s11, s12⟩ := s1
        obtain ⟨s21, s22⟩ := s2
        go_enter Try.func11, Try.ntmps11
        go_wp2_with fail
        refine (known22_any _).mono ?_
        rintro e w1 ⟨rfl, h1⟩
        have hb1 := hbox.gr h1
        have hg1 := hg0.trans h1
        clear hbox hg0 h1
        obtain ⟨i0, c0, c1, c2, c3, c4⟩ := hb1
        go_wp2_with fail
        refine (may_any _ _ _ _ _ hs _).mono ?_
        rintro e w2 ⟨rfl, h2⟩
        rw [HM.out]
        have hb2 := Box.gr ⟨i0, c0, c1, c2, c3, c4⟩ h2
        have hg2 := hg1.trans h2
        clear i0 c0 c1 c2 c3 c4 hg1 h2
        obtain ⟨i0, c0, c1, c2, c3, c4⟩ := hb2
        go_wp2_with fail
        refine (keeps_any nm l t a b v room ht ha hb _).mono ?_
        rintro e w5 ⟨rfl, h5⟩
        have hb3 := Box.gr ⟨i0, c0, c1, c2, c3, c4⟩ h5
        have hg3 := hg2.trans h5
        clear i0 c0 c1 c2 c3 c4 hg2 h5
        obtain ⟨i0, c0, c1, c2, c3, c4⟩ := hb3
        rw [← HW.out]
        go_wp2_with fail
        go_region_held3 (fun w' => Gr w w' ∧ w.heap.size < w'.heap.size ∧ w'.cell? ⟨w.heap.size, 0, none⟩ = some (.string nm) ∧ w'.cell? ⟨w.heap.size, 1, none⟩ = some (.int .i64 l) ∧ w'.cell? ⟨w.heap.size, 2, none⟩ = some (.int .i64 t) ∧ w'.cell? ⟨w.heap.size, 3, none⟩ = some (.int .i64 a) ∧ w'.cell? ⟨w.heap.size, 4, none⟩ = some (.int .i64 b)) (first | exact ⟨hg3, i0, c0, c1, c2, c3, c4⟩ | exact Box.held h3 (by assumption) | exact ⟨hg3.drew, i0, c0, c1, c2, c3, c4⟩) (first | (go_at_call 27; refine (next_any nm l t a b v _ false ht ha hb _).mono ?_; rintro e w3 ⟨rfl, h3⟩))
        rename_i hS
        obtain ⟨hg4, i0, c0, c1, c2, c3, c4⟩ := hS
        rw [← HL.out, ← HM'.out]
        clear HW HL HM' wb
        by_cases hwl : L < W
        · have hr : W + stopD t b W ≤ room := by rcases K3.out with h | h <;> omega
          by_cases hwm : W = M
          · have t1 : (W == M) = true := by simp [hwm]
            clear hwm K3 K4
            go_wp2_with fail
            refine (stop_any nm l t a b W ht ha hb _).mono ?_
            rintro e w6 ⟨rfl, h6⟩
            go_wp2_with fail
            go_ret
            exact ⟨rfl, hg4.trans h6⟩
          · have t1 : (W == M) = false := by simp [hwm]
            have hr2 : ¬ (W + 1 + stopD t b (W + 1) ≤ room) := by rcases K4.out with h | h <;> omega
            clear hwm K3 K4
            go_wp2_with fail
            refine (stop_any nm l t a b W ht ha hb _).mono ?_
            rintro e w6 ⟨rfl, h6⟩
            have hb6 := Box.gr ⟨i0, c0, c1, c2, c3, c4⟩ h6
            clear i0 c0 c1 c2 c3 c4
            obtain ⟨i0, c0, c1, c2, c3, c4⟩ := hb6
            go_wp2_with fail
            refine (stop_any nm l t a b (W + 1) ht ha hb _).mono ?_
            rintro e w7 ⟨rfl, h7⟩
            go_wp2_with fail
            go_ret
            exact ⟨rfl, hg4.trans (h6.trans h7)⟩
        · by_cases hwm : W = M
          · have t1 : (W == M) = true := by simp [hwm]
            clear hwm K3 K4
            go_wp2_with fail
            go_ret
            exact ⟨rfl, hg4⟩
          · have t1 : (W == M) = false := by simp [hwm]
            have hr2 : ¬ (W + 1 + stopD t b (W + 1) ≤ room) := by rcases K4.out with h | h <;> omega
            clear hwm K3 K4
            go_wp2_with fail
            refine (stop_any nm l t a b (W + 1) ht ha hb _).mono ?_
            rintro e w7 ⟨rfl, h7⟩
            go_wp2_with fail
            go_ret
            exact ⟨rfl, hg4.trans h7⟩

theorem paceMost_walk (x : Value) (s : Stk) (v room : Int) (w : World) (hx : IsStk x s) (_wv : (Lit.int .i64 v).wf = true) (_ww : (Lit.int .i64 room).wf = true) :
    Calls Try.prog 11 #[x, .int .i64 v, .int .i64 room] w fun e w' => e = .returned (.bool true) ∧ Gr w w' := by
  obtain ⟨rfl, hs, -⟩ := hx
  exact paceMost_core s.nm s.l s.t s.a s.b v room hs w

end Go.Proofs.Ytiblkcbehcpjbaa
