/- Pace: the laws' walks. -/
import Derived.Test.YtiblkcbehcpjbaaPac7
import Derived.Test.YtiblkcbehcpjbaaPacQ
import Derived.Test.YtiblkcbehcpjbaaOpn1
import Derived.Deep.RegionHeld3
namespace Go.Proofs.Ytiblkcbehcpjbaa
open Go.ChangeShapes Go.WideShapes Go.ChangeAt Go.RowKit
set_option linter.unusedVariables false
set_option linter.unusedSimpArgs false

set_option maxHeartbeats 1000000 in
theorem paceLeast_core (nm : ByteArray) (l t a b : Int) (v m : Int) (hs : nm.size ≤ maxLen) (w : World) (hm0 : 0 ≤ m) (hm1 : m ≤ 65535) :
    Calls Try.prog 12 #[.agg #[.string nm, .int .i64 l, .int .i64 t, .int .i64 a, .int .i64 b], .int .i64 v, .int .u16 m] w fun e w' => e = .returned (.bool true) ∧ Gr w w' := by
  have hbox := Box.new w nm l t a b 35
  have hg0 := (Gr.refl w).alloc (.cells #[.string nm, .int .i64 l, .int .i64 t, .int .i64 a, .int .i64 b] 35)
  cases hm : mayB nm l t a b with
  | false =>
    have HM := Lib.hid hm
    clear hm
    go_enter Try.func12, Try.ntmps12
    go_wp2_with fail
    refine (known22_any _).mono ?_
    rintro e w1 ⟨rfl, h1⟩
    have hb1 := hbox.gr h1
    have hg1 := hg0.trans h1
    clear hbox hg0 h1
    obtain ⟨i0, c0, c1, c2, c3, c4⟩ := hb1
    go_wp2_with fail
    refine (may_any _ _ _ _ _ hs _).mono ?_
    rintro e w2 ⟨rfl, h2⟩
    rw [HM.out]
    have hb2 := Box.gr ⟨i0, c0, c1, c2, c3, c4⟩ h2
    have hg2 := hg1.trans h2
    clear i0 c0 c1 c2 c3 c4 hg1 h2
    obtain ⟨i0, c0, c1, c2, c3, c4⟩ := hb2
    go_wp2_with fail
    go_ret
    exact ⟨rfl, hg2⟩
  | true =>
    have HM := Lib.hid hm
    obtain ⟨-, -, ht, ha, hb⟩ := mayB_parts hm
    clear hm
    obtain ⟨n, e1, e2, e3, e4⟩ := lstF_law t a b (hld m 0 65536) ht.1 ha.1 hb.1 65536 v 0 (by have := hld_bd m 0 65536 (by omega); omega)
    have em : hld m 0 65536 = m := hld_id _ _ _ hm0 (by omega)
    rw [em] at e1 e2 e3 e4
    have el : lst t a b v m = n := by unfold lst; rw [em]; exact e1
    have b1 : (n : Int) ≤ m := by omega
    obtain ⟨N, hN⟩ : ∃ N : Int, N = n := ⟨_, rfl⟩
    obtain ⟨R1, hR1⟩ : ∃ R1 : Int, R1 = rch t a b (hld N 0 65536).toNat v := ⟨_, rfl⟩
    obtain ⟨R0, hR0⟩ : ∃ R0 : Int, R0 = rch t a b (hld (N - 1) 0 65536).toNat v := ⟨_, rfl⟩
    have f1 : R1 = rch t a b n v := by rw [hR1, hld_id N 0 65536 (by omega) (by omega), hN]; rfl
    have N0 : 0 ≤ N := by omega
    have N1 : N ≤ m := by omega
    have M1 : m ≤ R1 := by omega
    rw [← hN] at el
    have HL := Lib.hid el
    have HR1 := Lib.hid hR1
    have HR0 := Lib.hid hR0
    rcases e3 with e3 | ⟨k, hk, e3⟩
    · have n0 : N = 0 := by omega
      have m0 : m = 0 := by rw [e3] at f1 e2; simp [rch] at e2; omega
      subst m0 n0
      clear hN hR1 hR0 f1 e1 e2 e3 e4 el em b1 hm0 hm1
      go_enter Try.func12, Try.ntmps12
      go_wp2_with fail
      refine (known22_any _).mono ?_
      rintro e w1 ⟨rfl, h1⟩
      have hb1 := hbox.gr h1
      have hg1 := hg0.trans h1
      clear hbox hg0 h1
      obtain ⟨i0, c0, c1, c2, c3, c4⟩ := hb1
      go_wp2_with fail
      refine (may_any _ _ _ _ _ hs _).mono ?_
      rintro e w2 ⟨rfl, h2⟩
      rw [HM.out]
      have hb2 := Box.gr ⟨i0, c0, c1, c2, c3, c4⟩ h2
      have hg2 := hg1.trans h2
      clear i0 c0 c1 c2 c3 c4 hg1 h2
      obtain ⟨i0, c0, c1, c2, c3, c4⟩ := hb2
      go_wp2_with fail
      refine (least_any nm l t a b v _ ht ha hb _).mono ?_
      rintro e w3 ⟨rfl, h3⟩
      have hb3 := Box.gr ⟨i0, c0, c1, c2, c3, c4⟩ h3
      have hg3 := hg2.trans h3
      clear i0 c0 c1 c2 c3 c4 hg2 h3
      obtain ⟨i0, c0, c1, c2, c3, c4⟩ := hb3
      rw [HL.out]
      go_wp2_with fail
      refine (reach_any nm l t a b v _ ht ha hb _).mono ?_
      rintro e w4 ⟨rfl, h4⟩
      have hb4 := Box.gr ⟨i0, c0, c1, c2, c3, c4⟩ h4
      have hg4 := hg3.trans h4
      clear i0 c0 c1 c2 c3 c4 hg3 h4
      obtain ⟨i0, c0, c1, c2, c3, c4⟩ := hb4
      rw [← HR1.out]
      go_wp2_with fail
      go_ret
      exact ⟨rfl, hg4⟩
    · have g1 : R0 = rch t a b k v := by rw [hR0, hld_id (N - 1) 0 65536 (by omega) (by omega), hN, hk]; congr 1; omega
      have N2 : 0 < N := by omega
      have t1 : (N == 0) = false := by simp; omega
      have m2 : R0 < m := by omega
      have m3 : 0 < m := by omega
      have t2 : (m == 0) = false := by simp; omega
      clear hN hR1 hR0 f1 g1 e1 e2 e3 e4 el em b1 hk
      go_enter Try.func12, Try.ntmps12
      go_wp2_with fail
      refine (known22_any _).mono ?_
      rintro e w1 ⟨rfl, h1⟩
      have hb1 := hbox.gr h1
      have hg1 := hg0.trans h1
      clear hbox hg0 h1
      obtain ⟨i0, c0, c1, c2, c3, c4⟩ := hb1
      go_wp2_with fail
      refine (may_any _ _ _ _ _ hs _).mono ?_
      rintro e w2 ⟨rfl, h2⟩
      rw [HM.out]
      have hb2 := Box.gr ⟨i0, c0, c1, c2, c3, c4⟩ h2
      have hg2 := hg1.trans h2
      clear i0 c0 c1 c2 c3 c4 hg1 h2
      obtain ⟨i0, c0, c1, c2, c3, c4⟩ := hb2
      go_wp2_with fail
      refine (least_any nm l t a b v _ ht ha hb _).mono ?_
      rintro e w3 ⟨rfl, h3⟩
      have hb3 := Box.gr ⟨i0, c0, c1, c2, c3, c4⟩ h3
      have hg3 := hg2.trans h3
      clear i0 c0 c1 c2 c3 c4 hg2 h3
      obtain ⟨i0, c0, c1, c2, c3, c4⟩ := hb3
      rw [HL.out]
      go_wp2_with fail
      refine (reach_any nm l t a b v _ ht ha hb _).mono ?_
      rintro e w4 ⟨rfl, h4⟩
      have hb4 := Box.gr ⟨i0, c0, c1, c2, c3, c4⟩ h4
      have hg4 := hg3.trans h4
      clear i0 c0 c1 c2 c3 c4 hg3 h4
      obtain ⟨i0, c0, c1, c2, c3, c4⟩ := hb4
      rw [← HR1.out]
      go_wp2_with fail
      refine (reach_any nm l t a b v _ ht ha hb _).mono ?_
      rintro e w5 ⟨rfl, h5⟩
      have hb5 := Box.gr ⟨i0, c0, c1, c2, c3, c4⟩ h5
      have hg5 := hg4.trans h5
      clear i0 c0 c1 c2 c3 c4 hg4 h5
      obtain ⟨i0, c0, c1, c2, c3, c4⟩ := hb5
      rw [← HR0.out]
      go_wp2_with fail
      go_ret
      exact ⟨rfl, hg5⟩

theorem paceLeast_walk (x : Value) (s : Stk) (v m : Int) (w : World) (hx : IsStk x s) (_wv : (Lit.int .i64 v).wf = true) (wm : (Lit.int .u16 m).wf = true) :
    Calls Try.prog 12 #[x, .int .i64 v, .int .u16 m] w fun e w' => e = .returned (.bool true) ∧ Gr w w' := by
  obtain ⟨rfl, hs, -⟩ := hx
  have hb : 0 ≤ m ∧ m ≤ 65535 := by simp [Lit.wf] at wm; exact wm
  exact paceLeast_core s.nm s.l s.t s.a s.b v m hs w hb.1 hb.2

set_option maxHeartbeats 1000000 in
theorem paceKept_core (nm : ByteArray) (l t a b : Int) (v room ticks : Int) (hs : nm.size ≤ maxLen) (w : World) (hm0 : 0 ≤ room) (hm1 : room ≤ 65535) (hk0 : 0 ≤ ticks) (hk1 : ticks ≤ 255) :
    Calls Try.prog 10 #[.agg #[.string nm, .int .i64 l, .int .i64 t, .int .i64 a, .int .i64 b], .int .i64 v, .int .u16 room, .int .u8 ticks] w fun e w' => e = .returned (.bool true) ∧ Gr w w' := by
  have hbox := Box.new w nm l t a b 35
  have hg0 := (Gr.refl w).alloc (.cells #[.string nm, .int .i64 l, .int .i64 t, .int .i64 a, .int .i64 b] 35)
  cases hm : mayB nm l t a b with
  | false =>
    have HM := Lib.hid hm
    clear hm
    go_enter Try.func10, Try.ntmps10
    go_wp2_with fail
    refine (known22_any _).mono ?_
    rintro e w1 ⟨rfl, h1⟩
    have hb1 := hbox.gr h1
    have hg1 := hg0.trans h1
    clear hbox hg0 h1
    obtain ⟨i0, c0, c1, c2, c3, c4⟩ := hb1
    go_wp2_with fail
    refine (may_any _ _ _ _ _ hs _).mono ?_
    rintro e w2 ⟨rfl, h2⟩
    rw [HM.out]
    have hb2 := Box.gr ⟨i0, c0, c1, c2, c3, c4⟩ h2
    have hg2 := hg1.trans h2
    clear i0 c0 c1 c2 c3 c4 hg1 h2
    obtain ⟨i0, c0, c1, c2, c3, c4⟩ := hb2
    go_wp2_with fail
    go_ret
    exact ⟨rfl, hg2⟩
  | true =>
    have HM := Lib.hid hm
    obtain ⟨-, -, ht, ha, hb⟩ := mayB_parts hm
    clear hm
    have sb := stopD_bd t b v ht hb.1
    obtain ⟨sb1, sb2⟩ := sb
    by_cases hv0 : v < 0
    · go_enter Try.func10, Try.ntmps10
      go_wp2_with fail
      refine (known22_any _).mono ?_
      rintro e w1 ⟨rfl, h1⟩
      have hb1 := hbox.gr h1
      have hg1 := hg0.trans h1
      clear hbox hg0 h1
      obtain ⟨i0, c0, c1, c2, c3, c4⟩ := hb1
      go_wp2_with fail
      refine (may_any _ _ _ _ _ hs _).mono ?_
      rintro e w2 ⟨rfl, h2⟩
      rw [HM.out]
      have hb2 := Box.gr ⟨i0, c0, c1, c2, c3, c4⟩ h2
      have hg2 := hg1.trans h2
      clear i0 c0 c1 c2 c3 c4 hg1 h2
      obtain ⟨i0, c0, c1, c2, c3, c4⟩ := hb2
      go_wp2_with fail
      go_ret
      exact ⟨rfl, hg2⟩
    by_cases hv1 : t < v
    · go_enter Try.func10, Try.ntmps10
      go_wp2_with fail
      refine (known22_any _).mono ?_
      rintro e w1 ⟨rfl, h1⟩
      have hb1 := hbox.gr h1
      have hg1 := hg0.trans h1
      clear hbox hg0 h1
      obtain ⟨i0, c0, c1, c2, c3, c4⟩ := hb1
      go_wp2_with fail
      refine (may_any _ _ _ _ _ hs _).mono ?_
      rintro e w2 ⟨rfl, h2⟩
      rw [HM.out]
      have hb2 := Box.gr ⟨i0, c0, c1, c2, c3, c4⟩ h2
      have hg2 := hg1.trans h2
      clear i0 c0 c1 c2 c3 c4 hg1 h2
      obtain ⟨i0, c0, c1, c2, c3, c4⟩ := hb2
      go_wp2_with fail
      go_ret
      exact ⟨rfl, hg2⟩
    by_cases hv2 : room < stopD t b v
    · go_enter Try.func10, Try.ntmps10
      go_wp2_with fail
      refine (known22_any _).mono ?_
      rintro e w1 ⟨rfl, h1⟩
      have hb1 := hbox.gr h1
      have hg1 := hg0.trans h1
      clear hbox hg0 h1
      obtain ⟨i0, c0, c1, c2, c3, c4⟩ := hb1
      go_wp2_with fail
      refine (may_any _ _ _ _ _ hs _).mono ?_
      rintro e w2 ⟨rfl, h2⟩
      rw [HM.out]
      have hb2 := Box.gr ⟨i0, c0, c1, c2, c3, c4⟩ h2
      have hg2 := hg1.trans h2
      clear i0 c0 c1 c2 c3 c4 hg1 h2
      obtain ⟨i0, c0, c1, c2, c3, c4⟩ := hb2
      go_wp2_with fail
      refine (stop_any nm l t a b v ht ha hb _).mono ?_
      rintro e w3 ⟨rfl, h3⟩
      have hb3 := Box.gr ⟨i0, c0, c1, c2, c3, c4⟩ h3
      have hg3 := hg2.trans h3
      clear i0 c0 c1 c2 c3 c4 hg2 h3
      obtain ⟨i0, c0, c1, c2, c3, c4⟩ := hb3
      go_wp2_with fail
      go_ret
      exact ⟨rfl, hg3⟩
    go_enter Try.func10, Try.ntmps10
    go_wp2_with fail
    refine (known22_any _).mono ?_
    rintro e w1 ⟨rfl, h1⟩
    have hb1 := hbox.gr h1
    have hg1 := hg0.trans h1
    clear hbox hg0 h1
    obtain ⟨i0, c0, c1, c2, c3, c4⟩ := hb1
    go_wp2_with fail
    refine (may_any _ _ _ _ _ hs _).mono ?_
    rintro e w2 ⟨rfl, h2⟩
    rw [HM.out]
    have hb2 := Box.gr ⟨i0, c0, c1, c2, c3, c4⟩ h2
    have hg2 := hg1.trans h2
    clear i0 c0 c1 c2 c3 c4 hg1 h2
    obtain ⟨i0, c0, c1, c2, c3, c4⟩ := hb2
    go_wp2_with fail
    refine (stop_any nm l t a b v ht ha hb _).mono ?_
    rintro e w3 ⟨rfl, h3⟩
    have hb3 := Box.gr ⟨i0, c0, c1, c2, c3, c4⟩ h3
    have hg3 := hg2.trans h3
    clear i0 c0 c1 c2 c3 c4 hg2 h3
    obtain ⟨i0, c0, c1, c2, c3, c4⟩ := hb3
    go_wp2_with fail
    have hbx : Box w3 w.heap.size nm l t a b := ⟨i0, c0, c1, c2, c3, c4⟩
    clear i0 c0 c1 c2 c3 c4
    go_loopw [1, 9, 10, 37] (fun x y _ i wr => ∃ V F K : Int, x = .int .i64 V ∧ y = .int .i64 F ∧ i = .int .u8 K ∧ 0 ≤ V ∧ V ≤ t ∧ stopD t b V ≤ F ∧ F ≤ 65535 ∧ 0 ≤ K ∧ K ≤ ticks ∧ Gr w wr ∧ Box wr w.heap.size nm l t a b) (fun _ _ _ i _ => (ticks - intOf i).toNat)
    case atStart => exact ⟨v, room, 0, rfl, rfl, rfl, by omega, by omega, by omega, by omega, by omega, by omega, hg3, hbx⟩
    case round =>
      obtain ⟨V, F, K, rfl, rfl, rfl, r1, r2, r3, r4, r5, r6, g, ⟨i0, c0, c1, c2, c3, c4⟩⟩ := hrel
      have bd := stopD_bd t b V ht hb.1
      obtain ⟨bd1, bd2⟩ := bd
      clear hbx hg3 hv0 hv1 hv2 sb1 sb2
      by_cases hp : K < ticks
      · obtain ⟨k1, k2, k3, k4, k5⟩ := kept_step t a b V F ht ha.1 hb.1 r1 r2 r3
        obtain ⟨W, hW⟩ : ∃ W, W = kps t a b V F := ⟨_, rfl⟩
        rw [← hW] at k1 k2 k3 k4 k5
        have HW := Lib.hid hW
        clear hW
        have bw := stopD_bd t b W ht hb.1
        obtain ⟨bw1, bw2⟩ := bw
        go_wp2_with fail
        refine (keeps_any nm l t a b V F ht ha hb _).mono ?_
        rintro e w4 ⟨rfl, h4⟩
        rw [← HW.out]
        have hb4 := Box.gr ⟨i0, c0, c1, c2, c3, c4⟩ h4
        have hg4 := g.trans h4
        clear i0 c0 c1 c2 c3 c4 g h4
        obtain ⟨i0, c0, c1, c2, c3, c4⟩ := hb4
        go_wp2_with fail
        refine (stop_any nm l t a b W ht ha hb _).mono ?_
        rintro e w5 ⟨rfl, h5⟩
        have hb5 := Box.gr ⟨i0, c0, c1, c2, c3, c4⟩ h5
        have hg5 := hg4.trans h5
        clear i0 c0 c1 c2 c3 c4 hg4 h5
        have hb5' := hb5
        obtain ⟨i0, c0, c1, c2, c3, c4⟩ := hb5
        go_wp2_with fail
        go_roundw
        case rel => exact ⟨W, F - W, K + 1, rfl, rfl, rfl, k4, k5, by omega, by omega, by omega, by omega, hg5, hb5'⟩
        case measure => simp [intOf]; omega
      · go_wp2_with fail
        go_ret
        exact ⟨ret_bool (by simp; omega), g⟩

theorem paceKept_walk (x : Value) (s : Stk) (v m k : Int) (w : World) (hx : IsStk x s) (_wv : (Lit.int .i64 v).wf = true) (wm : (Lit.int .u16 m).wf = true) (wk : (Lit.int .u8 k).wf = true) :
    Calls Try.prog 10 #[x, .int .i64 v, .int .u16 m, .int .u8 k] w fun e w' => e = .returned (.bool true) ∧ Gr w w' := by
  obtain ⟨rfl, hs, -⟩ := hx
  have hb : 0 ≤ m ∧ m ≤ 65535 := by simp [Lit.wf] at wm; exact wm
  have hk := bounds_u8 wk
  exact paceKept_core s.nm s.l s.t s.a s.b v m k hs w hb.1 hb.2 hk.1 hk.2
end Go.Proofs.Ytiblkcbehcpjbaa
