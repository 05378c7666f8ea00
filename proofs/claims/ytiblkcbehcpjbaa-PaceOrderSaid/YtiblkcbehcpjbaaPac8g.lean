/- Pace: the laws' walks. -/
import Derived.Test.YtiblkcbehcpjbaaPac7
import Derived.Test.YtiblkcbehcpjbaaPacQ
import Derived.Test.YtiblkcbehcpjbaaOpn1
import Derived.Deep.RegionHeld3
import Derived.StillTailTactics
namespace Go.Proofs.Ytiblkcbehcpjbaa
open Go.ChangeShapes Go.WideShapes Go.ChangeAt Go.RowKit
set_option linter.unusedVariables false
set_option linter.unusedSimpArgs false

theorem Box.held2 {w0 W w3 : World} {B C : Nat} {nm : ByteArray} {l t a b c : Int} (g : Gr W w3)
    (h : Gr w0 W ∧ B < W.heap.size ∧ C < W.heap.size ∧ W.cell? ⟨B, 0, none⟩ = some (.string nm) ∧ W.cell? ⟨B, 1, none⟩ = some (.int .i64 l) ∧ W.cell? ⟨B, 2, none⟩ = some (.int .i64 t) ∧ W.cell? ⟨B, 3, none⟩ = some (.int .i64 a) ∧ W.cell? ⟨B, 4, none⟩ = some (.int .i64 b) ∧ W.cell? ⟨C, 0, none⟩ = some (.string nm) ∧ W.cell? ⟨C, 1, none⟩ = some (.int .i64 l) ∧ W.cell? ⟨C, 2, none⟩ = some (.int .i64 t) ∧ W.cell? ⟨C, 3, none⟩ = some (.int .i64 a) ∧ W.cell? ⟨C, 4, none⟩ = some (.int .i64 c)) :
    Gr w0 w3 ∧ B < w3.heap.size ∧ C < w3.heap.size ∧ w3.cell? ⟨B, 0, none⟩ = some (.string nm) ∧ w3.cell? ⟨B, 1, none⟩ = some (.int .i64 l) ∧ w3.cell? ⟨B, 2, none⟩ = some (.int .i64 t) ∧ w3.cell? ⟨B, 3, none⟩ = some (.int .i64 a) ∧ w3.cell? ⟨B, 4, none⟩ = some (.int .i64 b) ∧ w3.cell? ⟨C, 0, none⟩ = some (.string nm) ∧ w3.cell? ⟨C, 1, none⟩ = some (.int .i64 l) ∧ w3.cell? ⟨C, 2, none⟩ = some (.int .i64 t) ∧ w3.cell? ⟨C, 3, none⟩ = some (.int .i64 a) ∧ w3.cell? ⟨C, 4, none⟩ = some (.int .i64 c) := by
  obtain ⟨g0, i0, j0, c0, c1, c2, c3, c4, d0, d1, d2, d3, d4⟩ := h
  have k := Box.gr ⟨i0, c0, c1, c2, c3, c4⟩ g
  have k2 := Box.gr ⟨j0, d0, d1, d2, d3, d4⟩ g
  exact ⟨g0.trans g, k.lt, k2.lt, k.c0, k.c1, k.c2, k.c3, k.c4, k2.c0, k2.c1, k2.c2, k2.c3, k2.c4⟩

set_option maxHeartbeats 8000000 in
theorem paceOrder_core (nm : ByteArray) (l t a b v x want ticks st : Int) (hs : nm.size ≤ maxLen) (hk0 : 0 ≤ ticks) (hk1 : ticks ≤ 255) (hs0 : 0 ≤ st) (hs1 : st ≤ 255) (w : World) (wb : (Lit.int .i64 b).wf = true) :
    Calls Try.prog 14 #[.agg #[.string nm, .int .i64 l, .int .i64 t, .int .i64 a, .int .i64 b], .int .i64 v, .int .i64 x, .int .i64 want, .int .u8 ticks, .int .u8 st] w fun e w' => e = .returned (.bool true) ∧ Gr w w' := by
  have hbox := Box.new w nm l t a b 35
  have hg0 := (Gr.refl w).alloc (.cells #[.string nm, .int .i64 l, .int .i64 t, .int .i64 a, .int .i64 b] 35)
  have s10 : 0 ≤ st % 10 := by omega
  have s11 : st % 10 ≤ 9 := by omega
  go_enter Try.func14, Try.ntmps14
  go_wp2_with fail
  refine (known22_any _).mono ?_
  rintro e w1 ⟨rfl, h1⟩
  have hb1 := hbox.gr h1
  have hg1 := hg0.trans h1
  clear hbox hg0 h1
  obtain ⟨i0, c0, c1, c2, c3, c4⟩ := hb1
  go_wp2_with fail
  have hbox2 := Box.new w1 nm l t a (wrap64 (b + st % 10)) 35
  have hgA := (Gr.refl w1).alloc (.cells #[.string nm, .int .i64 l, .int .i64 t, .int .i64 a, .int .i64 (wrap64 (b + st % 10))] 35)
  obtain ⟨c, hc⟩ : ∃ c, wrap64 (b + st % 10) = c := ⟨_, rfl⟩
  rw [hc] at hbox2 hgA ⊢
  have HC := Lib.hid hc
  clear hc
  have hbox1 := Box.gr ⟨i0, c0, c1, c2, c3, c4⟩ hgA
  have hg2 := hg1.trans hgA
  have hszA : w1.heap.size < (w1.alloc (.cells #[.string nm, .int .i64 l, .int .i64 t, .int .i64 a, .int .i64 c] 35)).heap.size := hbox2.lt
  obtain ⟨wA, hwA⟩ : ∃ wA, w1.alloc (.cells #[.string nm, .int .i64 l, .int .i64 t, .int .i64 a, .int .i64 c] 35) = wA := ⟨_, rfl⟩
  rw [hwA] at hbox1 hbox2 hg2 ⊢
  clear hwA hgA hg1 hszA i0 c0 c1 c2 c3 c4
  refine (may_any _ _ _ _ _ hs _).mono ?_
  rintro e w2 ⟨rfl, h2⟩
  have hb1 := hbox1.gr h2
  have hb2 := hbox2.gr h2
  have hg3 := hg2.trans h2
  clear hbox1 hbox2 hg2 h2
  obtain ⟨i0, c0, c1, c2, c3, c4⟩ := hb1
  obtain ⟨j0, d0, d1, d2, d3, d4⟩ := hb2
  cases hm : mayB nm l t a b with
  | false =>
    go_wp2_with fail
    go_ret
    exact ⟨rfl, hg3⟩
  | true =>
    obtain ⟨-, -, ht, ha, hb⟩ := mayB_parts hm
    clear hm
    go_wp2_with fail
    refine (may_any _ _ _ _ _ hs _).mono ?_
    rintro e w3 ⟨rfl, h3⟩
    have hb1 := Box.gr ⟨i0, c0, c1, c2, c3, c4⟩ h3
    have hb2 := Box.gr ⟨j0, d0, d1, d2, d3, d4⟩ h3
    have hg3 := hg3.trans h3
    clear i0 c0 c1 c2 c3 c4 j0 d0 d1 d2 d3 d4 h3
    obtain ⟨i0, c0, c1, c2, c3, c4⟩ := hb1
    obtain ⟨j0, d0, d1, d2, d3, d4⟩ := hb2
    cases hm : mayB nm l t a c with
    | false =>
      go_wp2_with fail
      go_ret
      exact ⟨rfl, hg3⟩
    | true =>
      obtain ⟨-, -, -, -, hc⟩ := mayB_parts hm
      clear hm
      by_cases hvx : x < v
      · go_wp2_with fail
        go_ret
        exact ⟨rfl, hg3⟩
      · have hbc : b ≤ c := by
          have e := HC.out
          rw [IntWalk.wrap64_in _ (by omega)] at e
          omega
        have q1 := nxt_mono t a b v x want false (by omega)
        have q2 := nxt_mono t a b v x want true (by omega)
        have q3 := stopD_mono t b b v x (by omega) hb.1 (by omega)
        have q4 := tck_mono t b v x hb.1 (by omega)
        have q5 := rch_mono t a b (hld ticks 0 65536).toNat v x (hld_mono _ _ _ _ (by omega))
        have q6 := stopD_mono t b c v v hbc hb.1 (by omega)
        have wtk : IntKind.i64.wrap ticks = ticks := IntWalk.i64_in _ (by omega)
        have q7 := nxt_forced_le t a b v want ha.1 hb.1
        clear HC
        go_wp2_with fail
        simp only [List.append_eq, List.cons_append, List.nil_append]
        go_region_held3 (fun w' => Gr w w' ∧ w.heap.size < w'.heap.size ∧ w1.heap.size < w'.heap.size ∧ w'.cell? ⟨w.heap.size, 0, none⟩ = some (.string nm) ∧ w'.cell? ⟨w.heap.size, 1, none⟩ = some (.int .i64 l) ∧ w'.cell? ⟨w.heap.size, 2, none⟩ = some (.int .i64 t) ∧ w'.cell? ⟨w.heap.size, 3, none⟩ = some (.int .i64 a) ∧ w'.cell? ⟨w.heap.size, 4, none⟩ = some (.int .i64 b) ∧ w'.cell? ⟨w1.heap.size, 0, none⟩ = some (.string nm) ∧ w'.cell? ⟨w1.heap.size, 1, none⟩ = some (.int .i64 l) ∧ w'.cell? ⟨w1.heap.size, 2, none⟩ = some (.int .i64 t) ∧ w'.cell? ⟨w1.heap.size, 3, none⟩ = some (.int .i64 a) ∧ w'.cell? ⟨w1.heap.size, 4, none⟩ = some (.int .i64 c)) (first | exact ⟨hg3, i0, j0, c0, c1, c2, c3, c4, d0, d1, d2, d3, d4⟩ | exact Box.held2 h4 (by assumption) | exact ⟨hg3.drew, i0, j0, c0, c1, c2, c3, c4, d0, d1, d2, d3, d4⟩) (first | (go_at_call 27; refine (next_any nm l t a b _ _ _ ht ha hb _).mono ?_; rintro e w4 ⟨rfl, h4⟩) | (go_at_call 29; (first | (with_reducible refine (stop_any nm l t a b _ ht ha hb _).mono ?_) | (with_reducible refine (stop_any nm l t a c _ ht ha hc _).mono ?_)); rintro e w4 ⟨rfl, h4⟩) | (go_at_call 31; refine (ticks_any nm l t a b _ ht ha hb _).mono ?_; rintro e w4 ⟨rfl, h4⟩) | (go_at_call 35; refine (reach_any nm l t a b _ _ ht ha hb _).mono ?_; rintro e w4 ⟨rfl, h4⟩))
        rename_i hS
        go_wp2_with fail
        go_ret
        exact ⟨rfl, hS.1⟩

theorem paceOrder_walk (y : Value) (s : Stk) (v x want ticks st : Int) (w : World) (hx : IsStk y s) (_wv : (Lit.int .i64 v).wf = true) (_wx : (Lit.int .i64 x).wf = true) (_ww : (Lit.int .i64 want).wf = true) (wk : (Lit.int .u8 ticks).wf = true) (wt : (Lit.int .u8 st).wf = true) :
    Calls Try.prog 14 #[y, .int .i64 v, .int .i64 x, .int .i64 want, .int .u8 ticks, .int .u8 st] w fun e w' => e = .returned (.bool true) ∧ Gr w w' := by
  obtain ⟨rfl, hs, -, -, -, hb⟩ := hx
  have hk := bounds_u8 wk
  have ht := bounds_u8 wt
  exact paceOrder_core s.nm s.l s.t s.a s.b v x want ticks st hs hk.1 hk.2 ht.1 ht.2 w hb
end Go.Proofs.Ytiblkcbehcpjbaa
