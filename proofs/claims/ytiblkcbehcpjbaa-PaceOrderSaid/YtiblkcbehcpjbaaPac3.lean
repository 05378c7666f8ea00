/- Pace: how many ticks. -/
import Derived.Test.YtiblkcbehcpjbaaPac2
namespace Go.Proofs.Ytiblkcbehcpjbaa
open Go.ChangeShapes Go.WideShapes Go.ChangeAt Go.RowKit
set_option linter.unusedVariables false
set_option linter.unusedSimpArgs false

/-- a stock in a box -/
structure Box (w : World) (B : Nat) (nm : ByteArray) (l t a b : Int) : Prop where
  lt : B < w.heap.size
  c0 : w.cell? ⟨B, 0, none⟩ = some (.string nm)
  c1 : w.cell? ⟨B, 1, none⟩ = some (.int .i64 l)
  c2 : w.cell? ⟨B, 2, none⟩ = some (.int .i64 t)
  c3 : w.cell? ⟨B, 3, none⟩ = some (.int .i64 a)
  c4 : w.cell? ⟨B, 4, none⟩ = some (.int .i64 b)
theorem Box.gr {w w' : World} {B : Nat} {nm : ByteArray} {l t a b : Int} (h : Box w B nm l t a b) (g : Gr w w') : Box w' B nm l t a b :=
  ⟨Nat.lt_of_lt_of_le h.lt g.size, (g.cell _ _ h.lt).trans h.c0, (g.cell _ _ h.lt).trans h.c1, (g.cell _ _ h.lt).trans h.c2, (g.cell _ _ h.lt).trans h.c3, (g.cell _ _ h.lt).trans h.c4⟩
theorem Box.new (w : World) (nm : ByteArray) (l t a b : Int) (T : TypeId) : Box (w.alloc (.cells #[.string nm, .int .i64 l, .int .i64 t, .int .i64 a, .int .i64 b] T)) w.heap.size nm l t a b :=
  ⟨by simp, by rw [World.cell?_alloc_mark]; rfl, by rw [World.cell?_alloc_mark]; rfl, by rw [World.cell?_alloc_mark]; rfl, by rw [World.cell?_alloc_mark]; rfl, by rw [World.cell?_alloc_mark]; rfl⟩

theorem Box.five {w : World} {B : Nat} {nm : ByteArray} {l t a b : Int} (h : Box w B nm l t a b) :
    w.cell? ⟨B, 0, none⟩ = some (.string nm) ∧ w.cell? ⟨B, 1, none⟩ = some (.int .i64 l) ∧ w.cell? ⟨B, 2, none⟩ = some (.int .i64 t) ∧ w.cell? ⟨B, 3, none⟩ = some (.int .i64 a) ∧ w.cell? ⟨B, 4, none⟩ = some (.int .i64 b) :=
  ⟨h.c0, h.c1, h.c2, h.c3, h.c4⟩

theorem Box.held {w0 W w3 : World} {B : Nat} {nm : ByteArray} {l t a b : Int} (g : Gr W w3)
    (h : Gr w0 W ∧ B < W.heap.size ∧ W.cell? ⟨B, 0, none⟩ = some (.string nm) ∧ W.cell? ⟨B, 1, none⟩ = some (.int .i64 l) ∧ W.cell? ⟨B, 2, none⟩ = some (.int .i64 t) ∧ W.cell? ⟨B, 3, none⟩ = some (.int .i64 a) ∧ W.cell? ⟨B, 4, none⟩ = some (.int .i64 b)) :
    Gr w0 w3 ∧ B < w3.heap.size ∧ w3.cell? ⟨B, 0, none⟩ = some (.string nm) ∧ w3.cell? ⟨B, 1, none⟩ = some (.int .i64 l) ∧ w3.cell? ⟨B, 2, none⟩ = some (.int .i64 t) ∧ w3.cell? ⟨B, 3, none⟩ = some (.int .i64 a) ∧ w3.cell? ⟨B, 4, none⟩ = some (.int .i64 b) := by
  obtain ⟨g0, i0, c0, c1, c2, c3, c4⟩ := h
  have k := Box.gr ⟨i0, c0, c1, c2, c3, c4⟩ g
  exact ⟨g0.trans g, k.lt, k.five⟩

theorem ticks_any (nm : ByteArray) (l t a b v : Int) (ht : 1 ≤ t ∧ t ≤ 60) (ha : 1 ≤ a ∧ a ≤ 10) (hb : 1 ≤ b ∧ b ≤ 10) (w : World) :
    Calls Try.prog 31 #[.agg #[.string nm, .int .i64 l, .int .i64 t, .int .i64 a, .int .i64 b], .int .i64 v] w fun e w' => e = .returned (.int .i64 (tck t b v)) ∧ Gr w w' := by
  have q1 := hld_bd v 0 t (by omega)
  obtain ⟨q11, q12⟩ := q1
  have hbox := Box.new w nm l t a b 35
  go_enter Try.func31, Try.ntmps31
  go_wp2_with fail
  refine (may_yes nm l t a b ht ha hb _).mono ?_
  rintro e w1 ⟨rfl, h1⟩
  have hbox1 := hbox.gr h1
  have hg1 := ((Gr.refl w).alloc _).trans h1
  obtain ⟨i0, c0, c1, c2, c3, c4⟩ := hbox1
  go_wp2_with fail
  refine (held_any _ _ _ _).mono ?_
  rintro e w2 ⟨rfl, rfl⟩
  go_wp2_with fail
  have hbx : Box w2 w.heap.size nm l t a b := ⟨i0, c0, c1, c2, c3, c4⟩
  clear hbox h1 c0 c1 c2 c3 c4 i0
  go_loopw [1, 5] (fun x n wr => ∃ V N : Int, x = .int .i64 V ∧ n = .int .i64 N ∧ 0 ≤ V ∧ V ≤ t ∧ 0 ≤ N ∧ N + V ≤ 60 ∧ Hid (N + (V + b - 1) / b = tck t b v) ∧ Gr w wr ∧ Box wr w.heap.size nm l t a b) (fun x _ _ => (intOf x).toNat)
  case atStart => exact ⟨hld v 0 t, 0, rfl, rfl, q11, q12, by omega, by omega, by unfold Hid tck; omega, hg1, hbx⟩
  case round =>
    obtain ⟨V, N, rfl, rfl, r1, r2, r3, r4, HS, g, ⟨i0, c0, c1, c2, c3, c4⟩⟩ := hrel
    clear hbx hg1 q11 q12
    by_cases hp : 0 < V
    · have HT : Hid (N + 1 + (nxt t a b V 0 true + b - 1) / b = tck t b v) := by
        have := tck_step t a b V hb.1 hp r2
        unfold Hid; rw [← HS.out, this]; omega
      have hf := nxt_forced t a b V hb.1 hp r2
      have hv0 : (V == 0) = false := by simp; omega
      clear HS
      go_wp2_with fail
      refine (next_any nm l t a b V 0 true ht ha hb _).mono ?_
      rintro e w3 ⟨rfl, h3⟩
      have hB : Box w3 w.heap.size nm l t a b := Box.gr ⟨i0, c0, c1, c2, c3, c4⟩ h3
      have hG := g.trans h3
      go_wp2_with fail
      go_roundw
      case rel => exact ⟨_, N + 1, rfl, rfl, hf.1, by omega, by omega, by omega, HT, hG, hB⟩
      case measure => simp [intOf]; omega
    · obtain rfl : V = 0 := by omega
      have HT : Hid (N = tck t b v) := by have := tck_zero b hb.1; unfold Hid; rw [← HS.out]; omega
      clear HS
      go_wp2_with fail
      go_ret
      exact ⟨ret_int HT.out, g⟩

theorem refTicks_any (nm : ByteArray) (l t a b v : Int) (ht : 1 ≤ t ∧ t ≤ 60) (ha : 1 ≤ a ∧ a ≤ 10) (hb : 1 ≤ b ∧ b ≤ 10) (w : World) :
    Calls Try.prog 32 #[.agg #[.string nm, .int .i64 l, .int .i64 t, .int .i64 a, .int .i64 b], .int .i64 v] w fun e w' => e = .returned (.int .i64 (tck t b v)) ∧ Gr w w' := by
  have q1 := hld_bd v 0 t (by omega)
  have q2 := tck_bd b (hld v 0 t) hb.1 q1.1
  obtain ⟨q11, q12⟩ := q1
  have o1 : (0 : Int) ≤ t := by omega
  obtain ⟨hb1, hb2⟩ := hb
  have bb : (b == 0) = false := by simp; omega
  have e1 : IntKind.i64.wrap (hld v 0 t + b) = hld v 0 t + b := IntWalk.i64_in _ (by omega)
  have e2 : IntKind.i64.wrap (hld v 0 t + b - 1) = hld v 0 t + b - 1 := IntWalk.i64_in _ (by omega)
  have e3 : (hld v 0 t + b - 1).tdiv b = (hld v 0 t + b - 1) / b := by rw [Int.tdiv_eq_ediv_of_nonneg (by omega)]
  have e4 : IntKind.i64.wrap ((hld v 0 t + b - 1) / b) = (hld v 0 t + b - 1) / b := IntWalk.i64_in _ (by omega)
  go_enter Try.func32, Try.ntmps32
  go_wp2_with fail
  go_quiet ((first | (go_at_call 47; exact Calls.quiet_of_same (hold_any _ _ _ o1 _))))
  go_wp2_with fail
  go_ret
  exact ⟨ret_int rfl, ((Gr.refl _).alloc _).drewN _⟩
end Go.Proofs.Ytiblkcbehcpjbaa
