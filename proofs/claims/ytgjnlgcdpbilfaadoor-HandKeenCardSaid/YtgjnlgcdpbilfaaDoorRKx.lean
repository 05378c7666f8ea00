/- What one more law needs of texts whose other parts lie in the bundles. -/
import Derived.Test.YtgjnlgcdpbilfaaDoorB1
import Derived.Lib.SmallJoins
import Derived.Deep.Slices
import Derived.Deep.Fields
import Derived.ChangeSame
import Derived.Test.YtgjnlgcdpbilfaaDoorB10
import Derived.Test.YtgjnlgcdpbilfaaDoorB2
import Derived.Test.YtgjnlgcdpbilfaaDoorB6
import Derived.Test.YtgjnlgcdpbilfaaDoorB14
import Derived.Test.YtgjnlgcdpbilfaaDoorRows
namespace Go.Proofs.YtgjnlgcdpbilfaaDoor
open Go.Joins Go.ChangeShapes Go.WideShapes Go.RowKit Go.Deep
set_option linter.unusedVariables false
set_option linter.unusedSimpArgs false
section
variable {H : Type} {enc : TypeId × Value → H} {P : Program} {w : World} {base : Nat} {spare : Nat → Bool} {held : Bool}
end
open Go.ChangeShapes Go.WideShapes Go.ChangeAt Go.RowKit
structure Stk where
  nm : ByteArray
  l : Int
  t : Int
  a : Int
  b : Int
def IsStk (v : Value) (s : Stk) : Prop :=
  v = .agg #[.string s.nm, .int .i64 s.l, .int .i64 s.t, .int .i64 s.a, .int .i64 s.b] ∧ s.nm.size ≤ maxLen ∧
  (Lit.int .i64 s.l).wf = true ∧ (Lit.int .i64 s.t).wf = true ∧ (Lit.int .i64 s.a).wf = true ∧ (Lit.int .i64 s.b).wf = true
theorem nxt_brake (t a b v : Int) (ht : 1 ≤ t) (ha : 1 ≤ a) (hb : 1 ≤ b) : nxt t a b v (-b) false = max 0 (hld v 0 t - b) := by
  have h1 : wnt a b (-b) false = -b := by unfold wnt hld; simp; omega
  have q := hld_bd v 0 t (by omega)
  unfold nxt
  rw [h1]
  show max 0 (min (hld v 0 t + -b) t) = _
  omega
theorem acc_val (t a b v : Int) (ht : 1 ≤ t) (ha : 1 ≤ a) (hb : 1 ≤ b) : acc t a b v = min t (hld v 0 t + a) := by
  have h2 : wnt a b a false = a := by unfold wnt hld; simp; omega
  have q := hld_bd v 0 t (by omega)
  unfold acc nxt
  rw [h2]
  show max 0 (min (hld v 0 t + a) t) = _
  omega
def winB (n lo hi : Int) : Bool := decide (lo ≤ n) && decide (n ≤ hi)
theorem winB_iff (n lo hi : Int) : winB n lo hi = true ↔ lo ≤ n ∧ n ≤ hi := by unfold winB; simp
theorem within_any (n lo hi : Int) (w : World) :
    Calls Tryd.prog 28 #[.int .i64 n, .int .i64 lo, .int .i64 hi] w fun e w' => e = .returned (.bool (winB n lo hi)) ∧ w' = w := by
  go_enter Tryd.func28, Tryd.ntmps28
  go_wp2
  all_goals go_ret
  all_goals (refine ⟨ret_bool ?_, rfl⟩; unfold winB; by_cases a1 : lo ≤ n <;> by_cases a2 : n ≤ hi <;> simp [a1, a2] <;> omega)
def mayB (nm : ByteArray) (l t a b : Int) : Bool := nmB nm && winB l 1 4000 && winB t 1 60 && winB a 1 10 && winB b 1 10
theorem mayB_parts {nm : ByteArray} {l t a b : Int} (h : mayB nm l t a b = true) : nmB nm = true ∧ (1 ≤ l ∧ l ≤ 4000) ∧ (1 ≤ t ∧ t ≤ 60) ∧ (1 ≤ a ∧ a ≤ 10) ∧ (1 ≤ b ∧ b ≤ 10) := by
  unfold mayB at h
  simp only [Bool.and_eq_true, winB_iff] at h
  obtain ⟨⟨⟨⟨h1, h2⟩, h3⟩, h4⟩, h5⟩ := h
  exact ⟨h1, h2, h3, h4, h5⟩
theorem may_any (nm : ByteArray) (l t a b : Int) (hs : nm.size ≤ maxLen) (w : World) :
    Calls Tryd.prog 10 #[.agg #[.string nm, .int .i64 l, .int .i64 t, .int .i64 a, .int .i64 b]] w fun e w' => e = .returned (.bool (mayB nm l t a b)) ∧ Gr w w' := by
  go_enter Tryd.func10, Tryd.ntmps10
  go_wp2_with (first | (go_at_call 27; refine (refName_any nm hs _).mono ?_; rintro e w' ⟨rfl, rfl⟩) | (go_at_call 28; refine (within_any _ _ _ _).mono ?_; rintro e w' ⟨rfl, rfl⟩))
  all_goals go_ret
  all_goals refine ⟨ret_bool ?_, (Gr.refl _).alloc _⟩
  all_goals (unfold mayB; simp_all)
theorem cellsStock : Tryd.prog.cellsOf 40 = 5 := by kernel_rfl
set_option maxRecDepth 100000 in
theorem open_stk {H : Type} {enc : TypeId × Value → H} {W : World} {r : Reach} {b0 base : Nat} {sp : Nat → Bool} {held : Bool} {v : Value} {d : DataW H} {p : List MemPlace}
    (hv : Value.okWide Tryd.prog W r b0 40 v) (h : DataW.Trod enc Tryd.prog W base sp held 40 v d p) (_lt : ∀ x ∈ p, x.block < W.heap.size) : ∃ s, IsStk v s := by
  obtain ⟨v0, v1, v2, v3, v4, y0, y1, y2, y3, y4, n, rfl, -, -, h0, h1, h2, h3, h4⟩ := open_agg5 Tryd.underlying40 (by kernel_rfl) cellsStock hv h
  obtain ⟨nm, e0, -, hs⟩ := DataW.trod_string Tryd.underlying9 h0
  obtain ⟨l, e1, -, wl⟩ := DataW.trod_int Tryd.underlying3 h1
  obtain ⟨t, e2, -, wt⟩ := DataW.trod_int Tryd.underlying3 h2
  obtain ⟨a, e3, -, wa⟩ := DataW.trod_int Tryd.underlying3 h3
  obtain ⟨b, e4, -, wb⟩ := DataW.trod_int Tryd.underlying3 h4
  simp only [List.cons.injEq, and_true] at e0 e1 e2 e3 e4
  subst e0 e1 e2 e3 e4
  exact ⟨⟨nm, l, t, a, b⟩, rfl, hs, wl, wt, wa, wb⟩
end Go.Proofs.YtgjnlgcdpbilfaaDoor
