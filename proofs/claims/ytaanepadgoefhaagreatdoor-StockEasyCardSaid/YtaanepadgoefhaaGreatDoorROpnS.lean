/- Opening a kind of trains. -/
import Derived.Test.YtaanepadgoefhaaGreatDoorRows
import Derived.Test.YtaanepadgoefhaaGreatDoorB1
namespace Go.Proofs.YtaanepadgoefhaaGreatDoor
open Go.Joins Go.ChangeShapes Go.WideShapes Go.RowKit Go.Deep
set_option linter.unusedVariables false
set_option linter.unusedSimpArgs false
theorem cellsStock : Tryz.prog.cellsOf 30 = 5 := by kernel_rfl

set_option maxRecDepth 100000 in
theorem open_stk {H : Type} {enc : TypeId × Value → H} {W : World} {r : Reach} {b0 base : Nat} {sp : Nat → Bool} {held : Bool} {v : Value} {d : DataW H} {p : List MemPlace}
    (hv : Value.okWide Tryz.prog W r b0 30 v) (h : DataW.Trod enc Tryz.prog W base sp held 30 v d p) (_lt : ∀ x ∈ p, x.block < W.heap.size) : ∃ s, IsStk v s := by
  obtain ⟨v0, v1, v2, v3, v4, y0, y1, y2, y3, y4, n, rfl, -, -, h0, h1, h2, h3, h4⟩ := open_agg5 Tryz.underlying30 (by kernel_rfl) cellsStock hv h
  obtain ⟨nm, e0, -, hs⟩ := DataW.trod_string Tryz.underlying9 h0
  obtain ⟨l, e1, -, wl⟩ := DataW.trod_int Tryz.underlying3 h1
  obtain ⟨t, e2, -, wt⟩ := DataW.trod_int Tryz.underlying3 h2
  obtain ⟨a, e3, -, wa⟩ := DataW.trod_int Tryz.underlying3 h3
  obtain ⟨b, e4, -, wb⟩ := DataW.trod_int Tryz.underlying3 h4
  simp only [List.cons.injEq, and_true] at e0 e1 e2 e3 e4
  subst e0 e1 e2 e3 e4
  exact ⟨⟨nm, l, t, a, b⟩, rfl, hs, wl, wt, wa, wb⟩

end Go.Proofs.YtaanepadgoefhaaGreatDoor
