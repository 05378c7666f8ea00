/- Opening a driver. -/
import Derived.Test.YtaanepadgoefhaaGreatDoorRows
import Derived.Test.YtaanepadgoefhaaGreatDoorROpnI
import Derived.Test.YtaanepadgoefhaaGreatDoorRAct
import Derived.Lib.SmallJoins
namespace Go.Proofs.YtaanepadgoefhaaGreatDoor
open Go.Joins Go.ChangeShapes Go.WideShapes Go.RowKit Go.Deep
set_option linter.unusedVariables false
set_option linter.unusedSimpArgs false
theorem cellsDriver : Tryz.prog.cellsOf 35 = 2 := by kernel_rfl
set_option maxRecDepth 100000 in
theorem open_drv {H : Type} {enc : TypeId × Value → H} {W : World} {r : Reach} {b0 base : Nat} {sp : Nat → Bool} {held : Bool} {v : Value} {d : DataW H} {p : List MemPlace}
    (hv : Value.okWide Tryz.prog W r b0 35 v) (h : DataW.Trod enc Tryz.prog W base sp held 35 v d p) (_lt : ∀ x ∈ p, x.block < W.heap.size) :
    ∃ D : Drv, IsDrv W v D ∧ I64 D.kind ∧ ∀ x ∈ D.tape, I64 x := by
  obtain ⟨v0, v1, y0, y1, n, rfl, -, -, h0, h1⟩ := open_agg2 Tryz.underlying35 (by kernel_rfl) cellsDriver hv h
  obtain ⟨k, e0, -, wk⟩ := DataW.trod_int Tryz.underlying3 h0
  obtain ⟨zs, hz, wz⟩ := trod_ints h1
  simp only [List.cons.injEq, and_true] at e0
  subst e0
  obtain ⟨a, c, rfl, hl, hx⟩ := id hz
  refine ⟨⟨k, zs⟩, ⟨a, c, ?_, ?_⟩, wk, wz⟩
  · simp [drvV]
  · have : (zs.map (Value.int .i64)).length = zs.length := by simp
    rw [this] at hz
    exact hz
end Go.Proofs.YtaanepadgoefhaaGreatDoor
