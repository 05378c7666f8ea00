/- (as Opn1, the integers alone) Opening arguments of this program's types. -/
import Derived.Test.YtjblplflgiibdaaGreatDoorRows
import Derived.Test.YtjblplflgiibdaaGreatDoorB1
import Derived.Test.YtjblplflgiibdaaGreatDoorB11
import Derived.Deep.Grids
namespace Go.Proofs.YtjblplflgiibdaaGreatDoor
open Go.Joins Go.ChangeShapes Go.WideShapes Go.RowKit Go.Deep
set_option linter.unusedVariables false
set_option linter.unusedSimpArgs false
set_option maxRecDepth 100000 in
theorem open_u8s_vals {H : Type} {enc : TypeId × Value → H} {W : World} {r : Reach} {b0 base : Nat} {sp : Nat → Bool} {held : Bool} {v : Value} {d : DataW H} {p : List MemPlace}
    (hv : Value.okWide Tryz.prog W r b0 37 v) (h : DataW.Trod enc Tryz.prog W base sp held 37 v d p) (_lt : ∀ x ∈ p, x.block < W.heap.size) :
    ∃ zs : List Int, IsVals W v (zs.map (Value.int .u8)) ∧ ∀ n ∈ zs, (Lit.int .u8 n).wf = true := by
  obtain ⟨a0, len0, cap0, rfl⟩ := okWide_slice Tryz.underlying37 hv
  obtain ⟨fuel, hf⟩ := h
  rcases open_ints Tryz.underlying37 Tryz.underlying5 (by kernel_rfl) hf with ⟨hcs, _⟩ | ⟨x, l, c, zs, hcs, _, hl, hm, hz, _, hcell, hwz⟩
  · simp [Value.cells] at hcs
    obtain ⟨rfl, rfl, rfl⟩ := hcs
    exact ⟨[], ⟨none, 0, rfl, by decide, .inl rfl⟩, by simp⟩
  · simp [Value.cells] at hcs
    obtain ⟨rfl, rfl, rfl⟩ := hcs
    have hzl : len0 ≤ zs.length := by rw [hz]; split <;> omega
    have hlen : ((zs.take len0).map (Value.int .u8)).length = len0 := by simp; omega
    refine ⟨zs.take len0, ⟨some x, cap0, by rw [hlen], by rw [hlen]; omega, vals_of fun i y hy => ?_⟩, fun n hn => hwz n (List.mem_of_mem_take hn)⟩
    have hi : i < len0 := by
      have := (List.getElem?_eq_some_iff.1 hy).1
      omega
    rw [hcell i (by omega)]
    simp only [List.getElem?_map, List.getElem?_take, if_pos hi] at hy
    rw [List.getElem?_eq_getElem (by omega)] at hy
    simp only [Option.map_some, Option.some.injEq] at hy
    rw [← hy, List.getD_eq_getElem?_getD, List.getElem?_eq_getElem (by omega)]
    rfl
end Go.Proofs.YtjblplflgiibdaaGreatDoor
