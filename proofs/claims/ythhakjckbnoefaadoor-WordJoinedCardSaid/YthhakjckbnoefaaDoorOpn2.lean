/- Opening a slice of strings. -/
import Derived.Test.YthhakjckbnoefaaDoorRows
import Derived.Test.YthhakjckbnoefaaDoorOpnP
import Derived.Deep.Strs
namespace Go.Proofs.YthhakjckbnoefaaDoor
open Go.Joins Go.ChangeShapes Go.WideShapes Go.RowKit Go.Deep
set_option linter.unusedVariables false
set_option linter.unusedSimpArgs false
theorem open_strs_vals {H : Type} {enc : TypeId × Value → H} {W : World} {r : Reach} {b0 base : Nat} {sp : Nat → Bool} {held : Bool} {v : Value} {d : DataW H} {p : List MemPlace}
    (hv : Value.okWide Tryd.prog W r b0 24 v) (h : DataW.Trod enc Tryd.prog W base sp held 24 v d p) (_lt : ∀ x ∈ p, x.block < W.heap.size) :
    ∃ L : List ByteArray, IsVals W v (L.map Value.string) ∧ ∀ s ∈ L, s.size ≤ maxLen := by
  obtain ⟨a0, len0, cap0, rfl⟩ := okWide_slice Tryd.underlying24 hv
  obtain ⟨fuel, hf⟩ := h
  rcases open_strs Tryd.underlying24 Tryd.underlying9 (by kernel_rfl) hf with ⟨hcs, _⟩ | ⟨x, l, c, m, S, hcs, _, hl, hm, hmm, _, hcell⟩
  · simp [Value.cells] at hcs
    obtain ⟨rfl, rfl, rfl⟩ := hcs
    exact ⟨[], ⟨none, 0, rfl, by decide, .inl rfl⟩, by simp⟩
  · simp [Value.cells] at hcs
    obtain ⟨rfl, rfl, rfl⟩ := hcs
    have hlm : len0 ≤ m := by rw [hmm]; split <;> omega
    refine ⟨(List.range len0).map S, ⟨some x, cap0, by simp, by simp; omega, vals_of fun i y hy => ?_⟩, ?_⟩
    · have hi : i < len0 := by
        have := (List.getElem?_eq_some_iff.1 hy).1
        simpa using this
      rw [(hcell i (by omega)).1]
      simp only [List.getElem?_map, List.getElem?_range hi, Option.map_some, Option.some.injEq] at hy
      rw [← hy]
    · intro s hs
      obtain ⟨i, hi, rfl⟩ := List.mem_map.1 hs
      exact (hcell i (by have := List.mem_range.1 hi; omega)).2
end Go.Proofs.YthhakjckbnoefaaDoor
