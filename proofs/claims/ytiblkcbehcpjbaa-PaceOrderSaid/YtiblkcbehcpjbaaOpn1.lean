/- Opening arguments of this program's types. -/
import Derived.Test.YtiblkcbehcpjbaaRows
import Derived.Test.YtiblkcbehcpjbaaOpnP
import Derived.Deep.Grids
namespace Go.Proofs.Ytiblkcbehcpjbaa
open Go.Joins Go.ChangeShapes Go.WideShapes Go.RowKit Go.Deep
set_option linter.unusedVariables false
set_option linter.unusedSimpArgs false
theorem cellsStock : Try.prog.cellsOf 35 = 5 := by kernel_rfl

theorem open_stk {H : Type} {enc : TypeId × Value → H} {W : World} {r : Reach} {b0 base : Nat} {sp : Nat → Bool} {held : Bool} {v : Value} {d : DataW H} {p : List MemPlace}
    (hv : Value.okWide Try.prog W r b0 35 v) (h : DataW.Trod enc Try.prog W base sp held 35 v d p) (_lt : ∀ x ∈ p, x.block < W.heap.size) : ∃ s, IsStk v s := by
  obtain ⟨v0, v1, v2, v3, v4, y0, y1, y2, y3, y4, n, rfl, -, -, h0, h1, h2, h3, h4⟩ := open_agg5 Try.underlying35 (by kernel_rfl) cellsStock hv h
  obtain ⟨nm, e0, -, hs⟩ := DataW.trod_string Try.underlying9 h0
  obtain ⟨l, e1, -, wl⟩ := DataW.trod_int Try.underlying3 h1
  obtain ⟨t, e2, -, wt⟩ := DataW.trod_int Try.underlying3 h2
  obtain ⟨a, e3, -, wa⟩ := DataW.trod_int Try.underlying3 h3
  obtain ⟨b, e4, -, wb⟩ := DataW.trod_int Try.underlying3 h4
  simp only [List.cons.injEq, and_true] at e0 e1 e2 e3 e4
  subst e0 e1 e2 e3 e4
  exact ⟨⟨nm, l, t, a, b⟩, rfl, hs, wl, wt, wa, wb⟩

theorem open_ints_vals {H : Type} {enc : TypeId × Value → H} {W : World} {r : Reach} {b0 base : Nat} {sp : Nat → Bool} {held : Bool} {v : Value} {d : DataW H} {p : List MemPlace}
    (hv : Value.okWide Try.prog W r b0 45 v) (h : DataW.Trod enc Try.prog W base sp held 45 v d p) (_lt : ∀ x ∈ p, x.block < W.heap.size) :
    ∃ zs : List Int, IsVals W v (zs.map (Value.int .i64)) ∧ ∀ n ∈ zs, (Lit.int .i64 n).wf = true := by
  obtain ⟨a0, len0, cap0, rfl⟩ := okWide_slice Try.underlying45 hv
  obtain ⟨fuel, hf⟩ := h
  rcases open_ints Try.underlying45 Try.underlying3 (by kernel_rfl) hf with ⟨hcs, _⟩ | ⟨x, l, c, zs, hcs, _, hl, hm, hz, _, hcell, hwz⟩
  · simp [Value.cells] at hcs
    obtain ⟨rfl, rfl, rfl⟩ := hcs
    exact ⟨[], ⟨none, 0, rfl, by decide, .inl rfl⟩, by simp⟩
  · simp [Value.cells] at hcs
    obtain ⟨rfl, rfl, rfl⟩ := hcs
    have hzl : len0 ≤ zs.length := by rw [hz]; split <;> omega
    have hlen : ((zs.take len0).map (Value.int .i64)).length = len0 := by simp; omega
    refine ⟨zs.take len0, ⟨some x, cap0, by rw [hlen], by rw [hlen]; omega, vals_of fun i y hy => ?_⟩, fun n hn => hwz n (List.mem_of_mem_take hn)⟩
    have hi : i < len0 := by
      have := (List.getElem?_eq_some_iff.1 hy).1
      omega
    rw [hcell i (by omega)]
    simp only [List.getElem?_map, List.getElem?_take, if_pos hi] at hy
    rw [List.getElem?_eq_getElem (by omega)] at hy
    simp only [Option.map_some, Option.some.injEq] at hy
    rw [← hy, List.getD_eq_getElem?_getD, List.getElem?_eq_getElem (by omega)]
    rfl

theorem open_bools_vals {H : Type} {enc : TypeId × Value → H} {W : World} {r : Reach} {b0 base : Nat} {held : Bool} {v : Value} {d : DataW H} {p : List MemPlace}
    (hv : Value.okWide Try.prog W r b0 46 v) (h : DataW.Trod enc Try.prog W base (fun _ => true) held 46 v d p) (_lt : ∀ x ∈ p, x.block < W.heap.size) :
    ∃ bs : List Bool, IsVals W v (bs.map Value.bool) := by
  obtain ⟨a0, len0, cap0, rfl⟩ := okWide_slice Try.underlying46 hv
  obtain ⟨fuel, hf⟩ := h
  rcases open_bools Try.underlying46 Try.underlying4 (by kernel_rfl) hf with ⟨hcs, _⟩ | ⟨x, l, c, B, hcs, _, hl, hm, _, hcell⟩
  · simp [Value.cells] at hcs
    obtain ⟨rfl, rfl, rfl⟩ := hcs
    exact ⟨[], ⟨none, 0, rfl, by decide, .inl rfl⟩⟩
  · simp [Value.cells] at hcs
    obtain ⟨rfl, rfl, rfl⟩ := hcs
    refine ⟨(List.range len0).map B, ⟨some x, cap0, by simp, by simp; omega, vals_of fun i y hy => ?_⟩⟩
    have hi : i < len0 := by
      have := (List.getElem?_eq_some_iff.1 hy).1
      simpa using this
    rw [hcell i (by omega)]
    simp only [List.getElem?_map, List.getElem?_range hi, Option.map_some, Option.some.injEq] at hy
    rw [← hy]
end Go.Proofs.Ytiblkcbehcpjbaa
