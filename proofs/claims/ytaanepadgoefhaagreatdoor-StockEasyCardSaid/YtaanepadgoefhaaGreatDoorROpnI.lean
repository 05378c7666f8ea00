/- Opening slices inside other data: of integers; of structs. -/
import Derived.Test.YtaanepadgoefhaaGreatDoorRows
import Derived.Test.YtaanepadgoefhaaGreatDoorB1
import Derived.Deep.Slices
import Derived.Deep.Fields
import Derived.ChangeSame
namespace Go.Proofs.YtaanepadgoefhaaGreatDoor
open Go.Joins Go.ChangeShapes Go.WideShapes Go.RowKit Go.Deep
set_option linter.unusedVariables false
set_option linter.unusedSimpArgs false
section
variable {H : Type} {enc : TypeId × Value → H} {W : World} {base n : Nat} {sp : Nat → Bool} {held : Bool} {v : Value} {y : DataW H × List MemPlace}
theorem trod_ints (h : DataW.trod enc Tryz.prog W base sp held n 28 [v] = some y) :
    ∃ zs : List Int, IsVals W v (zs.map (Value.int .i64)) ∧ ∀ x ∈ zs, (Lit.int .i64 x).wf = true := by
  rcases open_ints Tryz.underlying28 Tryz.underlying3 (by kernel_rfl) h with ⟨hcs, _⟩ | ⟨x, l, c, zs, hcs, _, hl, hm, hz, _, hcell, hwz⟩
  · simp only [List.cons.injEq, and_true] at hcs
    subst hcs
    exact ⟨[], ⟨none, 0, rfl, by simp, .inl rfl⟩, by simp⟩
  · simp only [List.cons.injEq, and_true] at hcs
    subst hcs
    have hzl : l ≤ zs.length := by rw [hz]; split <;> omega
    have hlen : ((zs.take l).map (Value.int .i64)).length = l := by simp; omega
    refine ⟨zs.take l, ⟨some x, c, by rw [hlen], by rw [hlen]; omega, vals_of fun i y hy => ?_⟩, fun n hn => hwz n (List.mem_of_mem_take hn)⟩
    have hi : i < l := by
      have := (List.getElem?_eq_some_iff.1 hy).1
      omega
    rw [hcell i (by omega)]
    simp only [List.getElem?_map, List.getElem?_take, if_pos hi] at hy
    rw [List.getElem?_eq_getElem (by omega)] at hy
    simp only [Option.map_some, Option.some.injEq] at hy
    rw [← hy, List.getD_eq_getElem?_getD, List.getElem?_eq_getElem (by omega)]
    rfl
/-- a slice of elements of sz cells: each element's cells, and its datum -/
theorem trod_rows {t e : TypeId} {sz : Nat} (ht : Tryz.prog.underlying t = some (.slice e)) (hC : Tryz.prog.cellsOf e = sz) (hs : 0 < sz) (h : DataW.trod enc Tryz.prog W base sp held n t [v] = some y) :
    ∃ a l c, v = .slice a l c ∧ l ≤ maxLen ∧ (l = 0 ∨ ∃ b o, a = some ⟨b, o, none⟩ ∧ b < W.heap.size ∧ ∀ i, i < l → ∃ (cs : List Value) (m : Nat) (z : DataW H × List MemPlace), cs.length = sz ∧ (∀ j u, cs[j]? = some u → W.cell? ⟨b, o + i * sz + j, none⟩ = some u) ∧ DataW.trod enc Tryz.prog W base sp held m e cs = some z) := by
  rcases open_slice ht h with ⟨hcs, _⟩ | ⟨a, len, cap, m, k, D, Pl, hcs, hb, hl, hm, hmm, hx, hi⟩
  · simp only [List.cons.injEq, and_true] at hcs
    subst hcs
    exact ⟨none, 0, 0, rfl, by simp, .inl rfl⟩
  · simp only [List.cons.injEq, and_true] at hcs
    subst hcs
    refine ⟨some a, len, cap, rfl, by omega, ?_⟩
    rcases Nat.eq_zero_or_pos len with h0 | h0
    · exact .inl h0
    · right
      have hmle : len ≤ m := by rw [hmm]; split <;> omega
      have key : ∀ i, i < len → ∃ (cs : List Value) (z : DataW H × List MemPlace), cs.length = sz ∧ (∀ j u, cs[j]? = some u → W.cell? (a.add (i * sz + j)) = some u) ∧ DataW.trod enc Tryz.prog W base sp held k e cs = some z := by
        intro i hil
        obtain ⟨cs', hc, ht'⟩ := hi i (by omega)
        rw [hC] at hc
        obtain ⟨_, hcl, hat⟩ := World.cells?_some hc
        refine ⟨cs', _, by omega, fun j u hj => ?_, ht'⟩
        have hjl : j < cs'.length := (List.getElem?_eq_some_iff.1 hj).1
        rw [← Go.Deep.add_add, hat j (by omega), hj]
      obtain ⟨cs0, -, hl0, h00, -⟩ := key 0 h0
      have hc0 : W.cell? (a.add (0 * sz + 0)) = some (cs0[0]'(by omega)) := h00 0 _ (List.getElem?_eq_getElem (by omega))
      obtain ⟨b, off, spot⟩ := a
      have hc0' : W.cell? (⟨b, off, spot⟩ : Addr) = some (cs0[0]'(by omega)) := by simpa [Addr.add] using hc0
      have hspot : spot = none := by simpa using World.cell?_spot hc0'
      subst hspot
      have hp : ∀ j, (⟨b, off, none⟩ : Addr).add j = ⟨b, off + j, none⟩ := fun j => Go.WideShapes.add_plain _ _ _
      refine ⟨b, off, rfl, cell_lt hc0', fun i hil => ?_⟩
      obtain ⟨cs, z, h1, h2, h3⟩ := key i hil
      exact ⟨cs, k, z, h1, fun j u hj => by have := h2 j u hj; rw [hp] at this; rw [show off + i * sz + j = off + (i * sz + j) from by omega]; exact this, h3⟩
end
end Go.Proofs.YtaanepadgoefhaaGreatDoor
