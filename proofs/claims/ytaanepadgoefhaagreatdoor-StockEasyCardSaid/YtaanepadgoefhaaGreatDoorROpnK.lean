/- Opening a slice of kinds of trains. -/
import Derived.Test.YtaanepadgoefhaaGreatDoorRows
import Derived.Test.YtaanepadgoefhaaGreatDoorROpnI
import Derived.Test.YtaanepadgoefhaaGreatDoorROpnB
import Derived.Test.YtaanepadgoefhaaGreatDoorRStQ
namespace Go.Proofs.YtaanepadgoefhaaGreatDoor
open Go.Joins Go.ChangeShapes Go.WideShapes Go.RowKit Go.Deep
set_option linter.unusedVariables false
set_option linter.unusedSimpArgs false
section
variable {H : Type} {enc : TypeId × Value → H} {W : World} {base n : Nat} {sp : Nat → Bool} {held : Bool} {v : Value} {y : DataW H × List MemPlace}
theorem stk_cells : Tryz.prog.cellsOf 30 = 5 := by kernel_rfl
theorem trod_cap {t e : TypeId} (ht : Tryz.prog.underlying t = some (.slice e)) (h : DataW.trod enc Tryz.prog W base sp held n t [v] = some y) : CapOk v := by
  rcases open_slice ht h with ⟨hcs, _⟩ | ⟨a, len, cap, m, k, D, Pl, hcs, hb, hl, hm, hmm, hx, hi⟩
  · simp only [List.cons.injEq, and_true] at hcs
    subst hcs
    intro a n c e; cases e; omega
  · simp only [List.cons.injEq, and_true] at hcs
    subst hcs
    intro a n c e; cases e; exact hl
set_option maxRecDepth 100000 in
theorem trod_stk {cs : List Value} (h : DataW.trod enc Tryz.prog W base sp held n 30 cs = some y) : ∃ s : Stk, cs = s.cs ∧ StkOk s := by
  obtain ⟨xs, m, _, _, hc, hx, hg⟩ := DataW.trod_struct Tryz.underlying30 h
  have hl : cs.length = 5 := hc.trans (by kernel_rfl)
  have cs9 : Tryz.prog.cellsOf 9 = 1 := by kernel_rfl
  have h0 := hg 0 _ rfl
  have h1 := hg 1 _ rfl
  have h2 := hg 2 _ rfl
  have h3 := hg 3 _ rfl
  have h4 := hg 4 _ rfl
  have hxl : xs.length = 5 := hx
  match cs, hl, xs, hxl with
  | [c0, c1, c2, c3, c4], _, [y0, y1, y2, y3, y4], _ =>
    obtain ⟨nm, e0, -, hs⟩ := DataW.trod_string (x := y0) Tryz.underlying9 (by simpa [int_cells, cs9] using h0)
    obtain ⟨l, e1, -, wl⟩ := DataW.trod_int (x := y1) Tryz.underlying3 (by simpa [int_cells, cs9] using h1)
    obtain ⟨t, e2, -, wt⟩ := DataW.trod_int (x := y2) Tryz.underlying3 (by simpa [int_cells, cs9] using h2)
    obtain ⟨a, e3, -, wa⟩ := DataW.trod_int (x := y3) Tryz.underlying3 (by simpa [int_cells, cs9] using h3)
    obtain ⟨b, e4, -, wb⟩ := DataW.trod_int (x := y4) Tryz.underlying3 (by simpa [int_cells, cs9] using h4)
    simp only [List.cons.injEq, and_true] at e0 e1 e2 e3 e4
    subst e0 e1 e2 e3 e4
    exact ⟨⟨nm, l, t, a, b⟩, rfl, hs, wl, wt, wa, wb⟩
set_option maxRecDepth 100000 in
theorem trod_stks (h : DataW.trod enc Tryz.prog W base sp held n 51 [v] = some y) : ∃ l : List Stk, IsStks W v l ∧ ∀ x ∈ l, StkOk x := by
  have hcap := trod_cap Tryz.underlying51 h
  obtain ⟨a, l, c, rfl, hm, hx⟩ := trod_rows (sz := 5) Tryz.underlying51 stk_cells (by omega) h
  rcases hx with rfl | ⟨b, o, rfl, hb, hi⟩
  · exact ⟨[], ⟨⟨a, c, rfl, hm, .inl rfl⟩, hcap⟩, by simp⟩
  · have key : ∀ i, i < l → ∃ x : Stk, (∀ j, j < 5 → W.cell? ⟨b, o + i * 5 + j, none⟩ = some (x.c j)) ∧ StkOk x := by
      intro i hil
      obtain ⟨cs, m, z, hl, hc, ht⟩ := hi i hil
      obtain ⟨x, rfl, hok⟩ := trod_stk ht
      refine ⟨x, fun j hj => ?_, hok⟩
      match j, hj with
      | 0, _ => exact hc 0 _ rfl
      | 1, _ => exact hc 1 _ rfl
      | 2, _ => exact hc 2 _ rfl
      | 3, _ => exact hc 3 _ rfl
      | 4, _ => exact hc 4 _ rfl
    obtain ⟨L, hL, hP⟩ := list_of key
    refine ⟨L, ⟨⟨some ⟨b, o, none⟩, c, by rw [hL], by rw [hL]; exact hm, .inr ⟨b, o, rfl, hb, fun i j hi hj => ?_⟩⟩, hcap⟩, fun x hx => ?_⟩
    · show _ = some ((L.getD i default).c j)
      rw [getD_at _ _ hi]
      exact (hP i hi).1 j hj
    · obtain ⟨i, hi, rfl⟩ := List.getElem_of_mem hx
      exact (hP i hi).2
end
set_option maxRecDepth 100000 in
theorem open_stks {H : Type} {enc : TypeId × Value → H} {W : World} {r : Reach} {b0 base : Nat} {sp : Nat → Bool} {held : Bool} {v : Value} {d : DataW H} {p : List MemPlace}
    (hv : Value.okWide Tryz.prog W r b0 51 v) (h : DataW.Trod enc Tryz.prog W base sp held 51 v d p) (_lt : ∀ x ∈ p, x.block < W.heap.size) :
    ∃ l : List Stk, IsStks W v l ∧ ∀ x ∈ l, StkOk x := by
  obtain ⟨a0, len0, cap0, rfl⟩ := okWide_slice Tryz.underlying51 hv
  obtain ⟨fuel, hf⟩ := h
  exact trod_stks (by simpa [Value.cells] using hf)
end Go.Proofs.YtaanepadgoefhaaGreatDoor
