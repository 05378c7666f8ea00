/- Opening a body. -/
import Derived.Test.YtaanepadgoefhaaGreatDoorRows
import Derived.Test.YtaanepadgoefhaaGreatDoorROpnI
import Derived.Test.YtaanepadgoefhaaGreatDoorB10
namespace Go.Proofs.YtaanepadgoefhaaGreatDoor
open Go.Joins Go.ChangeShapes Go.WideShapes Go.RowKit Go.Deep
set_option linter.unusedVariables false
set_option linter.unusedSimpArgs false
theorem cellsBody : Tryz.prog.cellsOf 33 = 5 := by kernel_rfl
/-- a list of what there is for each index -/
theorem list_of {α : Type} {n : Nat} {Q : Nat → α → Prop} (h : ∀ i, i < n → ∃ x, Q i x) : ∃ L : List α, L.length = n ∧ ∀ i (hi : i < L.length), Q i L[i] := by
  induction n with
  | zero => exact ⟨[], rfl, fun i hi => absurd hi (by simp)⟩
  | succ n ih =>
    obtain ⟨L, hl, hL⟩ := ih fun i hi => h i (by omega)
    obtain ⟨x, hx⟩ := h n (by omega)
    refine ⟨L ++ [x], by simp [hl], fun i hi => ?_⟩
    by_cases e : i < L.length
    · rw [List.getElem_append_left e]; exact hL i e
    · have : i = n := by simp at hi; omega
      subst this
      rw [List.getElem_append_right (by omega)]
      simp [hl]
      exact hx
section
variable {H : Type} {enc : TypeId × Value → H} {W : World} {base n : Nat} {sp : Nat → Bool} {held : Bool} {v : Value} {y : DataW H × List MemPlace}

set_option maxRecDepth 100000 in
theorem trod_prt {cs : List Value} (h : DataW.trod enc Tryz.prog W base sp held n 68 cs = some y) : ∃ x : Prt, cs = x.cs ∧ PrtOk x := by
  obtain ⟨xs, m, _, _, hc, hx, hg⟩ := DataW.trod_struct Tryz.underlying68 h
  have hl : cs.length = 2 := hc.trans (by kernel_rfl)
  have h0 := hg 0 _ rfl
  have h1 := hg 1 _ rfl
  have hxl : xs.length = 2 := hx
  match cs, hl, xs, hxl with
  | [c0, c1], _, [y0, y1], _ =>
    obtain ⟨a, e0, -, wa⟩ := DataW.trod_int (x := y0) Tryz.underlying3 (by simpa [int_cells] using h0)
    obtain ⟨b, e1, -, wb⟩ := DataW.trod_int (x := y1) Tryz.underlying3 (by simpa [int_cells] using h1)
    simp only [List.cons.injEq, and_true] at e0 e1
    subst e0 e1
    exact ⟨⟨a, b⟩, rfl, wa, wb⟩
set_option maxRecDepth 100000 in
theorem trod_prts (h : DataW.trod enc Tryz.prog W base sp held n 31 [v] = some y) : ∃ l : List Prt, IsPrts W v l ∧ ∀ x ∈ l, PrtOk x := by
  obtain ⟨a, l, c, rfl, hm, hx⟩ := trod_rows (sz := 2) Tryz.underlying31 prt_cells (by omega) h
  rcases hx with rfl | ⟨b, o, rfl, hb, hi⟩
  · exact ⟨[], ⟨a, c, rfl, hm, .inl rfl⟩, by simp⟩
  · have key : ∀ i, i < l → ∃ x : Prt, (∀ j, j < 2 → W.cell? ⟨b, o + i * 2 + j, none⟩ = some (x.c j)) ∧ PrtOk x := by
      intro i hil
      obtain ⟨cs, m, z, hl, hc, ht⟩ := hi i hil
      obtain ⟨x, rfl, hok⟩ := trod_prt ht
      refine ⟨x, fun j hj => ?_, hok⟩
      match j, hj with
      | 0, _ => exact hc 0 _ rfl
      | 1, _ => exact hc 1 _ rfl
    obtain ⟨L, hL, hP⟩ := list_of key
    refine ⟨L, ⟨some ⟨b, o, none⟩, c, by rw [hL], by rw [hL]; exact hm, .inr ⟨b, o, rfl, hb, fun i j hi hj => ?_⟩⟩, fun x hx => ?_⟩
    · show _ = some ((L.getD i default).c j)
      rw [getD_at _ _ hi]
      exact (hP i hi).1 j hj
    · obtain ⟨i, hi, rfl⟩ := List.getElem_of_mem hx
      exact (hP i hi).2
end
set_option maxRecDepth 100000 in
theorem open_bdy {H : Type} {enc : TypeId × Value → H} {W : World} {r : Reach} {b0 base : Nat} {sp : Nat → Bool} {held : Bool} {v : Value} {d : DataW H} {p : List MemPlace}
    (hv : Value.okWide Tryz.prog W r b0 33 v) (h : DataW.Trod enc Tryz.prog W base sp held 33 v d p) (_lt : ∀ x ∈ p, x.block < W.heap.size) :
    ∃ B : Bdy, IsBdy W v B ∧ (∀ x ∈ B.trail, PrtOk x) ∧ I64 B.mode ∧ I64 B.left ∧ I64 B.over ∧ I64 B.v := by
  obtain ⟨v0, v1, v2, v3, v4, y0, y1, y2, y3, y4, n, rfl, -, -, h0, h1, h2, h3, h4⟩ := open_agg5 Tryz.underlying33 (by kernel_rfl) cellsBody hv h
  obtain ⟨m, e0, -, w0⟩ := DataW.trod_int Tryz.underlying3 h0
  obtain ⟨l, e2, -, w2⟩ := DataW.trod_int Tryz.underlying3 h2
  obtain ⟨o, e3, -, w3⟩ := DataW.trod_int Tryz.underlying3 h3
  obtain ⟨s, e4, -, w4⟩ := DataW.trod_int Tryz.underlying3 h4
  obtain ⟨T, hT, hok⟩ := trod_prts h1
  simp only [List.cons.injEq, and_true] at e0 e2 e3 e4
  subst e0 e2 e3 e4
  obtain ⟨a, c, rfl, -⟩ := id hT
  exact ⟨⟨m, T, l, o, s⟩, ⟨a, c, rfl, hT⟩, hok, w0, w2, w3, w4⟩
end Go.Proofs.YtaanepadgoefhaaGreatDoor
