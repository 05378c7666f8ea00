/- OpnL: Opening a plan.
OpnT: Opening a port. -/
import Derived.Test.YtjblplflgiibdaaDoorRows
import Derived.Test.YtjblplflgiibdaaDoorB21
import Derived.Test.YtjblplflgiibdaaDoorB2
import Derived.Lib.SmallJoins
namespace Go.Proofs.YtjblplflgiibdaaDoor
open Go.Joins Go.ChangeShapes Go.WideShapes Go.RowKit Go.Deep
set_option linter.unusedVariables false
set_option linter.unusedSimpArgs false
theorem cellsPlan : Tryd.prog.cellsOf 27 = 9 := by kernel_rfl
theorem cellsElem : Tryd.prog.cellsOf 47 = 3 := by kernel_rfl
theorem cellsJoin : Tryd.prog.cellsOf 56 = 4 := by kernel_rfl
theorem cellsSignal : Tryd.prog.cellsOf 49 = 4 := by kernel_rfl
theorem cellsLine : Tryd.prog.cellsOf 45 = 2 := by kernel_rfl
theorem cells1 : Tryd.prog.cellsOf 3 = 1 ∧ Tryd.prog.cellsOf 9 = 1 ∧ Tryd.prog.cellsOf 4 = 1 ∧ Tryd.prog.cellsOf 43 = 1 ∧ Tryd.prog.cellsOf 22 = 1 ∧ Tryd.prog.cellsOf 23 = 1 ∧ Tryd.prog.cellsOf 24 = 1 ∧ Tryd.prog.cellsOf 25 = 1 := by
  refine ⟨?_, ?_, ?_, ?_, ?_, ?_, ?_, ?_⟩ <;> kernel_rfl
section
variable {H : Type} {enc : TypeId × Value → H} {W : World} {base n : Nat} {sp : Nat → Bool} {held : Bool} {v : Value} {y : DataW H × List MemPlace}
set_option maxRecDepth 100000 in
theorem trod_ele {cs : List Value} (h : DataW.trod enc Tryd.prog W base sp held n 47 cs = some y) : ∃ e : Ele, cs = [.string e.n, .int .i64 e.k, .int .i64 e.l] ∧ I64 e.k ∧ I64 e.l ∧ e.n.size ≤ maxLen := by
  obtain ⟨xs, m, _, _, hc, hx, hg⟩ := DataW.trod_struct Tryd.underlying47 h
  have hl : cs.length = 3 := hc.trans cellsElem
  obtain ⟨ci, cstr, -⟩ := cells1
  have h0 := hg 0 _ rfl
  have h1 := hg 1 _ rfl
  have h2 := hg 2 _ rfl
  have hxl : xs.length = 3 := hx
  match cs, hl, xs, hxl with
  | [c0, c1, c2], _, [y0, y1, y2], _ =>
    obtain ⟨nm, e0, -, ws⟩ := DataW.trod_string (x := y0) Tryd.underlying9 (by simpa [cstr] using h0)
    obtain ⟨a, e1, -, wa⟩ := DataW.trod_int (x := y1) Tryd.underlying3 (by simpa [ci] using h1)
    obtain ⟨b, e2, -, wb⟩ := DataW.trod_int (x := y2) Tryd.underlying3 (by simpa [ci] using h2)
    simp only [List.cons.injEq, and_true] at e0 e1 e2
    subst e0 e1 e2
    exact ⟨⟨nm, a, b⟩, rfl, wa, wb, ws⟩
set_option maxRecDepth 100000 in
theorem trod_jn {cs : List Value} (h : DataW.trod enc Tryd.prog W base sp held n 56 cs = some y) : ∃ j : Jn, cs = [.int .i64 j.a.e, .int .i64 j.a.x, .int .i64 j.b.e, .int .i64 j.b.x] ∧ PrtOk j.a ∧ PrtOk j.b := by
  obtain ⟨xs, m, _, _, hc, hx, hg⟩ := DataW.trod_struct Tryd.underlying56 h
  have hl : cs.length = 4 := hc.trans cellsJoin
  have h0 := hg 0 _ rfl
  have h1 := hg 1 _ rfl
  have hxl : xs.length = 2 := hx
  match cs, hl, xs, hxl with
  | [c0, c1, c2, c3], _, [y0, y1], _ =>
    obtain ⟨a, e0, wa⟩ := trod_prt (y := y0) (cs := [c0, c1]) (by simpa [prt_cells] using h0)
    obtain ⟨b, e1, wb⟩ := trod_prt (y := y1) (cs := [c2, c3]) (by simpa [prt_cells] using h1)
    unfold Prt.cs at e0 e1
    simp only [List.cons.injEq, and_true] at e0 e1
    obtain ⟨rfl, rfl⟩ := e0
    obtain ⟨rfl, rfl⟩ := e1
    exact ⟨⟨a, b⟩, rfl, wa, wb⟩
set_option maxRecDepth 100000 in
theorem trod_sg {cs : List Value} (h : DataW.trod enc Tryd.prog W base sp held n 49 cs = some y) : ∃ s : Sg, cs = [.string s.n, .int .i64 s.at_.e, .int .i64 s.at_.x, .bool s.auto] ∧ PrtOk s.at_ ∧ s.n.size ≤ maxLen := by
  obtain ⟨xs, m, _, _, hc, hx, hg⟩ := DataW.trod_struct Tryd.underlying49 h
  have hl : cs.length = 4 := hc.trans cellsSignal
  obtain ⟨ci, cstr, cb, -⟩ := cells1
  have h0 := hg 0 _ rfl
  have h1 := hg 1 _ rfl
  have h2 := hg 2 _ rfl
  have hxl : xs.length = 3 := hx
  match cs, hl, xs, hxl with
  | [c0, c1, c2, c3], _, [y0, y1, y2], _ =>
    obtain ⟨nm, e0, -, ws⟩ := DataW.trod_string (x := y0) Tryd.underlying9 (by simpa [cstr] using h0)
    obtain ⟨a, e1, wa⟩ := trod_prt (y := y1) (cs := [c1, c2]) (by simpa [prt_cells] using h1)
    obtain ⟨b, e2, -⟩ := DataW.trod_bool (x := y2) Tryd.underlying4 (by simpa [cb] using h2)
    unfold Prt.cs at e1
    simp only [List.cons.injEq, and_true] at e0 e1 e2
    obtain ⟨rfl, rfl⟩ := e1
    subst e0 e2
    exact ⟨⟨nm, a, b⟩, rfl, wa, ws⟩
set_option maxRecDepth 100000 in
theorem trod_ln {cs : List Value} (h : DataW.trod enc Tryd.prog W base sp held n 45 cs = some y) : ∃ (l : Ln) (u : Value), cs = [.string l.n, u] ∧ IsVals W u (l.es.map (Value.int .i64)) ∧ l.n.size ≤ maxLen ∧ ∀ e ∈ l.es, I64 e := by
  obtain ⟨xs, m, _, _, hc, hx, hg⟩ := DataW.trod_struct Tryd.underlying45 h
  have hl : cs.length = 2 := hc.trans cellsLine
  obtain ⟨ci, cstr, cb, cs1, -⟩ := cells1
  have h0 := hg 0 _ rfl
  have h1 := hg 1 _ rfl
  have hxl : xs.length = 2 := hx
  match cs, hl, xs, hxl with
  | [c0, c1], _, [y0, y1], _ =>
    obtain ⟨nm, e0, -, ws⟩ := DataW.trod_string (x := y0) Tryd.underlying9 (by simpa [cstr] using h0)
    obtain ⟨zs, hz, wz⟩ := trod_ints (y := y1) (v := c1) (by simpa [cs1] using h1)
    simp only [List.cons.injEq, and_true] at e0
    subst e0
    exact ⟨⟨nm, zs⟩, c1, rfl, hz, ws, wz⟩
theorem trod_rowL {α : Type} {t e : TypeId} {sz : Nat} {C : α → Nat → Value} {Q : α → Prop} (ht : Tryd.prog.underlying t = some (.slice e)) (hC : Tryd.prog.cellsOf e = sz) (hs : 0 < sz) (h : DataW.trod enc Tryd.prog W base sp held n t [v] = some y)
    (hel : ∀ (cs : List Value) (m : Nat) (z : DataW H × List MemPlace), DataW.trod enc Tryd.prog W base sp held m e cs = some z → ∃ x : α, (∀ j, j < sz → cs[j]? = some (C x j)) ∧ Q x) :
    ∃ L : List α, (∀ x ∈ L, Q x) ∧ ∀ (D : Nat → Nat → Value), (∀ i j (hi : i < L.length), D i j = C L[i] j) → IsRow W v sz L.length D := by
  obtain ⟨a, l, c, rfl, hm, hx⟩ := trod_rows ht hC hs h
  rcases hx with rfl | ⟨b, o, rfl, hb, hi⟩
  · exact ⟨[], by simp, fun D _ => ⟨a, c, rfl, hm, .inl rfl⟩⟩
  · have key : ∀ i, i < l → ∃ x : α, (∀ j, j < sz → W.cell? ⟨b, o + i * sz + j, none⟩ = some (C x j)) ∧ Q x := by
      intro i hil
      obtain ⟨cs, m, z, hl, hc, ht'⟩ := hi i hil
      obtain ⟨x, hx, hq⟩ := hel cs m z ht'
      exact ⟨x, fun j hj => hc j _ (hx j hj), hq⟩
    obtain ⟨L, hL, hP⟩ := list_of key
    refine ⟨L, fun x hx => ?_, fun D hD => ⟨some ⟨b, o, none⟩, c, by rw [hL], by rw [hL]; exact hm, .inr ⟨b, o, rfl, hb, fun i j hi hj => ?_⟩⟩⟩
    · obtain ⟨i, hi, rfl⟩ := List.getElem_of_mem hx
      exact (hP i hi).2
    · rw [hD i j hi]; exact (hP i hi).1 j hj
end
set_option maxRecDepth 100000 in
theorem open_pln {H : Type} {enc : TypeId × Value → H} {W : World} {r : Reach} {b0 base : Nat} {sp : Nat → Bool} {held : Bool} {v : Value} {d : DataW H} {p : List MemPlace}
    (hv : Value.okWide Tryd.prog W r b0 27 v) (h : DataW.Trod enc Tryd.prog W base sp held 27 v d p) (_lt : ∀ x ∈ p, x.block < W.heap.size) :
    ∃ P : Pln, IsPln W v P ∧ PlnOk P := by
  obtain ⟨cs, rfl, hsz⟩ := okWide_struct Tryd.underlying27 hv
  obtain ⟨l⟩ := cs
  obtain ⟨ci, cstr, cb, c28, c1, c2, c3, c4⟩ := cells1
  match l, hsz.trans cellsPlan with
  | [v0, v1, v2, v3, v4, v5, v6, v7, v8], _ =>
    obtain ⟨fuel, hf⟩ := h
    obtain ⟨xs, n, _, hx, _, hlen, hg⟩ := DataW.trod_struct Tryd.underlying27 hf
    have h0 := hg 0 _ rfl
    have h1 := hg 1 _ rfl
    have h2 := hg 2 _ rfl
    have h3 := hg 3 _ rfl
    have h4 := hg 4 _ rfl
    have h5 := hg 5 _ rfl
    have h6 := hg 6 _ rfl
    have h7 := hg 7 _ rfl
    have h8 := hg 8 _ rfl
    match xs, hlen with
    | [y0, y1, y2, y3, y4, y5, y6, y7, y8], _ =>
      obtain ⟨E, hE, kE⟩ := trod_rowL (C := fun (e : Ele) j => e.c j) (Q := fun e => I64 e.k ∧ I64 e.l ∧ e.n.size ≤ maxLen) (y := y0) (v := v0) Tryd.underlying22 cellsElem (by omega) (by simpa [Value.cells, c1] using h0) (fun cs m z hz => by
        obtain ⟨e, rfl, q⟩ := trod_ele hz
        exact ⟨e, fun j hj => by match j, hj with | 0, _ => rfl | 1, _ => rfl | 2, _ => rfl, q⟩)
      obtain ⟨J, hJ, kJ⟩ := trod_rowL (C := fun (e : Jn) j => e.c j) (Q := fun e => PrtOk e.a ∧ PrtOk e.b) (y := y1) (v := v1) Tryd.underlying23 cellsJoin (by omega) (by simpa [Value.cells, c2] using h1) (fun cs m z hz => by
        obtain ⟨e, rfl, q⟩ := trod_jn hz
        exact ⟨e, fun j hj => by match j, hj with | 0, _ => rfl | 1, _ => rfl | 2, _ => rfl | 3, _ => rfl, q⟩)
      obtain ⟨S, hS, kS⟩ := trod_rowL (C := fun (e : Sg) j => e.c j) (Q := fun e => PrtOk e.at_ ∧ e.n.size ≤ maxLen) (y := y2) (v := v2) Tryd.underlying24 cellsSignal (by omega) (by simpa [Value.cells, c3] using h2) (fun cs m z hz => by
        obtain ⟨e, rfl, q⟩ := trod_sg hz
        exact ⟨e, fun j hj => by match j, hj with | 0, _ => rfl | 1, _ => rfl | 2, _ => rfl | 3, _ => rfl, q⟩)
      obtain ⟨L, hL, kL⟩ := trod_rowL (C := fun (e : Ln × Value) j => if j = 0 then .string e.1.n else e.2) (Q := fun e => IsVals W e.2 (e.1.es.map (Value.int .i64)) ∧ e.1.n.size ≤ maxLen ∧ ∀ x ∈ e.1.es, I64 x) (y := y3) (v := v3) Tryd.underlying25 cellsLine (by omega) (by simpa [Value.cells, c4] using h3) (fun cs m z hz => by
        obtain ⟨e, u, rfl, q⟩ := trod_ln hz
        exact ⟨(e, u), fun j hj => by match j, hj with | 0, _ => rfl | 1, _ => rfl, q⟩)
      obtain ⟨n4, e4, -, w4⟩ := DataW.trod_int (x := y4) Tryd.underlying3 (by simpa [Value.cells, ci] using h4)
      obtain ⟨n5, e5, -, w5⟩ := DataW.trod_int (x := y5) Tryd.underlying3 (by simpa [Value.cells, ci] using h5)
      obtain ⟨n6, e6, -, w6⟩ := DataW.trod_int (x := y6) Tryd.underlying3 (by simpa [Value.cells, ci] using h6)
      obtain ⟨n7, e7, -, w7⟩ := DataW.trod_int (x := y7) Tryd.underlying3 (by simpa [Value.cells, ci] using h7)
      obtain ⟨n8, e8, -⟩ := DataW.trod_bool (x := y8) Tryd.underlying4 (by simpa [Value.cells, cb] using h8)
      simp only [List.cons.injEq, and_true] at e4 e5 e6 e7 e8
      subst e4 e5 e6 e7 e8
      have rE : IsEles W v0 E := kE _ (fun i j hi => by rw [getD_at _ _ hi])
      have rJ : IsJns W v1 J := kJ _ (fun i j hi => by rw [getD_at _ _ hi])
      have rS : IsSgs W v2 S := kS _ (fun i j hi => by rw [getD_at _ _ hi])
      have rL : IsLns W v3 (L.map (·.1)) := by
        refine ⟨fun i => (L.getD i (default, .slice none 0 0)).2, ?_, fun i hi => ?_⟩
        · have := kL (fun i j => if j = 0 then .string ((L.map (fun z : Ln × Value => z.1)).getD i default).n else (L.getD i (default, .slice none 0 0)).2) (fun i j hi => by
            have e1 : (L.map (·.1)).getD i default = L[i].1 := by rw [List.getD_eq_getElem?_getD, List.getElem?_map, List.getElem?_eq_getElem hi]; rfl
            have e2 : L.getD i (default, .slice none 0 0) = L[i] := by rw [List.getD_eq_getElem?_getD, List.getElem?_eq_getElem hi]; rfl
            rw [e1, e2])
          simpa using this
        · have hi' : i < L.length := by simpa using hi
          have e1 : (L.map (·.1)).getD i default = L[i].1 := by rw [List.getD_eq_getElem?_getD, List.getElem?_map, List.getElem?_eq_getElem hi']; rfl
          have e2 : L.getD i (default, .slice none 0 0) = L[i] := by rw [List.getD_eq_getElem?_getD, List.getElem?_eq_getElem hi']; rfl
          show IsVals W (L.getD i (default, .slice none 0 0)).2 _
          rw [e1, e2]
          exact (hL _ (List.getElem_mem hi')).1
      obtain ⟨a1, q1, rfl, -⟩ := id rE
      obtain ⟨a2, q2, rfl, -⟩ := id rJ
      obtain ⟨a3, q3, rfl, -⟩ := id rS
      obtain ⟨_, ⟨a4, q4, rfl, -⟩, -⟩ := id rL
      refine ⟨⟨E, J, S, L.map (·.1), n4, n5, n6, n7, n8⟩, ⟨a1, q1, a2, q2, a3, q3, a4, q4, rfl, rE, rJ, rS, rL⟩, hE, fun j hj => ?_, fun s hs => ?_, fun x hx => ?_, w4, w5, w6, w7⟩
      · have := hJ j hj; exact ⟨this.1.1, this.1.2, this.2.1, this.2.2⟩
      · have := hS s hs; exact ⟨this.1.1, this.1.2, this.2⟩
      · obtain ⟨z, hz, rfl⟩ := List.mem_map.1 hx
        exact (hL z hz).2
end Go.Proofs.YtjblplflgiibdaaDoor
namespace Go.Proofs.YtjblplflgiibdaaDoor
open Go.Joins Go.ChangeShapes Go.WideShapes Go.RowKit Go.Deep
set_option linter.unusedVariables false
set_option linter.unusedSimpArgs false
theorem cellsPort : Tryd.prog.cellsOf 29 = 2 := by kernel_rfl
set_option maxRecDepth 100000 in
theorem open_prt {H : Type} {enc : TypeId × Value → H} {W : World} {r : Reach} {b0 base : Nat} {sp : Nat → Bool} {held : Bool} {v : Value} {d : DataW H} {p : List MemPlace}
    (hv : Value.okWide Tryd.prog W r b0 29 v) (h : DataW.Trod enc Tryd.prog W base sp held 29 v d p) (_lt : ∀ x ∈ p, x.block < W.heap.size) :
    ∃ x : Prt, v = .agg #[.int .i64 x.e, .int .i64 x.x] ∧ PrtOk x := by
  obtain ⟨v0, v1, y0, y1, n, rfl, -, -, h0, h1⟩ := open_agg2 Tryd.underlying29 (by kernel_rfl) cellsPort hv h
  obtain ⟨a, e0, -, wa⟩ := DataW.trod_int Tryd.underlying3 h0
  obtain ⟨b, e1, -, wb⟩ := DataW.trod_int Tryd.underlying3 h1
  simp only [List.cons.injEq, and_true] at e0 e1
  subst e0 e1
  exact ⟨⟨a, b⟩, rfl, wa, wb⟩
end Go.Proofs.YtjblplflgiibdaaDoor
