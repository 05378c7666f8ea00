/- TwnP: net.twin: what its walk carries.
Twn: net.twin.
MapE: 'm[k], .. = v, ..': an entry is made, then filled: over a map as a function. No program.
NewP: net.New: what its walk carries; what a net is.
NewQ: net.New: the plain rounds. -/
import Derived.Test.YtaanepadgoefhaaGreatDoorRows
import Derived.Test.YtaanepadgoefhaaGreatDoorB8
import Derived.Test.YtaanepadgoefhaaGreatDoorB3
import Derived.Deep.RegionWith
import Derived.Deep.Cut
import Derived.Deep.DrawnRows
import Derived.Test.YtaanepadgoefhaaGreatDoorB1
import Derived.WideKeyEntry
import Derived.Test.YtaanepadgoefhaaGreatDoorB2
import Derived.Test.YtaanepadgoefhaaGreatDoorB6
import Derived.Test.YtaanepadgoefhaaGreatDoorB7
import Derived.OpenShut
namespace Go.Proofs.YtaanepadgoefhaaGreatDoor
open Go.ChangeShapes Go.WideShapes Go.ChangeAt Go.RowKit
set_option linter.unusedVariables false
set_option linter.unusedSimpArgs false
attribute [local go_sem ↓] Go.wp_at_zero Go.wp_at_succ
theorem ele_one (e : Ele) (j : Nat) : (e.c j).oneCell' = true := by unfold Ele.c; split; · rfl
                                                                    · split <;> rfl
theorem jn_one (q : Jn) (j : Nat) : (q.c j).oneCell' = true := by
  unfold Jn.c
  split; · rfl
  split; · rfl
  split <;> rfl
theorem sg_one (q : Sg) (j : Nat) : (q.c j).oneCell' = true := by
  unfold Sg.c
  split; · rfl
  split; · rfl
  split <;> rfl
/-- a block of nine cells that may be written -/
def Free9 (w : World) (b : Nat) : Prop := ∀ o, o < 9 → w.frozen? ⟨b, o, none⟩ = false
theorem Free9.gr {w w' : World} {b : Nat} (h : Free9 w b) (g : Gr w w') (hb : b < w.heap.size) : Free9 w' b := fun o ho => by rw [g.frozen _ _ hb]; exact h o ho
theorem Free9.set {w : World} {b : Nat} (h : Free9 w b) (p : Addr) (v : Value) : Free9 (w.setCell p v) b := fun o ho => by rw [World.frozen?_setCell]; exact h o ho
theorem Free9.new (w : World) (x : Array Value) (t : TypeId) : Free9 (w.alloc (.cells x t)) w.heap.size := fun o ho => by simp
theorem own_form {w : World} {B : Nat} {e : TypeId} {sz n : Nat} {v : Value} {xs : List Value} (h : w.ownsRow B e sz v n xs) : ∃ a c, v = .slice a n c := by
  rcases h.2 with ⟨rfl, h0⟩ | ⟨g, cap, cur, rfl, _⟩
  · subst h0; exact ⟨_, _, rfl⟩
  · exact ⟨_, _, rfl⟩
/-- a row in a block between two numbers -/
def IsRowI (lo hi : Nat) (w : World) (v : Value) (sz n : Nat) (C : Nat → Nat → Value) : Prop :=
  ∃ a c, v = .slice a n c ∧ n ≤ maxLen ∧ (n = 0 ∨ ∃ b o, a = some ⟨b, o, none⟩ ∧ lo ≤ b ∧ b < hi ∧ b < w.heap.size ∧ ∀ i j, i < n → j < sz → w.cell? ⟨b, o + i * sz + j, none⟩ = some (C i j))
theorem IsRowI.row {lo hi : Nat} {w : World} {v : Value} {sz n : Nat} {C : Nat → Nat → Value} (h : IsRowI lo hi w v sz n C) : IsRow w v sz n C := by
  obtain ⟨a, c, e, hm, hx⟩ := h
  refine ⟨a, c, e, hm, ?_⟩
  rcases hx with h | ⟨b, o, h1, -, -, h2, h3⟩
  · exact .inl h
  · exact .inr ⟨b, o, h1, h2, h3⟩
theorem IsRowI.keep {lo hi : Nat} {w w' : World} {v : Value} {sz n : Nat} {C : Nat → Nat → Value} (h : IsRowI lo hi w v sz n C) (hs : w.heap.size ≤ w'.heap.size) (hc : ∀ b o, lo ≤ b → b < hi → b < w.heap.size → w'.cell? ⟨b, o, none⟩ = w.cell? ⟨b, o, none⟩) : IsRowI lo hi w' v sz n C := by
  obtain ⟨a, c, e, hm, hx⟩ := h
  refine ⟨a, c, e, hm, ?_⟩
  rcases hx with h | ⟨b, o, h1, h2, h3, h4, h5⟩
  · exact .inl h
  · exact .inr ⟨b, o, h1, h2, h3, Nat.lt_of_lt_of_le h4 hs, fun i j hi hj => by rw [hc _ _ h2 h3 h4]; exact h5 i j hi hj⟩
/-- what the first statement of twin leaves -/
def Tw1 (w : World) (P : Pln) (l : Value) (wc : World) : Prop :=
  ∃ v1 v2 v3, Gr w wc ∧ PBox wc w.heap.size P v1 v2 v3 l ∧ Free9 wc w.heap.size ∧ w.heap.size + 1 < wc.heap.size ∧ (∀ o, o < 9 → ∃ u, wc.cell? ⟨w.heap.size + 1, o, none⟩ = some u) ∧ Free9 wc (w.heap.size + 1) ∧
    IsRowI (w.heap.size + 2) wc.heap.size wc v1 3 P.es.length (fun i j => (P.es.getD i default).c j) ∧ IsRowI (w.heap.size + 2) wc.heap.size wc v2 4 P.js.length (fun i j => (P.js.getD i default).c j) ∧ IsRowI (w.heap.size + 2) wc.heap.size wc v3 4 P.ss.length (fun i j => (P.ss.getD i default).c j)
theorem set3_cell {w : World} {b : Nat} {u0 u1 u2 v0 v1 v2 : Value} (h0 : w.cell? ⟨b, 0, none⟩ = some u0) (h1 : w.cell? ⟨b, 1, none⟩ = some u1) (h2 : w.cell? ⟨b, 2, none⟩ = some u2) :
    let w' := ((w.setCell ⟨b, 0, none⟩ v0).setCell ⟨b, 1, none⟩ v1).setCell ⟨b, 2, none⟩ v2
    w'.cell? ⟨b, 0, none⟩ = some v0 ∧ w'.cell? ⟨b, 1, none⟩ = some v1 ∧ w'.cell? ⟨b, 2, none⟩ = some v2 ∧ (∀ o, 3 ≤ o → w'.cell? ⟨b, o, none⟩ = w.cell? ⟨b, o, none⟩) ∧ (∀ b' o, b' ≠ b → w'.cell? ⟨b', o, none⟩ = w.cell? ⟨b', o, none⟩) ∧ (∀ p, w'.frozen? p = w.frozen? p) ∧ w'.heap.size = w.heap.size := by
  have n01 : (⟨b, 1, none⟩ : Addr) ≠ ⟨b, 0, none⟩ := by simp
  refine ⟨?_, ?_, World.cell?_setCell_same _ _ _ ((World.cell?_setCell_other _ _ _ _ (by simp)).trans ((World.cell?_setCell_other _ _ _ _ (by simp)).trans h2)), fun o ho => ?_, fun b' o hb => ?_, fun p => ?_, by simp⟩
  · exact (World.cell?_setCell_other _ _ _ _ (by simp)).trans ((World.cell?_setCell_other _ _ _ _ (by simp)).trans (World.cell?_setCell_same _ _ _ h0))
  · exact (World.cell?_setCell_other _ _ _ _ (by simp)).trans (World.cell?_setCell_same _ _ _ ((World.cell?_setCell_other _ _ _ _ (by simp)).trans h1))
  · rw [World.cell?_setCell_other _ _ _ _ (by intro e; injection e with _ e2; omega), World.cell?_setCell_other _ _ _ _ (by intro e; injection e with _ e2; omega), World.cell?_setCell_other _ _ _ _ (by intro e; injection e with _ e2; omega)]
  · rw [World.cell?_setCell_other _ _ _ _ (by intro e; injection e with e2 _; exact hb e2.symm), World.cell?_setCell_other _ _ _ _ (by intro e; injection e with e2 _; exact hb e2.symm), World.cell?_setCell_other _ _ _ _ (by intro e; injection e with e2 _; exact hb e2.symm)]
  · rw [World.frozen?_setCell, World.frozen?_setCell, World.frozen?_setCell]
theorem own_base_le {w : World} {B B' : Nat} {e : TypeId} {sz n : Nat} {v : Value} {xs : List Value} (h : w.ownsRow B e sz v n xs) (hb : B' ≤ B) : w.ownsRow B' e sz v n xs := by
  refine ⟨h.1, ?_⟩
  rcases h.2 with h | ⟨g, cap, cur, hv, hg, rest⟩
  · exact .inl h
  · exact .inr ⟨g, cap, cur, hv, Nat.le_trans hb hg, rest⟩
theorem own_row_far {w w' : World} {B b : Nat} {e : TypeId} {sz n : Nat} {v : Value} {C : Nat → Nat → Value} (h : w.ownsRow B e sz v n (rowL sz n C)) (hl : n ≤ maxLen) (hb : b < B) (hc : ∀ b' o, b' ≠ b → w'.cell? ⟨b', o, none⟩ = w.cell? ⟨b', o, none⟩) (hs : w'.heap.size = w.heap.size) : IsRowI B w'.heap.size w' v sz n C := by
  have hr := own_row h hl
  rcases h.2 with ⟨rfl, h0⟩ | ⟨g, cap, cur, rfl, hg, _⟩
  · subst h0; exact ⟨none, 0, rfl, hl, .inl rfl⟩
  · obtain ⟨a, c, e, hm, hx⟩ := hr
    simp only [Value.slice.injEq, true_and] at e
    obtain ⟨rfl, rfl⟩ := e
    refine ⟨_, _, rfl, hm, ?_⟩
    rcases hx with hx | ⟨b', o, e, hlt, hcc⟩
    · exact .inl hx
    · simp only [Option.some.injEq, Addr.mk.injEq, and_true] at e
      obtain ⟨rfl, rfl⟩ := e
      exact .inr ⟨g, 0, rfl, hg, by rw [hs]; exact hlt, by rw [hs]; exact hlt, fun i j hi hj => by rw [hc _ _ (by omega)]; exact hcc i j hi hj⟩
theorem tw1_mk {w w2 w6 w9 w12 : World} {P : Pln} {l x0 x1 x2 : Value} {v1 v2 v3 : Value} (hW : Gr w w2) (hb : PBox w2 w.heap.size P x0 x1 x2 l) (hf : Free9 w2 w.heap.size) (hs : w2.heap.size = w.heap.size + 2)
    (hc : ∀ o, o < 9 → ∃ u, w2.cell? ⟨w.heap.size + 1, o, none⟩ = some u) (hf2 : Free9 w2 (w.heap.size + 1)) (k6 : Gr w2 w6) (h9 : Gr w6 w9) (h12 : Gr w9 w12)
    (o6 : w6.ownsRow w2.heap.size 103 3 v1 P.es.length (rowL 3 P.es.length fun i j => (P.es.getD i default).c j)) (o9 : w9.ownsRow w6.heap.size 110 4 v2 P.js.length (rowL 4 P.js.length fun i j => (P.js.getD i default).c j))
    (o12 : w12.ownsRow w9.heap.size 105 4 v3 P.ss.length (rowL 4 P.ss.length fun i j => (P.ss.getD i default).c j)) (hn : P.es.length ≤ 1000 ∧ P.js.length ≤ 1000 ∧ P.ss.length ≤ 1000) :
    Tw1 w P l (((w12.setCell ⟨w.heap.size, 0, none⟩ v1).setCell ⟨w.heap.size, 1, none⟩ v2).setCell ⟨w.heap.size, 2, none⟩ v3) := by
  have k12 := (k6.trans h9).trans h12
  obtain ⟨zb, b0, b1, b2, b3, b4, b5, b6, b7, b8⟩ := hb.gr k12
  obtain ⟨c0, c1, c2, c3, c4, c5, c6⟩ := set3_cell (v0 := v1) (v1 := v2) (v2 := v3) b0 b1 b2
  have z6 := k6.size
  have z9 := h9.size
  have z12 := h12.size
  refine ⟨v1, v2, v3, ((((hW.trans k12).setCell (Nat.le_refl _) _).setCell (Nat.le_refl _) _).setCell (Nat.le_refl _) _), ⟨by rw [c6]; exact zb, c0, c1, c2, (c3 3 (by omega)).trans b3, (c3 4 (by omega)).trans b4, (c3 5 (by omega)).trans b5, (c3 6 (by omega)).trans b6, (c3 7 (by omega)).trans b7, (c3 8 (by omega)).trans b8⟩, ?_, by rw [c6]; omega, ?_, ?_, ?_, ?_, ?_⟩
  · intro o ho
    rw [c5]
    exact (hf.gr k12 (by omega)) o ho
  · intro o ho
    obtain ⟨u, hu⟩ := hc o ho
    exact ⟨u, (c4 _ _ (by omega)).trans ((k12.cell _ _ (by omega)).trans hu)⟩
  · intro o ho
    rw [c5]
    exact (hf2.gr k12 (by omega)) o ho
  · exact own_row_far (own_base_le (own_gr o6 (h9.trans h12)) (by omega)) (by unfold maxLen; omega) (by omega) c4 c6
  · exact own_row_far (own_base_le (own_gr o9 h12) (by omega)) (by unfold maxLen; omega) (by omega) c4 c6
  · exact own_row_far (own_base_le o12 (by omega)) (by unfold maxLen; omega) (by omega) c4 c6
/-- only block r has changed -/
def Far (r : Nat) (w w' : World) : Prop := w'.heap.size = w.heap.size ∧ (∀ b o, b ≠ r → w'.cell? ⟨b, o, none⟩ = w.cell? ⟨b, o, none⟩) ∧ ∀ p, w'.frozen? p = w.frozen? p
theorem Far.refl (r : Nat) (w : World) : Far r w w := ⟨rfl, fun _ _ _ => rfl, fun _ => rfl⟩
theorem Far.set {r : Nat} {w w' : World} (h : Far r w w') (o : Nat) (v : Value) : Far r w (w'.setCell ⟨r, o, none⟩ v) :=
  ⟨by simpa using h.1, fun b o' hb => (World.cell?_setCell_other _ _ _ _ (by intro e; injection e with e2 _; exact hb e2.symm)).trans (h.2.1 b o' hb), fun p => by rw [World.frozen?_setCell]; exact h.2.2 p⟩
/-- numbers, that do not lie in g or r -/
def IsValsA (g r : Nat) (w : World) (u : Value) (xs : List Value) : Prop :=
  ∃ (a : Option Addr) (cap : Nat), u = .slice a xs.length cap ∧ xs.length ≤ maxLen ∧ (xs = [] ∨ ∃ b off, a = some ⟨b, off, none⟩ ∧ b ≠ g ∧ b ≠ r ∧ b < w.heap.size ∧ ∀ i x, xs[i]? = some x → w.cell? ⟨b, off + i, none⟩ = some x)
theorem IsValsA.vals {g r : Nat} {w : World} {u : Value} {xs : List Value} (h : IsValsA g r w u xs) : IsVals w u xs := by
  obtain ⟨a, cap, e, hl, hx⟩ := h
  refine ⟨a, cap, e, hl, ?_⟩
  rcases hx with h | ⟨b, o, h1, -, -, h2, h3⟩
  · exact .inl h
  · exact .inr ⟨b, o, h1, h2, h3⟩
theorem IsValsA.keep {g r : Nat} {w w' : World} {u : Value} {xs : List Value} (h : IsValsA g r w u xs) (hs : w.heap.size ≤ w'.heap.size) (hc : ∀ b o, b ≠ g → b ≠ r → b < w.heap.size → w'.cell? ⟨b, o, none⟩ = w.cell? ⟨b, o, none⟩) : IsValsA g r w' u xs := by
  obtain ⟨a, cap, e, hl, hx⟩ := h
  refine ⟨a, cap, e, hl, ?_⟩
  rcases hx with h | ⟨b, o, h1, h4, h5, h2, h3⟩
  · exact .inl h
  · exact .inr ⟨b, o, h1, h4, h5, Nat.lt_of_lt_of_le h2 hs, fun i x hx => by rw [hc _ _ h4 h5 h2]; exact h3 i x hx⟩
theorem IsValsA.low {g r : Nat} {w : World} {u : Value} {xs : List Value} (h : IsVals w u xs) (hg : w.heap.size ≤ g) (hr : w.heap.size ≤ r) : IsValsA g r w u xs := by
  obtain ⟨a, cap, e, hl, hx⟩ := h
  refine ⟨a, cap, e, hl, ?_⟩
  rcases hx with h | ⟨b, o, h1, h2, h3⟩
  · exact .inl h
  · exact .inr ⟨b, o, h1, by omega, by omega, h2, h3⟩
/-- what the loop of twin keeps -/
structure TwL (w : World) (P : Pln) (v1 v2 v3 v4 : Value) (hi g4 : Nat) (wr : World) : Prop where
  gr : Gr w wr
  box : PBox wr w.heap.size P v1 v2 v3 v4
  rs : w.heap.size + 1 < wr.heap.size
  rc : ∀ o, o < 9 → ∃ u, wr.cell? ⟨w.heap.size + 1, o, none⟩ = some u
  rf : Free9 wr (w.heap.size + 1)
  i1 : IsRowI (w.heap.size + 2) hi wr v1 3 P.es.length (fun i j => (P.es.getD i default).c j)
  i2 : IsRowI (w.heap.size + 2) hi wr v2 4 P.js.length (fun i j => (P.js.getD i default).c j)
  i3 : IsRowI (w.heap.size + 2) hi wr v3 4 P.ss.length (fun i j => (P.ss.getD i default).c j)
  hg : w.heap.size + 2 ≤ hi ∧ hi ≤ g4
  v4 : ∃ c, P.ls.length ≤ maxLen ∧ ((P.ls.length = 0 ∧ ∃ a, v4 = .slice a 0 c) ∨ v4 = .slice (some ⟨g4, 0, none⟩) P.ls.length c)
  ln : ∀ i (h : i < P.ls.length), g4 < wr.heap.size ∧ wr.cell? ⟨g4, i * 2, none⟩ = some (.string P.ls[i].n) ∧ wr.frozen? ⟨g4, i * 2 + 1, none⟩ = false ∧ ∃ u, wr.cell? ⟨g4, i * 2 + 1, none⟩ = some u ∧ IsValsA g4 (w.heap.size + 1) wr u (P.ls[i].es.map (Value.int .i64))
theorem TwL.grow {w : World} {P : Pln} {v1 v2 v3 v4 : Value} {hi g4 : Nat} {wr w5 : World} (h : TwL w P v1 v2 v3 v4 hi g4 wr) (g : Gr wr w5) : TwL w P v1 v2 v3 v4 hi g4 w5 :=
  ⟨h.gr.trans g, h.box.gr g, Nat.lt_of_lt_of_le h.rs g.size, fun o ho => by obtain ⟨u, hu⟩ := h.rc o ho; exact ⟨u, (g.cell _ _ h.rs).trans hu⟩, h.rf.gr g h.rs,
    h.i1.keep g.size (fun b o _ _ hb => g.cell _ _ hb), h.i2.keep g.size (fun b o _ _ hb => g.cell _ _ hb), h.i3.keep g.size (fun b o _ _ hb => g.cell _ _ hb), h.hg, h.v4, fun i hi => by
      obtain ⟨a, b, c, u, d, e⟩ := h.ln i hi
      exact ⟨Nat.lt_of_lt_of_le a g.size, (g.cell _ _ a).trans b, (g.frozen _ _ a).trans c, u, (g.cell _ _ a).trans d, e.keep g.size fun b o _ _ hb => g.cell _ _ hb⟩⟩
theorem TwL.step {w : World} {P : Pln} {v1 v2 v3 v4 : Value} {hi g4 : Nat} {wr w5 : World} {k : Nat} {v : Value} (h0 : TwL w P v1 v2 v3 v4 hi g4 wr) (g : Gr wr w5) (hk : k < P.ls.length)
    (ho : w5.ownsRow wr.heap.size 3 1 v P.ls[k].es.length (rowL 1 P.ls[k].es.length fun i _ => .int .i64 (P.ls[k].es.getD i 0))) (hl : P.ls[k].es.length ≤ maxLen) : TwL w P v1 v2 v3 v4 hi g4 (w5.setCell ⟨g4, k * 2 + 1, none⟩ v) := by
  have h := h0.grow g
  have hgs := (h0.ln k hk).1
  have hf : Far g4 w5 (w5.setCell ⟨g4, k * 2 + 1, none⟩ v) := (Far.refl _ _).set _ _
  have hne : ∀ b, b < hi → b ≠ g4 := fun b hb e => by have := h.hg; omega
  obtain ⟨zb, b0, b1, b2, b3, b4, b5, b6, b7, b8⟩ := h.box
  have q : ∀ o, (w5.setCell ⟨g4, k * 2 + 1, none⟩ v).cell? ⟨w.heap.size, o, none⟩ = w5.cell? ⟨w.heap.size, o, none⟩ := fun o => hf.2.1 _ _ (by have := h.hg; omega)
  refine ⟨h.gr.setCell (by have := h.hg; show w.heap.size ≤ g4; omega) _, ⟨by rw [hf.1]; exact zb, (q _).trans b0, (q _).trans b1, (q _).trans b2, (q _).trans b3, (q _).trans b4, (q _).trans b5, (q _).trans b6, (q _).trans b7, (q _).trans b8⟩, by rw [hf.1]; exact h.rs,
    fun o ho => by obtain ⟨u, hu⟩ := h.rc o ho; exact ⟨u, (hf.2.1 _ _ (by have := h.hg; omega)).trans hu⟩, fun o ho => by rw [hf.2.2]; exact h.rf o ho,
    h.i1.keep (by rw [hf.1]; exact Nat.le_refl _) (fun b o _ hb _ => hf.2.1 _ _ (hne b hb)), h.i2.keep (by rw [hf.1]; exact Nat.le_refl _) (fun b o _ hb _ => hf.2.1 _ _ (hne b hb)), h.i3.keep (by rw [hf.1]; exact Nat.le_refl _) (fun b o _ hb _ => hf.2.1 _ _ (hne b hb)), h.hg, h.v4, fun i hi => ?_⟩
  obtain ⟨a, b, c, u, d, e⟩ := h.ln i hi
  refine ⟨by rw [hf.1]; exact a, (World.cell?_setCell_other _ _ _ _ (by intro e; injection e with _ e2; omega)).trans b, by rw [hf.2.2]; exact c, ?_⟩
  by_cases eik : i = k
  · subst eik
    refine ⟨v, World.cell?_setCell_same _ _ _ d, ?_⟩
    have hr := own_row_far (w' := w5.setCell ⟨g4, i * 2 + 1, none⟩ v) ho hl hgs (fun b' o hb => hf.2.1 _ _ hb) hf.1
    obtain ⟨av, cv, rfl, hm, hx⟩ := hr
    refine ⟨av, cv, by simp, by simpa using hm, ?_⟩
    rcases hx with h0' | ⟨b', o', rfl, lo1, lo2, lo3, hcc⟩
    · left; rw [List.length_eq_zero_iff.1 h0']; rfl
    · refine .inr ⟨b', o', rfl, by omega, by have := h0.rs; omega, lo3, fun j x hx => ?_⟩
      rw [List.getElem?_map] at hx
      obtain ⟨y, hy, rfl⟩ := Option.map_eq_some_iff.1 hx
      have hj := (List.getElem?_eq_some_iff.1 hy).1
      have := hcc j 0 hj (by omega)
      simp only [Nat.mul_one, Nat.add_zero] at this
      rw [this, List.getD_eq_getElem?_getD, hy]; rfl
  · exact ⟨u, (World.cell?_setCell_other _ _ _ _ (by intro e; injection e with _ e2; omega)).trans d, e.keep (by rw [hf.1]; exact Nat.le_refl _) fun b o hb _ _ => hf.2.1 _ _ hb⟩
/-- the plan anew, behind the stores into the result -/
theorem TwL.done {w : World} {P : Pln} {v1 v2 v3 v4 : Value} {hi g4 : Nat} {wr w' : World} (h : TwL w P v1 v2 v3 v4 hi g4 wr) (hf : Far (w.heap.size + 1) wr w') : IsPln w' (plnV P v1 v2 v3 v4) P := by
  have hz : wr.heap.size ≤ w'.heap.size := by rw [hf.1]; exact Nat.le_refl _
  have k1 := (h.i1.keep hz fun b o hb _ _ => hf.2.1 _ _ (by omega)).row
  have k2 := (h.i2.keep hz fun b o hb _ _ => hf.2.1 _ _ (by omega)).row
  have k3 := (h.i3.keep hz fun b o hb _ _ => hf.2.1 _ _ (by omega)).row
  obtain ⟨x1, y1, rfl, -⟩ := id h.i1
  obtain ⟨x2, y2, rfl, -⟩ := id h.i2
  obtain ⟨x3, y3, rfl, -⟩ := id h.i3
  obtain ⟨c, hm, h4⟩ := h.v4
  rcases h4 with ⟨h0, a, rfl⟩ | rfl
  · refine ⟨x1, y1, x2, y2, x3, y3, a, c, by rw [h0], k1, k2, k3, fun _ => default, ⟨a, c, rfl, hm, .inl h0⟩, fun i hi => by omega⟩
  · refine ⟨x1, y1, x2, y2, x3, y3, _, c, rfl, k1, k2, k3, fun i => (w'.cell? ⟨g4, i * 2 + 1, none⟩).getD default, ⟨_, c, rfl, hm, ?_⟩, fun i hi => ?_⟩
    · rcases Nat.eq_zero_or_pos P.ls.length with h0 | h0
      · exact .inl h0
      · refine .inr ⟨g4, 0, rfl, by rw [hf.1]; exact (h.ln 0 h0).1, fun i j hi hj => ?_⟩
        obtain ⟨_, b, _, u, d, _⟩ := h.ln i hi
        have hg := h.hg
        match j, hj with
        | 0, _ =>
          show w'.cell? ⟨g4, 0 + i * 2 + 0, none⟩ = some (.string (P.ls.getD i default).n)
          rw [Nat.add_zero, Nat.zero_add, hf.2.1 g4 _ (fun e => by omega), b, getD_at _ _ hi]
        | 1, _ =>
          show w'.cell? ⟨g4, 0 + i * 2 + 1, none⟩ = some ((w'.cell? ⟨g4, i * 2 + 1, none⟩).getD default)
          rw [Nat.zero_add, hf.2.1 g4 _ (fun e => by omega), d]; rfl
    · obtain ⟨_, b, _, u, d, e⟩ := h.ln i hi
      have hg := h.hg
      show IsVals w' ((w'.cell? ⟨g4, i * 2 + 1, none⟩).getD default) _
      rw [hf.2.1 g4 _ (fun e => by omega), d, getD_at _ _ hi]
      exact (e.keep hz fun b o _ hb _ => hf.2.1 _ _ hb).vals
theorem tw_zero (t : TypeId) (w : World) (o : Nat) (ho : o < 9) : ∃ u, (w.alloc (.cells #[.slice none 0 0, .slice none 0 0, .slice none 0 0, .slice none 0 0, .int .i64 0, .int .i64 0, .int .i64 0, .int .i64 0, .bool false] t)).cell? ⟨w.heap.size, o, none⟩ = some u := by
  rw [World.cell?_alloc_mark]
  match o, ho with
  | 0, _ => exact ⟨_, rfl⟩
  | 1, _ => exact ⟨_, rfl⟩
  | 2, _ => exact ⟨_, rfl⟩
  | 3, _ => exact ⟨_, rfl⟩
  | 4, _ => exact ⟨_, rfl⟩
  | 5, _ => exact ⟨_, rfl⟩
  | 6, _ => exact ⟨_, rfl⟩
  | 7, _ => exact ⟨_, rfl⟩
  | 8, _ => exact ⟨_, rfl⟩
theorem vals_slice {w : World} {u : Value} {xs : List Value} (h : IsVals w u xs) : u.oneCell' = true := by
  obtain ⟨a, c, rfl, _⟩ := h; rfl
/-- the lines, each cell in one value -/
theorem IsLns.one {w : World} {v : Value} {l : List Ln} (h : IsLns w v l) : ∃ S : Nat → Value, (∀ i j, (if j = 0 then Value.string (l.getD i default).n else S i).oneCell' = true) ∧ IsRow w v 2 l.length (fun i j => if j = 0 then .string (l.getD i default).n else S i) ∧ ∀ i, i < l.length → IsVals w (S i) ((l.getD i default).es.map (Value.int .i64)) := by
  obtain ⟨S, h1, h2⟩ := h
  refine ⟨fun i => if i < l.length then S i else .slice none 0 0, fun i j => ?_, ?_, fun i hi => by dsimp only; rw [if_pos hi]; exact h2 i hi⟩
  · dsimp only
    split
    · rfl
    · split
      · next hi => exact vals_slice (h2 i hi)
      · rfl
  · obtain ⟨a, c, e, hm, hx⟩ := h1
    refine ⟨a, c, e, hm, ?_⟩
    rcases hx with h | ⟨b, o, h1, h2, h3⟩
    · exact .inl h
    · refine .inr ⟨b, o, h1, h2, fun i j hi hj => ?_⟩
      dsimp only
      rw [if_pos hi]
      exact h3 i j hi hj
theorem IsVals.row1 {w : World} {u : Value} {l : List Int} (h : IsVals w u (l.map (Value.int .i64))) : IsRow w u 1 l.length (fun i _ => .int .i64 (l.getD i 0)) := by
  obtain ⟨a, c, rfl, hm, hx⟩ := h
  rw [List.length_map] at hm ⊢
  refine ⟨a, c, rfl, hm, ?_⟩
  rcases hx with h | ⟨b, o, h1, h2, h3⟩
  · left; simpa using h
  · refine .inr ⟨b, o, h1, h2, fun i j hi hj => ?_⟩
    have e : j = 0 := by omega
    subst e
    have := h3 i (.int .i64 l[i]) (by simp [hi])
    rw [Nat.mul_one, Nat.add_zero, this]
    show _ = some (Value.int .i64 (l.getD i 0))
    rw [List.getD_eq_getElem?_getD, List.getElem?_eq_getElem hi]; rfl
/-- where the loop of twin starts -/
theorem tw_start {w wc w5 : World} {P : Pln} {l v1 v2 v3 v4 : Value} {S : Nat → Value} (gA : Gr w wc) (bA : PBox wc w.heap.size P v1 v2 v3 l) (rs : w.heap.size + 1 < wc.heap.size)
    (rc : ∀ o, o < 9 → ∃ u, wc.cell? ⟨w.heap.size + 1, o, none⟩ = some u) (rf : Free9 wc (w.heap.size + 1))
    (i1 : IsRowI (w.heap.size + 2) wc.heap.size wc v1 3 P.es.length (fun i j => (P.es.getD i default).c j)) (i2 : IsRowI (w.heap.size + 2) wc.heap.size wc v2 4 P.js.length (fun i j => (P.js.getD i default).c j)) (i3 : IsRowI (w.heap.size + 2) wc.heap.size wc v3 4 P.ss.length (fun i j => (P.ss.getD i default).c j))
    (g5 : Gr wc w5) (o5 : w5.ownsRow wc.heap.size 101 2 v4 P.ls.length (rowL 2 P.ls.length fun i j => if j = 0 then .string (P.ls.getD i default).n else S i)) (hS : ∀ i, i < P.ls.length → IsVals w (S i) ((P.ls.getD i default).es.map (Value.int .i64))) (hl : P.ls.length ≤ maxLen) :
    ∃ g4, TwL w P v1 v2 v3 v4 wc.heap.size g4 (w5.setCell ⟨w.heap.size, 3, none⟩ v4) := by
  have hf : Far w.heap.size w5 (w5.setCell ⟨w.heap.size, 3, none⟩ v4) := (Far.refl _ _).set _ _
  have z5 := g5.size
  obtain ⟨zb, b0, b1, b2, b3, b4, b5, b6, b7, b8⟩ := bA.gr g5
  have q : ∀ o, o ≠ 3 → (w5.setCell ⟨w.heap.size, 3, none⟩ v4).cell? ⟨w.heap.size, o, none⟩ = w5.cell? ⟨w.heap.size, o, none⟩ := fun o ho => World.cell?_setCell_other _ _ _ _ (by intro e; injection e with _ e2; omega)
  have hbox : PBox (w5.setCell ⟨w.heap.size, 3, none⟩ v4) w.heap.size P v1 v2 v3 v4 :=
    ⟨by rw [hf.1]; exact zb, (q 0 (by omega)).trans b0, (q 1 (by omega)).trans b1, (q 2 (by omega)).trans b2, World.cell?_setCell_same _ _ _ b3, (q 4 (by omega)).trans b4, (q 5 (by omega)).trans b5, (q 6 (by omega)).trans b6, (q 7 (by omega)).trans b7, (q 8 (by omega)).trans b8⟩
  have hgr : Gr w (w5.setCell ⟨w.heap.size, 3, none⟩ v4) := (gA.trans g5).setCell (Nat.le_refl _) _
  have hrs : w.heap.size + 1 < (w5.setCell ⟨w.heap.size, 3, none⟩ v4).heap.size := by rw [hf.1]; omega
  have hrc : ∀ o, o < 9 → ∃ u, (w5.setCell ⟨w.heap.size, 3, none⟩ v4).cell? ⟨w.heap.size + 1, o, none⟩ = some u := fun o ho => by
    obtain ⟨u, hu⟩ := rc o ho
    exact ⟨u, (hf.2.1 _ _ (by omega)).trans ((g5.cell _ _ rs).trans hu)⟩
  have hrf : Free9 (w5.setCell ⟨w.heap.size, 3, none⟩ v4) (w.heap.size + 1) := (rf.gr g5 rs).set _ _
  have hk1 := i1.keep (w' := w5.setCell ⟨w.heap.size, 3, none⟩ v4) (by rw [hf.1]; exact z5) fun b o h1 _ hb => (hf.2.1 _ _ (by omega)).trans (g5.cell _ _ hb)
  have hk2 := i2.keep (w' := w5.setCell ⟨w.heap.size, 3, none⟩ v4) (by rw [hf.1]; exact z5) fun b o h1 _ hb => (hf.2.1 _ _ (by omega)).trans (g5.cell _ _ hb)
  have hk3 := i3.keep (w' := w5.setCell ⟨w.heap.size, 3, none⟩ v4) (by rw [hf.1]; exact z5) fun b o h1 _ hb => (hf.2.1 _ _ (by omega)).trans (g5.cell _ _ hb)
  rcases id o5.2 with ⟨rfl, h0⟩ | ⟨g, cap, cur, rfl, hg, hcur, _⟩
  · exact ⟨wc.heap.size, hgr, hbox, hrs, hrc, hrf, hk1, hk2, hk3, ⟨by omega, Nat.le_refl _⟩, ⟨0, hl, .inl ⟨h0, none, rfl⟩⟩, fun i hi => by omega⟩
  · have hgs := o5.lt g rfl
    refine ⟨g, hgr, hbox, hrs, hrc, hrf, hk1, hk2, hk3, ⟨by omega, hg⟩, ⟨cap, hl, .inr rfl⟩, fun i hi => ?_⟩
    have hr := own_row o5 hl
    obtain ⟨a, c, e, hm, hx⟩ := hr
    simp only [Value.slice.injEq, true_and] at e
    obtain ⟨rfl, rfl⟩ := e
    rcases hx with h0 | ⟨b', o', e, hlt, hcc⟩
    · omega
    · simp only [Option.some.injEq, Addr.mk.injEq, and_true] at e
      obtain ⟨rfl, rfl⟩ := e
      refine ⟨by rw [hf.1]; exact hlt, ?_, (World.frozen?_setCell _ _ _ _).trans (o5.frozenAt _), S i, ?_, ?_⟩
      · have := hcc i 0 hi (by omega)
        rw [Nat.add_zero, Nat.zero_add] at this
        rw [hf.2.1 g _ (fun e => by omega), this, ← getD_at _ _ hi]; rfl
      · have := hcc i 1 hi (by omega)
        rw [Nat.zero_add] at this
        rw [hf.2.1 g _ (fun e => by omega), this]; rfl
      · have h9 := hS i hi
        rw [getD_at _ _ hi] at h9
        exact (IsValsA.low h9 (by omega) (by omega)).keep hgr.size fun b o _ _ hb => hgr.cell _ _ hb
end Go.Proofs.YtaanepadgoefhaaGreatDoor
namespace Go.Proofs.YtaanepadgoefhaaGreatDoor
open Go.ChangeShapes Go.WideShapes Go.ChangeAt Go.RowKit
set_option linter.unusedVariables false
set_option linter.unusedSimpArgs false
attribute [local go_sem ↓] Go.wp_at_zero Go.wp_at_succ
set_option maxRecDepth 100000 in
set_option maxHeartbeats 6000000 in
theorem twin_any (v : Value) (P : Pln) (w : World) (hP : IsPln w v P) (hn : P.es.length ≤ 1000 ∧ P.js.length ≤ 1000 ∧ P.ss.length ≤ 1000 ∧ P.ls.length ≤ 1000) (hnl : ∀ l ∈ P.ls, l.es.length ≤ 1000) :
    Calls Tryz.prog 90 #[v] w fun e w' => ∃ v', e = .returned v' ∧ IsPln w' v' P ∧ Gr w w' := by
  obtain ⟨a1, c1, a2, c2, a3, c3, a4, c4, rfl, h1, h2, h3, h4⟩ := hP
  have H1 := Lib.hid h1
  have H2 := Lib.hid h2
  have H3 := Lib.hid h3
  have HC1 := Lib.hid (fun w' (h : Gr w w') => cloneElem_any _ _ _ w' (h1.gr h) (fun i j => ele_one _ _) (by omega))
  have HC2 := Lib.hid (fun w' (h : Gr w w') => cloneJoin_any _ _ _ w' (h2.gr h) (fun i j => jn_one _ _) (by omega))
  have HC3 := Lib.hid (fun w' (h : Gr w w') => cloneSignal_any _ _ _ w' (h3.gr h) (fun i j => sg_one _ _) (by omega))
  have HB := Lib.hid (bxW_box w P (.slice a1 P.es.length c1) (.slice a2 P.js.length c2) (.slice a3 P.ss.length c3) (.slice a4 P.ls.length c4))
  have hw0 := bxW_gr w P (.slice a1 P.es.length c1) (.slice a2 P.js.length c2) (.slice a3 P.ss.length c3) (.slice a4 P.ls.length c4)
  clear h1 h2 h3
  unfold plnV
  go_enter Tryz.func90, Tryz.ntmps90
  go_upto_region 1 with (fail)
  have hW2 : Gr w ((w.alloc (.cells #[.slice a1 P.es.length c1, .slice a2 P.js.length c2, .slice a3 P.ss.length c3, .slice a4 P.ls.length c4, .int .i64 P.top, .int .i64 P.brake, .int .i64 P.margin, .int .i64 P.throw, .bool P.hard] 27)).alloc (.cells #[.slice none 0 0, .slice none 0 0, .slice none 0 0, .slice none 0 0, .int .i64 0, .int .i64 0, .int .i64 0, .int .i64 0, .bool false] 27)) := hw0.alloc _
  have HBX : Hid (∀ w', Gr ((w.alloc (.cells #[.slice a1 P.es.length c1, .slice a2 P.js.length c2, .slice a3 P.ss.length c3, .slice a4 P.ls.length c4, .int .i64 P.top, .int .i64 P.brake, .int .i64 P.margin, .int .i64 P.throw, .bool P.hard] 27)).alloc (.cells #[.slice none 0 0, .slice none 0 0, .slice none 0 0, .slice none 0 0, .int .i64 0, .int .i64 0, .int .i64 0, .int .i64 0, .bool false] 27)) w' → PBox w' w.heap.size P (.slice a1 P.es.length c1) (.slice a2 P.js.length c2) (.slice a3 P.ss.length c3) (.slice a4 P.ls.length c4) ∧ w'.frozen? ⟨w.heap.size, 0, none⟩ = false ∧ w'.frozen? ⟨w.heap.size, 1, none⟩ = false ∧ w'.frozen? ⟨w.heap.size, 2, none⟩ = false ∧ w'.frozen? ⟨w.heap.size, 3, none⟩ = false) := by
    intro w' h
    have hz : w.heap.size < (((w.alloc (.cells #[.slice a1 P.es.length c1, .slice a2 P.js.length c2, .slice a3 P.ss.length c3, .slice a4 P.ls.length c4, .int .i64 P.top, .int .i64 P.brake, .int .i64 P.margin, .int .i64 P.throw, .bool P.hard] 27)).alloc (.cells #[.slice none 0 0, .slice none 0 0, .slice none 0 0, .slice none 0 0, .int .i64 0, .int .i64 0, .int .i64 0, .int .i64 0, .bool false] 27))).heap.size := by simp; omega
    refine ⟨(HB.out.gr ((Gr.refl _).alloc _)).gr h, ?_, ?_, ?_, ?_⟩ <;> exact (h.frozen _ _ hz).trans (by simp)
  have HW3 : Hid (PBox ((w.alloc (.cells #[.slice a1 P.es.length c1, .slice a2 P.js.length c2, .slice a3 P.ss.length c3, .slice a4 P.ls.length c4, .int .i64 P.top, .int .i64 P.brake, .int .i64 P.margin, .int .i64 P.throw, .bool P.hard] 27)).alloc (.cells #[.slice none 0 0, .slice none 0 0, .slice none 0 0, .slice none 0 0, .int .i64 0, .int .i64 0, .int .i64 0, .int .i64 0, .bool false] 27)) w.heap.size P (.slice a1 P.es.length c1) (.slice a2 P.js.length c2) (.slice a3 P.ss.length c3) (.slice a4 P.ls.length c4) ∧ Free9 ((w.alloc (.cells #[.slice a1 P.es.length c1, .slice a2 P.js.length c2, .slice a3 P.ss.length c3, .slice a4 P.ls.length c4, .int .i64 P.top, .int .i64 P.brake, .int .i64 P.margin, .int .i64 P.throw, .bool P.hard] 27)).alloc (.cells #[.slice none 0 0, .slice none 0 0, .slice none 0 0, .slice none 0 0, .int .i64 0, .int .i64 0, .int .i64 0, .int .i64 0, .bool false] 27)) w.heap.size ∧ (((w.alloc (.cells #[.slice a1 P.es.length c1, .slice a2 P.js.length c2, .slice a3 P.ss.length c3, .slice a4 P.ls.length c4, .int .i64 P.top, .int .i64 P.brake, .int .i64 P.margin, .int .i64 P.throw, .bool P.hard] 27)).alloc (.cells #[.slice none 0 0, .slice none 0 0, .slice none 0 0, .slice none 0 0, .int .i64 0, .int .i64 0, .int .i64 0, .int .i64 0, .bool false] 27))).heap.size = w.heap.size + 2 ∧ (∀ o, o < 9 → ∃ u, (((w.alloc (.cells #[.slice a1 P.es.length c1, .slice a2 P.js.length c2, .slice a3 P.ss.length c3, .slice a4 P.ls.length c4, .int .i64 P.top, .int .i64 P.brake, .int .i64 P.margin, .int .i64 P.throw, .bool P.hard] 27)).alloc (.cells #[.slice none 0 0, .slice none 0 0, .slice none 0 0, .slice none 0 0, .int .i64 0, .int .i64 0, .int .i64 0, .int .i64 0, .bool false] 27))).cell? ⟨w.heap.size + 1, o, none⟩ = some u) ∧ Free9 ((w.alloc (.cells #[.slice a1 P.es.length c1, .slice a2 P.js.length c2, .slice a3 P.ss.length c3, .slice a4 P.ls.length c4, .int .i64 P.top, .int .i64 P.brake, .int .i64 P.margin, .int .i64 P.throw, .bool P.hard] 27)).alloc (.cells #[.slice none 0 0, .slice none 0 0, .slice none 0 0, .slice none 0 0, .int .i64 0, .int .i64 0, .int .i64 0, .int .i64 0, .bool false] 27)) (w.heap.size + 1)) := by
    refine ⟨HB.out.gr ((Gr.refl _).alloc _), (Free9.new _ _ _).gr ((Gr.refl _).alloc _) (by simp), by simp, fun o ho => ?_, ?_⟩
    · have h9 := tw_zero 27 (w.alloc (.cells #[.slice a1 P.es.length c1, .slice a2 P.js.length c2, .slice a3 P.ss.length c3, .slice a4 P.ls.length c4, .int .i64 P.top, .int .i64 P.brake, .int .i64 P.margin, .int .i64 P.throw, .bool P.hard] 27)) o ho
      simpa using h9
    · have := Free9.new (w.alloc (.cells #[.slice a1 P.es.length c1, .slice a2 P.js.length c2, .slice a3 P.ss.length c3, .slice a4 P.ls.length c4, .int .i64 P.top, .int .i64 P.brake, .int .i64 P.margin, .int .i64 P.throw, .bool P.hard] 27)) #[.slice none 0 0, .slice none 0 0, .slice none 0 0, .slice none 0 0, .int .i64 0, .int .i64 0, .int .i64 0, .int .i64 0, .bool false] 27
      simpa using this
  go_cut [] from 4 (fun wc => Tw1 w P (.slice a4 P.ls.length c4) wc)
  case first =>
    go_region_with (first | (go_at_call 126; (with_reducible refine (HC1.out _ ?_).mono ?_); (exact hW2.trans (Gr.refl _).drew); rintro e w6 ⟨v1, rfl, h6, o6⟩; obtain ⟨x6, y6, rfl⟩ := own_form o6; have k6 := ((Gr.refl _).drew).trans h6; obtain ⟨⟨zb6, d06, d16, d26, d36, d46, d56, d66, d76, d86⟩, f06, f16, f26, f36⟩ := HBX.out _ k6) | (go_at_call 127; (with_reducible refine (HC2.out _ ?_).mono ?_); (exact hW2.trans k6); rintro e w9 ⟨v2, rfl, h9, o9⟩; obtain ⟨x9, y9, rfl⟩ := own_form o9; have k9 := (k6).trans h9; obtain ⟨⟨zb9, d09, d19, d29, d39, d49, d59, d69, d79, d89⟩, f09, f19, f29, f39⟩ := HBX.out _ k9) | (go_at_call 128; (with_reducible refine (HC3.out _ ?_).mono ?_); (exact hW2.trans k9); rintro e w12 ⟨v3, rfl, h12, o12⟩; obtain ⟨x12, y12, rfl⟩ := own_form o12; have k12 := (k9).trans h12; obtain ⟨⟨zb12, d012, d112, d212, d312, d412, d512, d612, d712, d812⟩, f012, f112, f212, f312⟩ := HBX.out _ k12) | fail)
    all_goals
      go_wp2_with fail
      go_meet
      case rel => exact tw1_mk hW2 HW3.out.1 HW3.out.2.1 HW3.out.2.2.1 HW3.out.2.2.2.1 HW3.out.2.2.2.2 k6 h9 h12 (own_base_le o6 (by simp)) o9 o12 (by omega)
  case rest =>
    obtain ⟨v1, v2, v3, gA, bA, fA, rA, cA, ffA, i1, i2, i3⟩ := hcut
    clear HC1 HC2 HC3 HB HBX HW3 H1 H2 H3 hW2 hw0
    have h4' := h4
    obtain ⟨S, hS1, hr4, hS4⟩ := h4.one
    have HC4 := Lib.hid (cloneLine_any _ _ _ wc (hr4.gr gA) hS1 (by omega))
    have hl4 := hr4.len
    have HTS := Lib.hid (fun (w5 : World) (v4 : Value) (g5 : Gr wc w5) (o5 : w5.ownsRow wc.heap.size 101 2 v4 P.ls.length (rowL 2 P.ls.length fun i j => if j = 0 then .string (P.ls.getD i default).n else S i)) => tw_start gA bA rA cA ffA i1 i2 i3 g5 o5 hS4 hl4)
    have HBG := Lib.hid (fun (w5 : World) (g5 : Gr wc w5) => And.intro (bA.gr g5) (fA.gr g5 (by omega) 3 (by omega)))
    obtain ⟨zA, b0, b1, b2, b3, b4, b5, b6, b7, b8⟩ := id bA
    clear h4 h4' hr4 hS4 hS1 i1 i2 i3 cA ffA fA b0 b1 b2 b4 b5 b6 b7 b8
    go_upto_region 3 with (first | (go_at_call 129; (with_reducible refine (HC4.out).mono ?_); rintro e w5 ⟨v4, rfl, h5, o5⟩; obtain ⟨x5, y5, rfl⟩ := own_form o5; obtain ⟨⟨zb5, d05, d15, d25, d35, d45, d55, d65, d75, d85⟩, f35⟩ := HBG.out _ h5) | fail)
    obtain ⟨g4, hT⟩ := HTS.out _ _ h5 o5
    generalize hwr : w5.setCell ⟨w.heap.size, 3, none⟩ (.slice x5 P.ls.length y5) = wr0 at hT ⊢
    have hb := hT.box
    obtain ⟨z0, b0, b1, b2, b3, b4, b5, b6, b7, b8⟩ := hb
    have w1000 : P.ls.length ≤ 1000 := by omega
    obtain ⟨p1, q1, rfl, -⟩ := id hT.i1
    obtain ⟨p2, q2, rfl, -⟩ := id hT.i2
    obtain ⟨p3, q3, rfl, -⟩ := id hT.i3
    clear h5 o5 zb5 d05 d15 d25 d35 d45 d55 d65 d75 d85 f35 hwr HTS HBG HC4 gA bA
    go_wp2_with fail
    clear z0 b0 b1 b2 b3 b4 b5 b6 b7 b8
    go_loopw [23] (fun i wr => ∃ k : Nat, i = .int .i64 k ∧ k ≤ P.ls.length ∧ TwL w P (.slice p1 P.es.length q1) (.slice p2 P.js.length q2) (.slice p3 P.ss.length q3) (.slice x5 P.ls.length y5) wc.heap.size g4 wr) (fun i _ => P.ls.length - (intOf i).toNat)
    case atStart => exact ⟨0, rfl, Nat.zero_le _, hT⟩
    case round =>
      obtain ⟨k, rfl, hk, h⟩ := hrel
      clear hT
      have HT := Lib.hid h
      have hb := h.box
      obtain ⟨z0, b0, b1, b2, b3, b4, b5, b6, b7, b8⟩ := hb
      by_cases hlt : k < P.ls.length
      · have hk1 : (k : Int) < (P.ls.length : Int) := by omega
        obtain ⟨ca, cb, cc, u, cd, ce⟩ := h.ln k hlt
        have hx5 : x5 = some ⟨g4, 0, none⟩ := by
          obtain ⟨c, _, hx⟩ := h.v4
          rcases hx with ⟨h0, _⟩ | hx
          · omega
          · injection hx
        subst hx5
        have hkl := hnl _ (List.getElem_mem hlt)
        have hkm : P.ls[k].es.length ≤ maxLen := by unfold maxLen; omega
        have HCI := Lib.hid (fun w' (g : Gr wr w') => cloneInt_any _ _ _ w' ((ce.vals.row1).gr g) (fun _ _ => rfl) (by omega))
        have HG := Lib.hid (fun w6 (g : Gr wr w6) => And.intro (HT.out.grow g).box ((HT.out.grow g).ln k hlt))
        clear h ca ce
        go_upto_region 6 with (fail)
        go_region_with (first | (go_at_call 130; (with_reducible refine (HCI.out _ ?_).mono ?_); (exact (Gr.refl _).drew); rintro e w6 ⟨v6, rfl, g6, o6⟩; obtain ⟨x6, y6, rfl⟩ := own_form o6; have g7 := (Gr.refl wr).drew.trans g6; obtain ⟨⟨z6, e0, e1, e2, e3, e4, e5, e6, e7, e8⟩, ca6, cb6, cc6, u6, cd6, ce6⟩ := HG.out _ g7) | fail)
        all_goals
          go_wp2_with fail
          go_roundw
          case rel => exact ⟨k + 1, by go_num, hlt, HT.out.step g7 hlt (by simpa using o6) hkm⟩
          case measure => simp [intOf]; omega
      · have hk1 : ¬ (k : Int) < (P.ls.length : Int) := by omega
        obtain ⟨r0, hr0⟩ := h.rc 0 (by omega)
        obtain ⟨r1, hr1⟩ := h.rc 1 (by omega)
        obtain ⟨r2, hr2⟩ := h.rc 2 (by omega)
        obtain ⟨r3, hr3⟩ := h.rc 3 (by omega)
        obtain ⟨r4, hr4⟩ := h.rc 4 (by omega)
        obtain ⟨r5, hr5⟩ := h.rc 5 (by omega)
        obtain ⟨r6, hr6⟩ := h.rc 6 (by omega)
        obtain ⟨r7, hr7⟩ := h.rc 7 (by omega)
        obtain ⟨r8, hr8⟩ := h.rc 8 (by omega)
        have f0 := h.rf 0 (by omega)
        have f1 := h.rf 1 (by omega)
        have f2 := h.rf 2 (by omega)
        have f3 := h.rf 3 (by omega)
        have f4 := h.rf 4 (by omega)
        have f5 := h.rf 5 (by omega)
        have f6 := h.rf 6 (by omega)
        have f7 := h.rf 7 (by omega)
        have f8 := h.rf 8 (by omega)
        clear h
        go_wp2_with fail
        have hfar : Far (w.heap.size + 1) wr _ := (((((((((Far.refl _ wr).set 0 (.slice p1 P.es.length q1)).set 1 (.slice p2 P.js.length q2)).set 2 (.slice p3 P.ss.length q3)).set 3 (.slice x5 P.ls.length y5)).set 4 (.int .i64 P.top)).set 5 (.int .i64 P.brake)).set 6 (.int .i64 P.margin)).set 7 (.int .i64 P.throw)).set 8 (.bool P.hard)
        refine bodyPost_ret (v := plnV P (.slice p1 P.es.length q1) (.slice p2 P.js.length q2) (.slice p3 P.ss.length q3) (.slice x5 P.ls.length y5)) (by simp [results, Tryz.results90, go_sem, hr0, hr1, hr2, hr3, hr4, hr5, hr6, hr7, hr8, plnV]) rfl ⟨_, rfl, HT.out.done hfar, ?_⟩
        have g := HT.out.gr
        iterate 9 refine Gr.setCell ?_ (by show w.heap.size ≤ w.heap.size + 1; omega) _
        exact g
end Go.Proofs.YtaanepadgoefhaaGreatDoor
namespace Go.Proofs.YtaanepadgoefhaaGreatDoor
open Go.ChangeShapes Go.WideShapes Go.ChangeAt Go.RowKit Go.Maps
open Go.ChangeMaps Go.WideElems
set_option linter.unusedVariables false
set_option linter.unusedSimpArgs false
variable {P : Program} {k e t : TypeId} {w : World} {b n : Nat} {f : Value → Option Value}
theorem setBlock_two (w : World) (b : Nat) (x y : Obj) : setBlock (setBlock w b x) b y = setBlock w b y := by
  simp [setBlock]
theorem grown_block {w : World} {b : Nat} {es : Array MapEntry} {clock : Nat} (hb : w.heap[b]? = some (.map es clock)) (o : Obj) : w.grownBy (setBlock w b o) (some b) :=
  ⟨rfl, rfl, rfl, by simp [setBlock], fun i hi h => heap_setBlock_other hb o (fun e => h (by rw [e]))⟩
theorem MapIs.entry (h : MapIs P k w b n f) (K : Keyed P k) (ht : P.underlying t = some (.map k e)) (hn : n < maxLen) {z : Value} (hz : ∀ u : World, (zeroValue e).run P u = .ok z u) {key : Value} {kl : Lit} (hkey : keyOf P k key = some kl) :
    ∃ (v0 : Value) (st : Int) (w1 : World), (Instr.mapEntry t (.map (some b)) key).run P w = .ok (.tuple #[v0, .int .i64 st]) w1 ∧ w.grownBy w1 (some b) ∧ (∀ i, i ≠ b → w1.heap[i]? = w.heap[i]?) ∧ w1.heap.size = w.heap.size ∧
      ∀ val : Value, ∃ w', (Instr.entryStore t (.map (some b)) (.int .i64 st) val).run P w1 = .ok () w' ∧ MapIs P k w' b (n + 1) (put f key val) ∧ w.grownBy w' (some b) := by
  obtain ⟨D, ⟨es, clock, hb, F, hs, hD⟩, hm, hf⟩ := id h
  obtain ⟨s1, s2, _⟩ := F.stamped
  have fin : ∀ (w1 w' : World) (val : Value), (Instr.mapUpdate t (.map (some b)) key val).run P w = .ok () w' → MapIs P k w' b (n + 1) (put f key val) ∧ w.grownBy w' (some b) := fun w1 w' val hr => by
    obtain ⟨w2, h2, h3, h4⟩ := h.update K ht hn (val := val) hkey
    rw [h2] at hr
    injection hr with _ e
    subst e
    exact ⟨h3, h4⟩
  rcases K.find w hkey es.toList F.keys with ⟨h1, h2⟩ | ⟨j, e0, h1, h2, h3⟩
  · refine ⟨z, clock, setBlock w b (.map (es.push ⟨key, z, clock⟩) (clock + 1)), ?_, grown_block hb _, fun i hi => heap_setBlock_other hb _ hi, by simp [setBlock], fun val => ⟨setBlock w b (.map (es.push ⟨key, val, clock⟩) (clock + 1)), ?_, fin w _ val ?_⟩⟩
    · simp [Instr.mapEntry, run_underlying ht, MapKept.run_getObj_map hb, K.check w false hkey, h1, hz, MapKept.run_setObj_map _ hb, Result.andThen, setBlock, goInt]
    · have hw2 := heap_setBlock_same hb (.map (es.push ⟨key, z, clock⟩) (clock + 1))
      have hidx : (es.push ⟨key, z, clock⟩).findIdx? (fun e => ((e.born : Nat) : Int) == ((clock : Nat) : Int)) = some es.size := by
        rw [findIdx_arr]
        exact findIdx_born (l := (es.push ⟨key, z, clock⟩).toList) (j := es.size) (e0 := ⟨key, z, clock⟩) (by
          rw [Array.toList_push, List.map_append]
          refine List.nodup_append.2 ⟨s2, by simp, fun a ha c hc ec => ?_⟩
          obtain ⟨x, hx, rfl⟩ := List.mem_map.1 ha
          have := s1 x hx
          simp at hc
          omega) (by simp)
      have hmod : (es.push ⟨key, z, clock⟩).modify es.size (fun e => { e with val := val }) = es.push ⟨key, val, clock⟩ := by
        apply Array.ext'
        rw [Array.toList_modify, Array.toList_push, Array.toList_push, ← Array.length_toList, modify_last]
      simp [Instr.entryStore, MapKept.run_getObj_map hw2, asInt, asIntOf, hidx, hmod, MapKept.run_setObj_map _ hw2, Result.andThen]
      simp [setBlock]
    · simp [Instr.mapUpdate, run_underlying ht, MapKept.run_getObj_map hb, K.check w false hkey, h1, MapKept.run_setObj_map _ hb, Result.andThen, setBlock]
  · have hj : es[j]? = some e0 := by simpa using h2
    have hsame : es.modify j (fun e => { e with key := key }) = es := by
      apply Array.ext'
      rw [Array.toList_modify, modify_eq_set _ _ _ _ h2, show ({ e0 with key := key } : MapEntry) = e0 from by rw [← h3]]
      exact set_self _ _ _ h2
    refine ⟨e0.val, e0.born, setBlock w b (.map es clock), ?_, grown_block hb _, fun i hi => heap_setBlock_other hb _ hi, by simp [setBlock], fun val => ⟨setBlock w b (.map (es.modify j (fun e' => { e' with key := key, val := val })) clock), ?_, fin w _ val ?_⟩⟩
    · simp [Instr.mapEntry, run_underlying ht, MapKept.run_getObj_map hb, K.check w false hkey, h1, hj, h3, K.stays w hkey, hsame, MapKept.run_setObj_map _ hb, Result.andThen, setBlock, goInt]
    · have hw2 := heap_setBlock_same hb (.map es clock)
      have hidx : es.findIdx? (fun e => ((e.born : Nat) : Int) == ((e0.born : Nat) : Int)) = some j := by
        rw [findIdx_arr]
        exact findIdx_born s2 h2
      have hmod : es.modify j (fun e => { e with val := val }) = es.modify j (fun e' => { e' with key := key, val := val }) := by
        apply Array.ext'
        rw [Array.toList_modify, Array.toList_modify, modify_eq_set _ _ _ _ h2, modify_eq_set _ _ _ _ h2, ← h3]
      simp [Instr.entryStore, MapKept.run_getObj_map hw2, asInt, asIntOf, hidx, hmod, MapKept.run_setObj_map _ hw2, Result.andThen]
      simp [setBlock]
    · simp [Instr.mapUpdate, run_underlying ht, MapKept.run_getObj_map hb, K.check w false hkey, h1, hj, h3, K.stays w hkey, MapKept.run_setObj_map _ hb, Result.andThen, setBlock]
end Go.Proofs.YtaanepadgoefhaaGreatDoor
namespace Go.Proofs.YtaanepadgoefhaaGreatDoor
open Go.ChangeShapes Go.WideShapes Go.ChangeAt Go.RowKit Go.Maps
set_option linter.unusedVariables false
set_option linter.unusedSimpArgs false
theorem PBox.blk {w w' : World} {b : Nat} {P : Pln} {e j s l : Value} (h : PBox w b P e j s l) (hb : w'.heap[b]? = w.heap[b]?) (hs : w.heap.size ≤ w'.heap.size) : PBox w' b P e j s l := by
  have q : ∀ o, w'.cell? ⟨b, o, none⟩ = w.cell? ⟨b, o, none⟩ := fun o => World.cell?_of_block hb
  obtain ⟨z, b0, b1, b2, b3, b4, b5, b6, b7, b8⟩ := h
  exact ⟨Nat.lt_of_lt_of_le z hs, (q _).trans b0, (q _).trans b1, (q _).trans b2, (q _).trans b3, (q _).trans b4, (q _).trans b5, (q _).trans b6, (q _).trans b7, (q _).trans b8⟩
/-- the net in the making: its block, its maps; m: the size of the heap behind twin -/
structure NetW (w2 : World) (P : Pln) (v1 v2 v3 v4 : Value) (n1 : Nat) (f1 : Value → Option Value) (n2 : Nat) (f2 : Value → Option Value) (n3 : Nat) (f3 : Value → Option Value) (n4 : Nat) (f4 : Value → Option Value) (wr : World) : Prop where
  gr : Gr w2 wr
  net : PBox wr (w2.heap.size + 4) P v1 v2 v3 v4
  c9 : wr.cell? ⟨w2.heap.size + 4, 9, none⟩ = some (.map (some w2.heap.size))
  c10 : wr.cell? ⟨w2.heap.size + 4, 10, none⟩ = some (.map (some (w2.heap.size + 1)))
  c11 : wr.cell? ⟨w2.heap.size + 4, 11, none⟩ = some (.map (some (w2.heap.size + 2)))
  c12 : wr.cell? ⟨w2.heap.size + 4, 12, none⟩ = some (.map (some (w2.heap.size + 3)))
  nx : MapIs Tryz.prog 68 wr w2.heap.size n1 f1
  rd : MapIs Tryz.prog 68 wr (w2.heap.size + 1) n2 f2
  ln : MapIs Tryz.prog 3 wr (w2.heap.size + 2) n3 f3
  ld : MapIs Tryz.prog 3 wr (w2.heap.size + 3) n4 f4
variable {w2 : World} {P : Pln} {v1 v2 v3 v4 : Value} {n1 n2 n3 n4 : Nat} {f1 f2 f3 f4 : Value → Option Value} {wr w' : World}
theorem NetW.grow (h : NetW w2 P v1 v2 v3 v4 n1 f1 n2 f2 n3 f3 n4 f4 wr) (g : Gr wr w') : NetW w2 P v1 v2 v3 v4 n1 f1 n2 f2 n3 f3 n4 f4 w' :=
  have z := h.net.1
  ⟨h.gr.trans g, h.net.gr g, (g.cell _ _ z).trans h.c9, (g.cell _ _ z).trans h.c10, (g.cell _ _ z).trans h.c11, (g.cell _ _ z).trans h.c12, h.nx.gr g, h.rd.gr g, h.ln.gr g, h.ld.gr g⟩
/-- one of the maps has turned -/
theorem NetW.turn (h : NetW w2 P v1 v2 v3 v4 n1 f1 n2 f2 n3 f3 n4 f4 wr) {m : Nat} (g : wr.grownBy w' (some m)) (h1 : w2.heap.size ≤ m) (h2 : m < w2.heap.size + 4) :
    Gr w2 w' ∧ PBox w' (w2.heap.size + 4) P v1 v2 v3 v4 ∧ w'.cell? ⟨w2.heap.size + 4, 9, none⟩ = some (.map (some w2.heap.size)) ∧ w'.cell? ⟨w2.heap.size + 4, 10, none⟩ = some (.map (some (w2.heap.size + 1))) ∧ w'.cell? ⟨w2.heap.size + 4, 11, none⟩ = some (.map (some (w2.heap.size + 2))) ∧ w'.cell? ⟨w2.heap.size + 4, 12, none⟩ = some (.map (some (w2.heap.size + 3))) ∧ ∀ i, i < w2.heap.size + 4 → i ≠ m → w'.heap[i]? = wr.heap[i]? := by
  have z := h.net.1
  have hb : w'.heap[w2.heap.size + 4]? = wr.heap[w2.heap.size + 4]? := g.block _ z (fun e => by injection e; omega)
  exact ⟨h.gr.grownM g h1, h.net.blk hb g.size, (World.cell?_of_block hb).trans h.c9, (World.cell?_of_block hb).trans h.c10, (World.cell?_of_block hb).trans h.c11, (World.cell?_of_block hb).trans h.c12, fun i hi hne => g.block i (by omega) (fun e => by injection e; omega)⟩
theorem NetW.put1 (h : NetW w2 P v1 v2 v3 v4 n1 f1 n2 f2 n3 f3 n4 f4 wr) {m : Nat} {g' : Value → Option Value} (hm : MapIs Tryz.prog 68 w' w2.heap.size m g') (g : wr.grownBy w' (some w2.heap.size)) : NetW w2 P v1 v2 v3 v4 m g' n2 f2 n3 f3 n4 f4 w' := by
  obtain ⟨a, b, c, d, e, f, q⟩ := h.turn g (Nat.le_refl _) (by omega)
  exact ⟨a, b, c, d, e, f, hm, h.rd.block (q _ (by omega) (by omega)), h.ln.block (q _ (by omega) (by omega)), h.ld.block (q _ (by omega) (by omega))⟩
theorem NetW.put2 (h : NetW w2 P v1 v2 v3 v4 n1 f1 n2 f2 n3 f3 n4 f4 wr) {m : Nat} {g' : Value → Option Value} (hm : MapIs Tryz.prog 68 w' (w2.heap.size + 1) m g') (g : wr.grownBy w' (some (w2.heap.size + 1))) : NetW w2 P v1 v2 v3 v4 n1 f1 m g' n3 f3 n4 f4 w' := by
  obtain ⟨a, b, c, d, e, f, q⟩ := h.turn g (by omega) (by omega)
  exact ⟨a, b, c, d, e, f, h.nx.block (q _ (by omega) (by omega)), hm, h.ln.block (q _ (by omega) (by omega)), h.ld.block (q _ (by omega) (by omega))⟩
theorem NetW.put3 (h : NetW w2 P v1 v2 v3 v4 n1 f1 n2 f2 n3 f3 n4 f4 wr) {m : Nat} {g' : Value → Option Value} (hm : MapIs Tryz.prog 3 w' (w2.heap.size + 2) m g') (g : wr.grownBy w' (some (w2.heap.size + 2))) : NetW w2 P v1 v2 v3 v4 n1 f1 n2 f2 m g' n4 f4 w' := by
  obtain ⟨a, b, c, d, e, f, q⟩ := h.turn g (by omega) (by omega)
  exact ⟨a, b, c, d, e, f, h.nx.block (q _ (by omega) (by omega)), h.rd.block (q _ (by omega) (by omega)), hm, h.ld.block (q _ (by omega) (by omega))⟩
theorem NetW.put4 (h : NetW w2 P v1 v2 v3 v4 n1 f1 n2 f2 n3 f3 n4 f4 wr) {m : Nat} {g' : Value → Option Value} (hm : MapIs Tryz.prog 3 w' (w2.heap.size + 3) m g') (g : wr.grownBy w' (some (w2.heap.size + 3))) : NetW w2 P v1 v2 v3 v4 n1 f1 n2 f2 n3 f3 m g' w' := by
  obtain ⟨a, b, c, d, e, f, q⟩ := h.turn g (by omega) (by omega)
  exact ⟨a, b, c, d, e, f, h.nx.block (q _ (by omega) (by omega)), h.rd.block (q _ (by omega) (by omega)), h.ln.block (q _ (by omega) (by omega)), hm⟩
/-- the signals' map: the last signal at a port -/
def FnR (l : List Sg) (f : Value → Option Value) : Prop := ∀ x : Prt, f x.v = (readsL l x).map fun i => .int .i64 (i : Int)
/-- block b of w is the net of P -/
def NetIs (w : World) (b : Nat) (P : Pln) : Prop :=
  ∃ v1 v2 v3 v4 bn n1 f1 br n2 f2 bl n3 f3 bd n4 f4, PBox w b P v1 v2 v3 v4 ∧ IsPln w (plnV P v1 v2 v3 v4) P ∧ w.cell? ⟨b, 9, none⟩ = some (.map (some bn)) ∧ w.cell? ⟨b, 10, none⟩ = some (.map (some br)) ∧ w.cell? ⟨b, 11, none⟩ = some (.map (some bl)) ∧ w.cell? ⟨b, 12, none⟩ = some (.map (some bd)) ∧
    MapIs Tryz.prog 68 w bn n1 f1 ∧ FnL P.js f1 ∧ MapIs Tryz.prog 68 w br n2 f2 ∧ FnR P.ss f2 ∧ MapIs Tryz.prog 3 w bl n3 f3 ∧ MapIs Tryz.prog 3 w bd n4 f4
theorem NetIs.gr {w w' : World} {b : Nat} {P : Pln} (h : NetIs w b P) (g : Gr w w') : NetIs w' b P := by
  obtain ⟨v1, v2, v3, v4, bn, n1, f1, br, n2, f2, bl, n3, f3, bd, n4, f4, a, b', c, d, e, f, i, j, k, l, m, n⟩ := h
  have z := a.1
  exact ⟨v1, v2, v3, v4, bn, n1, f1, br, n2, f2, bl, n3, f3, bd, n4, f4, a.gr g, b'.gr g, (g.cell _ _ z).trans c, (g.cell _ _ z).trans d, (g.cell _ _ z).trans e, (g.cell _ _ z).trans f, i.gr g, j, k.gr g, l, m.gr g, n.gr g⟩
theorem FnR.nil : FnR [] (fun _ => none) := fun _ => rfl
theorem readsL_snoc (l : List Sg) (s : Sg) (x : Prt) : readsL (l ++ [s]) x = match readsL l x with | some i => some i | none => if s.at_ = x then some l.length else none := by
  induction l with
  | nil => simp [readsL]
  | cons a t ih =>
    simp only [List.cons_append, readsL]
    split
    · rfl
    · rw [ih]
      cases readsL t x with
      | some i => rfl
      | none =>
        by_cases h : s.at_ = x
        · simp [h]
        · simp [h]
/-- one signal more, at a port that has none -/
theorem FnR.one {l : List Sg} {f : Value → Option Value} (h : FnR l f) (s : Sg) (hn : readsL l s.at_ = none) : FnR (l ++ [s]) (put f s.at_.v (.int .i64 (l.length : Int))) := by
  intro x
  rw [readsL_snoc]
  by_cases e : x = s.at_
  · subst e
    rw [put_self, hn, if_pos rfl]; rfl
  · rw [put_else _ (fun e' => e (prtv_inj e')), h x, if_neg (fun e' => e e'.symm)]
    cases readsL l x <;> rfl
theorem NetW.isNet {w2 wr : World} (h : NetW w2 P v1 v2 v3 v4 n1 f1 n2 f2 n3 f3 n4 f4 wr) (hp : IsPln w2 (plnV P v1 v2 v3 v4) P) (h1 : FnL P.js f1) (h2 : FnR P.ss f2) : NetIs wr (w2.heap.size + 4) P :=
  ⟨v1, v2, v3, v4, _, n1, f1, _, n2, f2, _, n3, f3, _, n4, f4, h.net, hp.gr h.gr, h.c9, h.c10, h.c11, h.c12, h.nx, h1, h.rd, h2, h.ln, h.ld⟩
theorem four_maps (w2 : World) : ∃ wa wb wc wd : World, (Instr.makeMap 122 none).run Tryz.prog w2 = .ok (.map (some w2.heap.size)) wa ∧ (Instr.makeMap 123 none).run Tryz.prog wa = .ok (.map (some (w2.heap.size + 1))) wb ∧ (Instr.makeMap 124 none).run Tryz.prog wb = .ok (.map (some (w2.heap.size + 2))) wc ∧ (Instr.makeMap 125 none).run Tryz.prog wc = .ok (.map (some (w2.heap.size + 3))) wd ∧
    wd.heap.size = w2.heap.size + 4 ∧ Gr w2 wd ∧ MapIs Tryz.prog 68 wd w2.heap.size 0 (fun _ => none) ∧ MapIs Tryz.prog 68 wd (w2.heap.size + 1) 0 (fun _ => none) ∧ MapIs Tryz.prog 3 wd (w2.heap.size + 2) 0 (fun _ => none) ∧ MapIs Tryz.prog 3 wd (w2.heap.size + 3) 0 (fun _ => none) := by
  have e1 : (w2.alloc (.map #[] 0)).heap.size = w2.heap.size + 1 := by simp
  have e2 : ((w2.alloc (.map #[] 0)).alloc (.map #[] 0)).heap.size = w2.heap.size + 2 := by simp
  have e3 : (((w2.alloc (.map #[] 0)).alloc (.map #[] 0)).alloc (.map #[] 0)).heap.size = w2.heap.size + 3 := by simp
  have m1 := MapIs.made w2 Tryz.prog 68
  have m2 := MapIs.made (w2.alloc (.map #[] 0)) Tryz.prog 68
  have m3 := MapIs.made ((w2.alloc (.map #[] 0)).alloc (.map #[] 0)) Tryz.prog 3
  have m4 := MapIs.made (((w2.alloc (.map #[] 0)).alloc (.map #[] 0)).alloc (.map #[] 0)) Tryz.prog 3
  rw [e1] at m2
  rw [e2] at m3
  rw [e3] at m4
  refine ⟨_, _, _, _, run_makeMap _ _, (run_makeMap _ _).trans (by rw [e1]), (run_makeMap _ _).trans (by rw [e2]), (run_makeMap _ _).trans (by rw [e3]), by simp, ((((Gr.refl _).alloc _).alloc _).alloc _).alloc _, m1.gr ((((Gr.refl _).alloc _).alloc _).alloc _), m2.gr (((Gr.refl _).alloc _).alloc _), m3.gr ((Gr.refl _).alloc _), m4⟩
theorem NetW.start {w2 wd : World} {P : Pln} {v1 v2 v3 v4 : Value} (hs : wd.heap.size = w2.heap.size + 4) (g : Gr w2 wd) (m1 : MapIs Tryz.prog 68 wd w2.heap.size 0 (fun _ => none)) (m2 : MapIs Tryz.prog 68 wd (w2.heap.size + 1) 0 (fun _ => none)) (m3 : MapIs Tryz.prog 3 wd (w2.heap.size + 2) 0 (fun _ => none)) (m4 : MapIs Tryz.prog 3 wd (w2.heap.size + 3) 0 (fun _ => none)) :
    NetW w2 P v1 v2 v3 v4 0 (fun _ => none) 0 (fun _ => none) 0 (fun _ => none) 0 (fun _ => none) (wd.alloc (.cells #[v1, v2, v3, v4, .int .i64 P.top, .int .i64 P.brake, .int .i64 P.margin, .int .i64 P.throw, .bool P.hard, .map (some w2.heap.size), .map (some (w2.heap.size + 1)), .map (some (w2.heap.size + 2)), .map (some (w2.heap.size + 3))] 127)) := by
  have ga : Gr wd (wd.alloc (.cells #[v1, v2, v3, v4, .int .i64 P.top, .int .i64 P.brake, .int .i64 P.margin, .int .i64 P.throw, .bool P.hard, .map (some w2.heap.size), .map (some (w2.heap.size + 1)), .map (some (w2.heap.size + 2)), .map (some (w2.heap.size + 3))] 127)) := (Gr.refl _).alloc _
  refine ⟨g.trans ga, ?_, ?_, ?_, ?_, ?_, m1.gr ga, m2.gr ga, m3.gr ga, m4.gr ga⟩
  · rw [← hs]
    refine ⟨by simp, ?_, ?_, ?_, ?_, ?_, ?_, ?_, ?_, ?_⟩ <;> (rw [World.cell?_alloc_mark]; rfl)
  all_goals
    rw [← hs, World.cell?_alloc_mark]; rfl
theorem gb_cell {w w' : World} {m b o : Nat} (g : w.grownBy w' (some m)) (hb : b < w.heap.size) (hne : b ≠ m) : w'.cell? ⟨b, o, none⟩ = w.cell? ⟨b, o, none⟩ := World.cell?_of_block (g.block b hb (fun e => by injection e; omega))
theorem prt_zeroA (u : World) : (zeroValue 68).run Tryz.prog u = .ok (.agg #[.int .i64 0, .int .i64 0]) u := prt_zero u
end Go.Proofs.YtaanepadgoefhaaGreatDoor
namespace Go.Proofs.YtaanepadgoefhaaGreatDoor
open Go.ChangeShapes Go.WideShapes Go.ChangeAt Go.RowKit Go.Maps
set_option linter.unusedVariables false
theorem chk_zero {P : Pln} (h : chk P = 0) : joinedB P = true ∧ signalsB P = true ∧ linesB P = true ∧ longB P = true := by
  unfold chk at h
  split at h; · omega
  split at h; · omega
  split at h; · omega
  split at h; · omega
  split at h; · omega
  split at h; · omega
  split at h; · omega
  refine ⟨?_, ?_, ?_, ?_⟩ <;> simp_all
theorem chk_okL {P : Pln} (h : chk P = 0) : okL P P.js := by
  apply Classical.byContradiction
  intro hn
  have := joinedB_no hn
  rw [(chk_zero h).1] at this
  cases this
theorem net_round1 {P : Pln} {f : Value → Option Value} (h : chk P = 0) (k : Nat) (hk : k < P.js.length) (hf : FnL (P.js.take k) f) : FnL (P.js.take (k + 1)) (put (put f P.js[k].a.v P.js[k].b.v) P.js[k].b.v P.js[k].a.v) := by
  obtain ⟨a, b, c, _, _⟩ := okL_of_take k hk (chk_okL h)
  have := hf.two P.js[k] a b c
  rwa [List.take_append_getElem hk] at this
theorem chk_sig {P : Pln} (h : chk P = 0) (k : Nat) (hk : k < P.ss.length) : readsL P.ss P.ss[k].at_ = some k := by
  have h2 := (chk_zero h).2.1
  unfold signalsB at h2
  simp only [Bool.and_eq_true, List.all_eq_true, List.mem_range] at h2
  have := h2.1 k hk
  unfold sigB at this
  simp only [Bool.and_eq_true, decide_eq_true_eq] at this
  have h3 := this.2
  rwa [getD_at _ _ hk] at h3
theorem net_round2 {P : Pln} {f : Value → Option Value} (h : chk P = 0) (k : Nat) (hk : k < P.ss.length) (hf : FnR (P.ss.take k) f) : FnR (P.ss.take (k + 1)) (put f P.ss[k].at_.v (.int .i64 (k : Int))) := by
  have h1 : readsL (P.ss.take k) P.ss[k].at_ = none := by
    rw [readsL_none_iff]
    refine (reads_first hk).1 ?_
    unfold readsN
    rw [chk_sig h k hk]
  have := hf.one P.ss[k] h1
  rw [List.take_append_getElem hk, List.length_take, Nat.min_eq_left (by omega)] at this
  exact this
theorem int_lit (e : Int) (h : I64 e) : ∃ kl, keyOf Tryz.prog 3 (.int .i64 e) = some kl := ⟨.int .i64 e, by
  unfold I64 at h
  simp [keyOf, mapKey, Tryz.underlying3, h]⟩
theorem arr2_zero (u : World) : (zeroValue 128).run Tryz.prog u = .ok (.agg #[.int .i64 0, .int .i64 0]) u := by kernel_rfl
theorem int_zero (u : World) : (zeroValue 3).run Tryz.prog u = .ok (.int .i64 0) u := by kernel_rfl
theorem i64_wrap (x : Int) : I64 (IntKind.i64.wrap x) := wf_wrap _ _
theorem next_plain {w : World} {b n : Nat} {f : Value → Option Value} {l : List Jn} {x : Prt} (h : MapIs Tryz.prog 68 w b n f) (hf : FnL l f) (hx : PrtOk x) :
    ∃ e y : Int, (Instr.lookup 122 (.map (some b)) (.agg #[.int .i64 x.e, .int .i64 x.x]) false).run Tryz.prog w = .ok (.agg #[.int .i64 e, .int .i64 y]) w := by
  obtain ⟨kl, hk⟩ := prt_key x hx.1 hx.2
  have := h.lookup prt_keyed Tryz.underlying122 (prt_zero w) hk
  rw [hf x] at this
  cases hn : nextL l x with
  | none => rw [hn] at this; exact ⟨0, 0, this⟩
  | some y => rw [hn] at this; exact ⟨y.e, y.x, this⟩
theorem prt_field1 (a b : Int) (w : World) : (Instr.field 68 (.agg #[.int .i64 a, .int .i64 b]) 1).run Tryz.prog w = .ok (.int .i64 b) w := by kernel_rfl
theorem prt_field0 (a b : Int) (w : World) : (Instr.field 68 (.agg #[.int .i64 a, .int .i64 b]) 0).run Tryz.prog w = .ok (.int .i64 a) w := by kernel_rfl
end Go.Proofs.YtaanepadgoefhaaGreatDoor
