/- DrN: The reader of plans: the ends: what its box holds behind an append and a store. No walk.
OpnI: Opening slices inside other data: of integers; of structs.
OpnB: Opening a body. -/
import Derived.Test.YtjblplflgiibdaaDoorRows
import Derived.Test.YtjblplflgiibdaaDoorB20
import Derived.Test.YtjblplflgiibdaaDoorB19
import Derived.Test.YtjblplflgiibdaaDoorB1
import Derived.Deep.Slices
import Derived.Deep.Fields
import Derived.ChangeSame
import Derived.Test.YtjblplflgiibdaaDoorB13
namespace Go.Proofs.YtjblplflgiibdaaDoor
open Go.ChangeShapes Go.WideShapes Go.ChangeAt Go.RowKit Go.Maps
set_option linter.unusedVariables false
set_option linter.unusedSimpArgs false
def KL (k : Nat) (h0 : Option Obj) (w : World) : Prop := w.heap[k]? = h0 ∧ k < w.heap.size
theorem KL.gr {k : Nat} {h0 : Option Obj} {w w' : World} (h : KL k h0 w) (g : Gr w w') : KL k h0 w' := ⟨(g.block k h.2).trans h.1, Nat.lt_of_lt_of_le h.2 g.size⟩
theorem KL.set {k : Nat} {h0 : Option Obj} {w : World} (h : KL k h0 w) {a : Addr} (hk : k ≠ a.block) (u : Value) : KL k h0 (w.setCell a u) := ⟨(heap_setCell_other w a k u hk).trans h.1, by simpa using h.2⟩
theorem KL.grown {w w' : World} {k B : Nat} {h0 : Option Obj} {T : TypeId} {sz n : Nat} {v : Value} {xs : List Value} (h : KL k h0 w) (hg : w.grownBy w' v.ownBlock) {W : World} (ho : W.ownsRow B T sz v n xs) (hk : k < B) : KL k h0 w' := by
  refine ⟨(hg.block k h.2 fun e => ?_).trans h.1, Nat.lt_of_lt_of_le h.2 hg.size⟩
  have := own_base ho k e.symm
  omega
def RetR (T : TypeId) (w0 : World) (b B : Nat) (K : World → Prop) (m : Option Bool) (r : Int ⊕ Pln) (x : Ending) (w' : World) : Prop :=
  match r with
  | .inl n => x = .returned (.int .i64 n) ∧ Gr w0 w'
  | .inr P => x = .returned (.int .i64 0) ∧ Gr w0 w' ∧ K w' ∧ RdP T b B w' P m
theorem RetR.no {T : TypeId} {w0 w' : World} {b B : Nat} {K : World → Prop} {m : Option Bool} {r : Int ⊕ Pln} {n : Int} (h : r = .inl n) (g : Gr w0 w') : RetR T w0 b B K m r (.returned (.int .i64 n)) w' := by subst h; exact ⟨rfl, g⟩
theorem RetR.yes {T : TypeId} {w0 w' : World} {b B : Nat} {K : World → Prop} {m : Option Bool} {r : Int ⊕ Pln} {P : Pln} (h : r = .inr P) (g : Gr w0 w') (k : K w') (d : RdP T b B w' P m) : RetR T w0 b B K m r (.returned (.int .i64 0)) w' := by subst h; exact ⟨rfl, g, k, d⟩
theorem bp_far {T : TypeId} {b : Nat} {w : World} {P : Pln} {e j s l : Value} {m : Option Bool} (h : Bp T b w P e j s l m) {ty : TypeId} {sz n : Nat} {v : Value} {xs : List Value} {B : Nat} (ho : w.ownsRow B ty sz v n xs) (hT : T ≠ ty) : v.ownBlock ≠ some b := by
  obtain ⟨⟨cs, hh, -⟩, -⟩ := h
  exact fun e' => (own_ne ho hh hT) e'.symm
section ends
variable {T : TypeId} {b B k : Nat} {h0 : Option Obj} {P : Pln} {w0 w wq w9 : World} {e j s l v' : Value} {m : Option Bool} {R : Int ⊕ Pln}
theorem elem_end {x : Ele} (hT : T ≠ 47) (hkB : k < B) (hkb : k ≠ b) (h1 : Bp T b w P e j s l m) (h2 : DrS b B w P e j s l) (hK : KL k h0 w) (g0 : Gr w0 w) (hb : w0.heap.size ≤ b) (gq : Gr w wq) (hR : R = .inr { P with es := P.es ++ [x] })
    (hgrow : wq.grownBy w9 e.ownBlock) (hown : w9.ownsRow B 47 3 v' (P.es.length + 1) (P.es.flatMap Ele.cs ++ x.cs)) : RetR T w0 b B (KL k h0) m R (.returned (.int .i64 0)) (w9.setCell ⟨b, 0, none⟩ v') := by
  obtain ⟨hbB, hz, k1, k2, k3, A, k4, k5, k6⟩ := id h2
  refine RetR.yes hR ?_ (((hK.gr gq).grown hgrow k1 hkB).set hkb _) (RdP.elem hT (h1.gr gq) (h2.gr gq) hgrow hown)
  exact (Gr.grown (g0.trans gq) hgrow (own_base_le k1 (show w0.heap.size ≤ B by omega))).setCell hb _
theorem join_end {x : Jn} (hT : T ≠ 56) (hkB : k < B) (hkb : k ≠ b) (h1 : Bp T b w P e j s l m) (h2 : DrS b B w P e j s l) (hK : KL k h0 w) (g0 : Gr w0 w) (hb : w0.heap.size ≤ b) (gq : Gr w wq) (hR : R = .inr { P with js := P.js ++ [x] })
    (hgrow : wq.grownBy w9 j.ownBlock) (hown : w9.ownsRow B 56 4 v' (P.js.length + 1) (P.js.flatMap Jn.cs ++ x.cs)) : RetR T w0 b B (KL k h0) m R (.returned (.int .i64 0)) (w9.setCell ⟨b, 1, none⟩ v') := by
  obtain ⟨hbB, hz, k1, k2, k3, A, k4, k5, k6⟩ := id h2
  refine RetR.yes hR ?_ (((hK.gr gq).grown hgrow k2 hkB).set hkb _) (RdP.join hT (h1.gr gq) (h2.gr gq) hgrow hown)
  exact (Gr.grown (g0.trans gq) hgrow (own_base_le k2 (show w0.heap.size ≤ B by omega))).setCell hb _
theorem signal_end {x : Sg} (hT : T ≠ 49) (hkB : k < B) (hkb : k ≠ b) (h1 : Bp T b w P e j s l m) (h2 : DrS b B w P e j s l) (hK : KL k h0 w) (g0 : Gr w0 w) (hb : w0.heap.size ≤ b) (gq : Gr w wq) (hR : R = .inr { P with ss := P.ss ++ [x] })
    (hgrow : wq.grownBy w9 s.ownBlock) (hown : w9.ownsRow B 49 4 v' (P.ss.length + 1) (P.ss.flatMap Sg.cs ++ x.cs)) : RetR T w0 b B (KL k h0) m R (.returned (.int .i64 0)) (w9.setCell ⟨b, 2, none⟩ v') := by
  obtain ⟨hbB, hz, k1, k2, k3, A, k4, k5, k6⟩ := id h2
  refine RetR.yes hR ?_ (((hK.gr gq).grown hgrow k3 hkB).set hkb _) (RdP.signal hT (h1.gr gq) (h2.gr gq) hgrow hown)
  exact (Gr.grown (g0.trans gq) hgrow (own_base_le k3 (show w0.heap.size ≤ B by omega))).setCell hb _
theorem line_end {x : Ln} {u : Value} {A : List (Ln × Value)} (hT : T ≠ 45) (hkB : k < B) (hkb : k ≠ b) (h1 : Bp T b w P e j s l m) (hbB : b < B) (hz : B ≤ w.heap.size) (k1 : OwnEl B w e P.es) (k2 : OwnJn B w j P.js) (k3 : OwnSg B w s P.ss) (k4 : OwnLn B w l A) (k5 : ∀ x ∈ A, OwnI B w x.2 x.1.es ∧ x.1.es.length ≤ maxLen) (k6 : A.map Prod.fst = P.ls)
    (k7 : OwnI B wq u x.es) (k8 : x.es.length ≤ maxLen) (hK : KL k h0 w) (g0 : Gr w0 w) (hb : w0.heap.size ≤ b) (gq : Gr w wq) (hR : R = .inr { P with ls := P.ls ++ [x] })
    (hgrow : wq.grownBy w9 l.ownBlock) (hown : w9.ownsRow B 45 2 v' (A.length + 1) (lnCs A ++ x.cs u)) : RetR T w0 b B (KL k h0) m R (.returned (.int .i64 0)) (w9.setCell ⟨b, 3, none⟩ v') := by
  refine RetR.yes hR ?_ (((hK.gr gq).grown hgrow k4 hkB).set hkb _) (RdP.line hT (h1.gr gq) hbB (Nat.le_trans hz gq.size) (own_gr k1 gq) (own_gr k2 gq) (own_gr k3 gq) (own_gr k4 gq) (fun x hx => ⟨own_gr (k5 x hx).1 gq, (k5 x hx).2⟩) k6 k7 k8 hgrow hown)
  exact (Gr.grown (g0.trans gq) hgrow (own_base_le k4 (show w0.heap.size ≤ B by omega))).setCell hb _
end ends
def setN (P : Pln) (i : Nat) (n : Int) : Pln := match i with | 0 => { P with top := n } | 1 => { P with brake := n } | 2 => { P with margin := n } | _ => { P with throw := n }
theorem DrS.of {b B : Nat} {w : World} {P Q : Pln} {e j s l : Value} (h : DrS b B w P e j s l) (h1 : Q.es = P.es) (h2 : Q.js = P.js) (h3 : Q.ss = P.ss) (h4 : Q.ls = P.ls) : DrS b B w Q e j s l := by
  obtain ⟨a, b', c, d, f, A, k4, k5, k6⟩ := h
  refine ⟨a, b', ?_, ?_, ?_, A, k4, k5, ?_⟩
  · rw [h1]; exact c
  · rw [h2]; exact d
  · rw [h3]; exact f
  · rw [h4]; exact k6
theorem RdP.num {T : TypeId} {b B : Nat} {w : World} {P : Pln} {m : Option Bool} (h : RdP T b B w P m) (i : Nat) (hi : i < 4) (n : Int) : RdP T b B (w.setCell ⟨b, 4 + i, none⟩ (.int .i64 n)) (setN P i n) m := by
  obtain ⟨e, j, s, l, ⟨hc, ⟨z, c0, c1, c2, c3, c4, c5, c6, c7, c8⟩, hm⟩, h2⟩ := h
  have q : ∀ o, o ≠ 4 + i → (w.setCell ⟨b, 4 + i, none⟩ (.int .i64 n)).cell? ⟨b, o, none⟩ = w.cell? ⟨b, o, none⟩ := fun o ho => World.cell?_setCell_other _ _ _ _ (by intro e; injection e with _ e2; omega)
  refine ⟨e, j, s, l, ⟨heap_set_own hc, ?_, fun x hx => (q 9 (by omega)).trans (hm x hx)⟩, (h2.of ?_ ?_ ?_ ?_).set _ _⟩
  · rcases (by omega : i = 0 ∨ i = 1 ∨ i = 2 ∨ i = 3) with rfl | rfl | rfl | rfl
    · exact ⟨by simpa using z, (q 0 (by omega)).trans c0, (q 1 (by omega)).trans c1, (q 2 (by omega)).trans c2, (q 3 (by omega)).trans c3, World.cell?_setCell_same _ _ _ c4, (q 5 (by omega)).trans c5, (q 6 (by omega)).trans c6, (q 7 (by omega)).trans c7, (q 8 (by omega)).trans c8⟩
    · exact ⟨by simpa using z, (q 0 (by omega)).trans c0, (q 1 (by omega)).trans c1, (q 2 (by omega)).trans c2, (q 3 (by omega)).trans c3, (q 4 (by omega)).trans c4, World.cell?_setCell_same _ _ _ c5, (q 6 (by omega)).trans c6, (q 7 (by omega)).trans c7, (q 8 (by omega)).trans c8⟩
    · exact ⟨by simpa using z, (q 0 (by omega)).trans c0, (q 1 (by omega)).trans c1, (q 2 (by omega)).trans c2, (q 3 (by omega)).trans c3, (q 4 (by omega)).trans c4, (q 5 (by omega)).trans c5, World.cell?_setCell_same _ _ _ c6, (q 7 (by omega)).trans c7, (q 8 (by omega)).trans c8⟩
    · exact ⟨by simpa using z, (q 0 (by omega)).trans c0, (q 1 (by omega)).trans c1, (q 2 (by omega)).trans c2, (q 3 (by omega)).trans c3, (q 4 (by omega)).trans c4, (q 5 (by omega)).trans c5, (q 6 (by omega)).trans c6, World.cell?_setCell_same _ _ _ c7, (q 8 (by omega)).trans c8⟩
  all_goals (unfold setN; split <;> rfl)
theorem RdP.hard {T : TypeId} {b B : Nat} {w : World} {P : Pln} {m : Option Bool} (h : RdP T b B w P m) (x : Bool) : RdP T b B (w.setCell ⟨b, 8, none⟩ (.bool x)) { P with hard := x } m := by
  obtain ⟨e, j, s, l, ⟨hc, ⟨z, c0, c1, c2, c3, c4, c5, c6, c7, c8⟩, hm⟩, h2⟩ := h
  have q : ∀ o, o ≠ 8 → (w.setCell ⟨b, 8, none⟩ (.bool x)).cell? ⟨b, o, none⟩ = w.cell? ⟨b, o, none⟩ := fun o ho => World.cell?_setCell_other _ _ _ _ (by intro e; injection e with _ e2; omega)
  exact ⟨e, j, s, l, ⟨heap_set_own hc, ⟨by simpa using z, (q 0 (by omega)).trans c0, (q 1 (by omega)).trans c1, (q 2 (by omega)).trans c2, (q 3 (by omega)).trans c3, (q 4 (by omega)).trans c4, (q 5 (by omega)).trans c5, (q 6 (by omega)).trans c6, (q 7 (by omega)).trans c7, World.cell?_setCell_same _ _ _ c8⟩, fun y hy => (q 9 (by omega)).trans (hm y hy)⟩, (DrS.of (Q := { P with hard := x }) h2 rfl rfl rfl rfl).set _ _⟩
theorem RdP.has {T : TypeId} {b B : Nat} {w : World} {P : Pln} {y : Bool} (h : RdP T b B w P (some y)) (x : Bool) : RdP T b B (w.setCell ⟨b, 9, none⟩ (.bool x)) P (some x) := by
  obtain ⟨e, j, s, l, ⟨hc, ⟨z, c0, c1, c2, c3, c4, c5, c6, c7, c8⟩, hm⟩, h2⟩ := h
  have q : ∀ o, o ≠ 9 → (w.setCell ⟨b, 9, none⟩ (.bool x)).cell? ⟨b, o, none⟩ = w.cell? ⟨b, o, none⟩ := fun o ho => World.cell?_setCell_other _ _ _ _ (by intro e; injection e with _ e2; omega)
  exact ⟨e, j, s, l, ⟨heap_set_own hc, ⟨by simpa using z, (q 0 (by omega)).trans c0, (q 1 (by omega)).trans c1, (q 2 (by omega)).trans c2, (q 3 (by omega)).trans c3, (q 4 (by omega)).trans c4, (q 5 (by omega)).trans c5, (q 6 (by omega)).trans c6, (q 7 (by omega)).trans c7, (q 8 (by omega)).trans c8⟩, fun x' hx => by cases hx; exact World.cell?_setCell_same _ _ _ (hm y rfl)⟩, h2.set _ _⟩
theorem RdP.cell9 {T : TypeId} {b B : Nat} {w : World} {P : Pln} {y : Bool} (h : RdP T b B w P (some y)) : b < w.heap.size ∧ w.cell? ⟨b, 9, none⟩ = some (.bool y) ∧ ∀ o, w.frozen? ⟨b, o, none⟩ = false := by
  obtain ⟨e, j, s, l, h1, h2⟩ := h
  exact ⟨h1.lt, h1.2.2 y rfl, h1.frozen⟩
def Fb (b : Nat) (w w' : World) : Prop := w.heap.size ≤ w'.heap.size ∧ ∀ j, j ≠ b → j < w.heap.size → w'.heap[j]? = w.heap[j]?
theorem Fb.refl (b : Nat) (w : World) : Fb b w w := ⟨Nat.le_refl _, fun _ _ _ => rfl⟩
theorem Fb.set {b : Nat} {w w' : World} (h : Fb b w w') (o : Nat) (u : Value) : Fb b w (w'.setCell ⟨b, o, none⟩ u) :=
  ⟨by simpa using h.1, fun j hj hl => (heap_setCell_other w' ⟨b, o, none⟩ j u hj).trans (h.2 j hj hl)⟩
theorem Fb.cell {b : Nat} {w w' : World} (h : Fb b w w') {j : Nat} (o : Nat) (hj : j ≠ b) (hl : j < w.heap.size) : w'.cell? ⟨j, o, none⟩ = w.cell? ⟨j, o, none⟩ := World.cell?_of_block (a := ⟨j, o, none⟩) (h.2 j hj hl)
theorem Fb.lt {b : Nat} {w w' : World} (h : Fb b w w') {j : Nat} (hl : j < w.heap.size) : j < w'.heap.size := Nat.lt_of_lt_of_le hl h.1
theorem RdP.far {T : TypeId} {b B : Nat} {w : World} {P : Pln} {q : Bool} (h : RdP T b B w P (some q)) {bb o : Nat} {x : ByteArray} (hc : w.cell? ⟨bb, o, none⟩ = some (.string x)) : bb ≠ b := by
  rintro rfl
  obtain ⟨e, j, s, l, ⟨⟨cs, hh, hcs⟩, ⟨z, c0, c1, c2, c3, c4, c5, c6, c7, c8⟩, hm⟩, ⟨-, -, k1, k2, k3, A, k4, -⟩⟩ := h
  obtain ⟨_, _, rfl⟩ := own_form k1
  obtain ⟨_, _, rfl⟩ := own_form k2
  obtain ⟨_, _, rfl⟩ := own_form k3
  obtain ⟨_, _, rfl⟩ := own_form k4
  have c9 := hm q rfl
  have ho : o < 10 := by
    rw [cell_of_row w bb o cs T _ hh] at hc
    have := (Array.getElem?_eq_some_iff.1 hc).1
    omega
  rcases (by omega : o = 0 ∨ o = 1 ∨ o = 2 ∨ o = 3 ∨ o = 4 ∨ o = 5 ∨ o = 6 ∨ o = 7 ∨ o = 8 ∨ o = 9) with rfl | rfl | rfl | rfl | rfl | rfl | rfl | rfl | rfl | rfl
  · rw [c0] at hc; cases hc
  · rw [c1] at hc; cases hc
  · rw [c2] at hc; cases hc
  · rw [c3] at hc; cases hc
  · rw [c4] at hc; cases hc
  · rw [c5] at hc; cases hc
  · rw [c6] at hc; cases hc
  · rw [c7] at hc; cases hc
  · rw [c8] at hc; cases hc
  · rw [c9] at hc; cases hc
end Go.Proofs.YtjblplflgiibdaaDoor
namespace Go.Proofs.YtjblplflgiibdaaDoor
open Go.Joins Go.ChangeShapes Go.WideShapes Go.RowKit Go.Deep
set_option linter.unusedVariables false
set_option linter.unusedSimpArgs false
section
variable {H : Type} {enc : TypeId × Value → H} {W : World} {base n : Nat} {sp : Nat → Bool} {held : Bool} {v : Value} {y : DataW H × List MemPlace}
theorem trod_ints (h : DataW.trod enc Tryd.prog W base sp held n 43 [v] = some y) :
    ∃ zs : List Int, IsVals W v (zs.map (Value.int .i64)) ∧ ∀ x ∈ zs, (Lit.int .i64 x).wf = true := by
  rcases open_ints Tryd.underlying43 Tryd.underlying3 (by kernel_rfl) h with ⟨hcs, _⟩ | ⟨x, l, c, zs, hcs, _, hl, hm, hz, _, hcell, hwz⟩
  · simp only [List.cons.injEq, and_true] at hcs
    subst hcs
    exact ⟨[], ⟨none, 0, rfl, by simp, .inl rfl⟩, by simp⟩
  · simp only [List.cons.injEq, and_true] at hcs
    subst hcs
    have hzl : l ≤ zs.length := by rw [hz]; split <;> omega
    have hlen : ((zs.take l).map (Value.int .i64)).length = l := by simp; omega
    refine ⟨zs.take l, ⟨some x, c, by rw [hlen], by rw [hlen]; omega, vals_of fun i y hy => ?_⟩, fun n hn => hwz n (List.mem_of_mem_take hn)⟩
    have hi : i < l := by
      have := (List.getElem?_eq_some_iff.1 hy).1
      omega
    rw [hcell i (by omega)]
    simp only [List.getElem?_map, List.getElem?_take, if_pos hi] at hy
    rw [List.getElem?_eq_getElem (by omega)] at hy
    simp only [Option.map_some, Option.some.injEq] at hy
    rw [← hy, List.getD_eq_getElem?_getD, List.getElem?_eq_getElem (by omega)]
    rfl
theorem trod_rows {t e : TypeId} {sz : Nat} (ht : Tryd.prog.underlying t = some (.slice e)) (hC : Tryd.prog.cellsOf e = sz) (hs : 0 < sz) (h : DataW.trod enc Tryd.prog W base sp held n t [v] = some y) :
    ∃ a l c, v = .slice a l c ∧ l ≤ maxLen ∧ (l = 0 ∨ ∃ b o, a = some ⟨b, o, none⟩ ∧ b < W.heap.size ∧ ∀ i, i < l → ∃ (cs : List Value) (m : Nat) (z : DataW H × List MemPlace), cs.length = sz ∧ (∀ j u, cs[j]? = some u → W.cell? ⟨b, o + i * sz + j, none⟩ = some u) ∧ DataW.trod enc Tryd.prog W base sp held m e cs = some z) := by
  rcases open_slice ht h with ⟨hcs, _⟩ | ⟨a, len, cap, m, k, D, Pl, hcs, hb, hl, hm, hmm, hx, hi⟩
  · simp only [List.cons.injEq, and_true] at hcs
    subst hcs
    exact ⟨none, 0, 0, rfl, by simp, .inl rfl⟩
  · simp only [List.cons.injEq, and_true] at hcs
    subst hcs
    refine ⟨some a, len, cap, rfl, by omega, ?_⟩
    rcases Nat.eq_zero_or_pos len with h0 | h0
    · exact .inl h0
    · right
      have hmle : len ≤ m := by rw [hmm]; split <;> omega
      have key : ∀ i, i < len → ∃ (cs : List Value) (z : DataW H × List MemPlace), cs.length = sz ∧ (∀ j u, cs[j]? = some u → W.cell? (a.add (i * sz + j)) = some u) ∧ DataW.trod enc Tryd.prog W base sp held k e cs = some z := by
        intro i hil
        obtain ⟨cs', hc, ht'⟩ := hi i (by omega)
        rw [hC] at hc
        obtain ⟨_, hcl, hat⟩ := World.cells?_some hc
        refine ⟨cs', _, by omega, fun j u hj => ?_, ht'⟩
        have hjl : j < cs'.length := (List.getElem?_eq_some_iff.1 hj).1
        rw [← Go.Deep.add_add, hat j (by omega), hj]
      obtain ⟨cs0, -, hl0, h00, -⟩ := key 0 h0
      have hc0 : W.cell? (a.add (0 * sz + 0)) = some (cs0[0]'(by omega)) := h00 0 _ (List.getElem?_eq_getElem (by omega))
      obtain ⟨b, off, spot⟩ := a
      have hc0' : W.cell? (⟨b, off, spot⟩ : Addr) = some (cs0[0]'(by omega)) := by simpa [Addr.add] using hc0
      have hspot : spot = none := by simpa using World.cell?_spot hc0'
      subst hspot
      have hp : ∀ j, (⟨b, off, none⟩ : Addr).add j = ⟨b, off + j, none⟩ := fun j => Go.WideShapes.add_plain _ _ _
      refine ⟨b, off, rfl, cell_lt hc0', fun i hil => ?_⟩
      obtain ⟨cs, z, h1, h2, h3⟩ := key i hil
      exact ⟨cs, k, z, h1, fun j u hj => by have := h2 j u hj; rw [hp] at this; rw [show off + i * sz + j = off + (i * sz + j) from by omega]; exact this, h3⟩
end
end Go.Proofs.YtjblplflgiibdaaDoor
namespace Go.Proofs.YtjblplflgiibdaaDoor
open Go.Joins Go.ChangeShapes Go.WideShapes Go.RowKit Go.Deep
set_option linter.unusedVariables false
set_option linter.unusedSimpArgs false
theorem list_of {α : Type} {n : Nat} {Q : Nat → α → Prop} (h : ∀ i, i < n → ∃ x, Q i x) : ∃ L : List α, L.length = n ∧ ∀ i (hi : i < L.length), Q i L[i] := by
  induction n with
  | zero => exact ⟨[], rfl, fun i hi => absurd hi (by simp)⟩
  | succ n ih =>
    obtain ⟨L, hl, hL⟩ := ih fun i hi => h i (by omega)
    obtain ⟨x, hx⟩ := h n (by omega)
    refine ⟨L ++ [x], by simp [hl], fun i hi => ?_⟩
    by_cases e : i < L.length
    · rw [List.getElem_append_left e]; exact hL i e
    · have : i = n := by simp at hi; omega
      subst this
      rw [List.getElem_append_right (by omega)]
      simp [hl]
      exact hx
section
variable {H : Type} {enc : TypeId × Value → H} {W : World} {base n : Nat} {sp : Nat → Bool} {held : Bool} {v : Value} {y : DataW H × List MemPlace}

set_option maxRecDepth 100000 in
theorem trod_prt {cs : List Value} (h : DataW.trod enc Tryd.prog W base sp held n 29 cs = some y) : ∃ x : Prt, cs = x.cs ∧ PrtOk x := by
  obtain ⟨xs, m, _, _, hc, hx, hg⟩ := DataW.trod_struct Tryd.underlying29 h
  have hl : cs.length = 2 := hc.trans (by kernel_rfl)
  have h0 := hg 0 _ rfl
  have h1 := hg 1 _ rfl
  have hxl : xs.length = 2 := hx
  match cs, hl, xs, hxl with
  | [c0, c1], _, [y0, y1], _ =>
    obtain ⟨a, e0, -, wa⟩ := DataW.trod_int (x := y0) Tryd.underlying3 (by simpa [int_cells] using h0)
    obtain ⟨b, e1, -, wb⟩ := DataW.trod_int (x := y1) Tryd.underlying3 (by simpa [int_cells] using h1)
    simp only [List.cons.injEq, and_true] at e0 e1
    subst e0 e1
    exact ⟨⟨a, b⟩, rfl, wa, wb⟩
end
end Go.Proofs.YtjblplflgiibdaaDoor
