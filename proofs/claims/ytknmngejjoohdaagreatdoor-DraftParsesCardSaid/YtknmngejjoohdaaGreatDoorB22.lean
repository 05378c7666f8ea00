/- DrM: The reader of plans: what its box and its rows hold. No walk.
DrN: The reader of plans: the ends: what its box holds behind an append and a store. No walk. -/
import Derived.Test.YtknmngejjoohdaaGreatDoorRows
import Derived.Test.YtknmngejjoohdaaGreatDoorB18
import Derived.Test.YtknmngejjoohdaaGreatDoorB19
import Derived.Test.YtknmngejjoohdaaGreatDoorB3
import Derived.Test.YtknmngejjoohdaaGreatDoorB6
import Derived.Test.YtknmngejjoohdaaGreatDoorB15
import Derived.Test.YtknmngejjoohdaaGreatDoorB21
namespace Go.Proofs.YtknmngejjoohdaaGreatDoor
open Go.ChangeShapes Go.WideShapes Go.ChangeAt Go.RowKit Go.Maps
set_option linter.unusedVariables false
set_option linter.unusedSimpArgs false
theorem Tryz.infoEl : (Tryz.prog.info? 80).map (fun i => (i.zero, i.size, i.bytes)) = some (some (.agg #[.string ByteArray.empty, .int .i64 0, .int .i64 0]), 3, 32) := by kernel_rfl
theorem Tryz.infoJn : (Tryz.prog.info? 82).map (fun i => (i.zero, i.size, i.bytes)) = some (some (.agg #[.int .i64 0, .int .i64 0, .int .i64 0, .int .i64 0]), 4, 32) := by kernel_rfl
theorem Tryz.infoSg : (Tryz.prog.info? 84).map (fun i => (i.zero, i.size, i.bytes)) = some (some (.agg #[.string ByteArray.empty, .int .i64 0, .int .i64 0, .bool false]), 4, 40) := by kernel_rfl
theorem Tryz.infoLn : (Tryz.prog.info? 86).map (fun i => (i.zero, i.size, i.bytes)) = some (some (.agg #[.string ByteArray.empty, .slice none 0 0]), 2, 40) := by kernel_rfl
def Ele.cs (e : Ele) : List Value := [.string e.n, .int .i64 e.k, .int .i64 e.l]
def Jn.cs (q : Jn) : List Value := [.int .i64 q.a.e, .int .i64 q.a.x, .int .i64 q.b.e, .int .i64 q.b.x]
def Sg.cs (s : Sg) : List Value := [.string s.n, .int .i64 s.at_.e, .int .i64 s.at_.x, .bool s.auto]
def Ln.cs (l : Ln) (u : Value) : List Value := [.string l.n, u]
def lnCs (A : List (Ln × Value)) : List Value := A.flatMap fun x => x.1.cs x.2
def OwnEl (B : Nat) (w : World) (v : Value) (L : List Ele) : Prop := w.ownsRow B 80 3 v L.length (L.flatMap Ele.cs)
def OwnJn (B : Nat) (w : World) (v : Value) (L : List Jn) : Prop := w.ownsRow B 82 4 v L.length (L.flatMap Jn.cs)
def OwnSg (B : Nat) (w : World) (v : Value) (L : List Sg) : Prop := w.ownsRow B 84 4 v L.length (L.flatMap Sg.cs)
def OwnLn (B : Nat) (w : World) (v : Value) (A : List (Ln × Value)) : Prop := w.ownsRow B 86 2 v A.length (lnCs A)
theorem OwnEl.nil (B : Nat) (w : World) : OwnEl B w (.slice none 0 0) [] := ⟨rfl, .inl ⟨rfl, rfl⟩⟩
theorem OwnJn.nil (B : Nat) (w : World) : OwnJn B w (.slice none 0 0) [] := ⟨rfl, .inl ⟨rfl, rfl⟩⟩
theorem OwnSg.nil (B : Nat) (w : World) : OwnSg B w (.slice none 0 0) [] := ⟨rfl, .inl ⟨rfl, rfl⟩⟩
theorem OwnLn.nil (B : Nat) (w : World) : OwnLn B w (.slice none 0 0) [] := ⟨rfl, .inl ⟨rfl, rfl⟩⟩
theorem OwnEl.snoc {B : Nat} {w : World} {v : Value} {L : List Ele} {s : Ele} (h : w.ownsRow B 80 3 v (L.length + 1) (L.flatMap Ele.cs ++ s.cs)) : OwnEl B w v (L ++ [s]) := by unfold OwnEl; simpa using h
theorem OwnJn.snoc {B : Nat} {w : World} {v : Value} {L : List Jn} {s : Jn} (h : w.ownsRow B 82 4 v (L.length + 1) (L.flatMap Jn.cs ++ s.cs)) : OwnJn B w v (L ++ [s]) := by unfold OwnJn; simpa using h
theorem OwnSg.snoc {B : Nat} {w : World} {v : Value} {L : List Sg} {s : Sg} (h : w.ownsRow B 84 4 v (L.length + 1) (L.flatMap Sg.cs ++ s.cs)) : OwnSg B w v (L ++ [s]) := by unfold OwnSg; simpa using h
theorem OwnLn.snoc {B : Nat} {w : World} {v : Value} {A : List (Ln × Value)} {r : Ln} {u : Value} (h : w.ownsRow B 86 2 v (A.length + 1) (lnCs A ++ r.cs u)) : OwnLn B w v (A ++ [(r, u)]) := by unfold OwnLn lnCs at *; simpa using h
theorem ownP_diff {w : World} {B B' : Nat} {e e' : TypeId} {sz sz' n n' : Nat} {v v' : Value} {xs xs' : List Value} (h : w.ownsRow B e sz v n xs) (h' : w.ownsRow B' e' sz' v' n' xs') (hne : e' ≠ e) : v.ownBlock = none ∨ v.ownBlock ≠ v'.ownBlock := by
  rcases h'.2 with ⟨rfl, _⟩ | ⟨g, cap, cur, rfl, _, hh, _⟩
  · cases v.ownBlock with
    | none => exact .inl rfl
    | some k => exact .inr (by simp [Value.ownBlock])
  · exact .inr (fun e => own_ne h hh hne (by rw [e]; rfl))
theorem OwnEl.eles {B : Nat} {w : World} {v : Value} {L : List Ele} (h : OwnEl B w v L) (hl : L.length ≤ maxLen) : IsEles w v L := row_of_own h hl fun i j hi hj => by
  rw [flat_get Ele.cs 3 (fun _ => rfl) L i j hi hj, getD_at _ _ hi]
  match j, hj with
  | 0, _ => rfl
  | 1, _ => rfl
  | 2, _ => rfl
theorem OwnJn.jns {B : Nat} {w : World} {v : Value} {L : List Jn} (h : OwnJn B w v L) (hl : L.length ≤ maxLen) : IsJns w v L := row_of_own h hl fun i j hi hj => by
  rw [flat_get Jn.cs 4 (fun _ => rfl) L i j hi hj, getD_at _ _ hi]
  match j, hj with
  | 0, _ => rfl
  | 1, _ => rfl
  | 2, _ => rfl
  | 3, _ => rfl
theorem OwnSg.sgs {B : Nat} {w : World} {v : Value} {L : List Sg} (h : OwnSg B w v L) (hl : L.length ≤ maxLen) : IsSgs w v L := row_of_own h hl fun i j hi hj => by
  rw [flat_get Sg.cs 4 (fun _ => rfl) L i j hi hj, getD_at _ _ hi]
  match j, hj with
  | 0, _ => rfl
  | 1, _ => rfl
  | 2, _ => rfl
  | 3, _ => rfl
def DrS (b B : Nat) (w : World) (P : Pln) (e j s l : Value) : Prop :=
  b < B ∧ B ≤ w.heap.size ∧ OwnEl B w e P.es ∧ OwnJn B w j P.js ∧ OwnSg B w s P.ss ∧ ∃ A, OwnLn B w l A ∧ (∀ x ∈ A, OwnI B w x.2 x.1.es ∧ x.1.es.length ≤ maxLen) ∧ A.map Prod.fst = P.ls
def Bp (T : TypeId) (b : Nat) (w : World) (P : Pln) (e j s l : Value) (m : Option Bool) : Prop :=
  (∃ cs, w.heap[b]? = some (.cells cs T) ∧ cs.size ≤ 10) ∧ PBox w b P e j s l ∧ ∀ x, m = some x → w.cell? ⟨b, 9, none⟩ = some (.bool x)
theorem Bp.block {T : TypeId} {b : Nat} {w w' : World} {P : Pln} {e j s l : Value} {m : Option Bool} (h : Bp T b w P e j s l m) (hb : w'.heap[b]? = w.heap[b]?) (hz : w.heap.size ≤ w'.heap.size) : Bp T b w' P e j s l m := by
  obtain ⟨⟨cs, hh, hcs⟩, ⟨h0, c0, c1, c2, c3, c4, c5, c6, c7, c8⟩, hm⟩ := h
  have k : ∀ o, w'.cell? ⟨b, o, none⟩ = w.cell? ⟨b, o, none⟩ := fun o => World.cell?_of_block (a := ⟨b, o, none⟩) hb
  exact ⟨⟨cs, hb.trans hh, hcs⟩, ⟨Nat.lt_of_lt_of_le h0 hz, (k 0).trans c0, (k 1).trans c1, (k 2).trans c2, (k 3).trans c3, (k 4).trans c4, (k 5).trans c5, (k 6).trans c6, (k 7).trans c7, (k 8).trans c8⟩, fun x hx => (k 9).trans (hm x hx)⟩
theorem Bp.gr {T : TypeId} {b : Nat} {w w' : World} {P : Pln} {e j s l : Value} {m : Option Bool} (h : Bp T b w P e j s l m) (g : Gr w w') : Bp T b w' P e j s l m := h.block (g.block b h.2.1.1) g.size
theorem Bp.lt {T : TypeId} {b : Nat} {w : World} {P : Pln} {e j s l : Value} {m : Option Bool} (h : Bp T b w P e j s l m) : b < w.heap.size := h.2.1.1
theorem Bp.frozen {T : TypeId} {b : Nat} {w : World} {P : Pln} {e j s l : Value} {m : Option Bool} (h : Bp T b w P e j s l m) (o : Nat) : w.frozen? ⟨b, o, none⟩ = false := by
  obtain ⟨⟨cs, hh, -⟩, -⟩ := h
  exact frozen_of_row w b o cs T hh
theorem heap_set_own {w : World} {b o : Nat} {u : Value} {T : TypeId} (h : ∃ cs, w.heap[b]? = some (.cells cs T) ∧ cs.size ≤ 10) : ∃ cs, (w.setCell ⟨b, o, none⟩ u).heap[b]? = some (.cells cs T) ∧ cs.size ≤ 10 := by
  obtain ⟨cs, hh, hc⟩ := h
  exact ⟨_, heap_setCell_same w b o cs T u hh, by simpa using hc⟩
theorem DrS.gr {b B : Nat} {w w' : World} {P : Pln} {e j s l : Value} (h : DrS b B w P e j s l) (g : Gr w w') : DrS b B w' P e j s l := by
  obtain ⟨h0, hz, h1, h2, h3, A, h4, h5, h6⟩ := h
  exact ⟨h0, Nat.le_trans hz g.size, own_gr h1 g, own_gr h2 g, own_gr h3 g, A, own_gr h4 g, fun x hx => ⟨own_gr (h5 x hx).1 g, (h5 x hx).2⟩, h6⟩
theorem DrS.set {b B : Nat} {w : World} {P : Pln} {e j s l : Value} (h : DrS b B w P e j s l) (o : Nat) (u : Value) : DrS b B (w.setCell ⟨b, o, none⟩ u) P e j s l := by
  obtain ⟨h0, hz, h1, h2, h3, A, h4, h5, h6⟩ := h
  have q : ∀ {e : TypeId} {sz n : Nat} {v : Value} {xs : List Value}, w.ownsRow B e sz v n xs → (w.setCell ⟨b, o, none⟩ u).ownsRow B e sz v n xs := fun h => ownsRow_setCell_below h h0 u
  exact ⟨h0, by simpa using hz, q h1, q h2, q h3, A, q h4, fun x hx => ⟨q (h5 x hx).1, (h5 x hx).2⟩, h6⟩
theorem DrS.nil {b B : Nat} {w : World} (h : b < B) (hB : B ≤ w.heap.size) : DrS b B w pln0 (.slice none 0 0) (.slice none 0 0) (.slice none 0 0) (.slice none 0 0) :=
  ⟨h, hB, OwnEl.nil _ _, OwnJn.nil _ _, OwnSg.nil _ _, [], OwnLn.nil _ _, fun x hx => (by cases hx), rfl⟩
def RdP (T : TypeId) (b B : Nat) (w : World) (P : Pln) (m : Option Bool) : Prop := ∃ e j s l, Bp T b w P e j s l m ∧ DrS b B w P e j s l
theorem RdP.gr {T : TypeId} {b B : Nat} {w w' : World} {P : Pln} {m : Option Bool} (h : RdP T b B w P m) (g : Gr w w') : RdP T b B w' P m := by
  obtain ⟨e, j, s, l, h1, h2⟩ := h
  exact ⟨e, j, s, l, h1.gr g, h2.gr g⟩
theorem RdP.elem {T : TypeId} {b B : Nat} {w w3 : World} {P : Pln} {e j s l v' : Value} {m : Option Bool} {x : Ele} (hT : T ≠ 80) (h1 : Bp T b w P e j s l m) (h2 : DrS b B w P e j s l) (hg : w.grownBy w3 e.ownBlock)
    (hown : w3.ownsRow B 80 3 v' (P.es.length + 1) (P.es.flatMap Ele.cs ++ x.cs)) : RdP T b B (w3.setCell ⟨b, 0, none⟩ v') { P with es := P.es ++ [x] } m := by
  obtain ⟨h0, hz, k1, k2, k3, A, k4, k5, k6⟩ := h2
  obtain ⟨cs, hh, -⟩ := h1.1
  have hb := hg.block b h1.lt (own_ne k1 hh hT)
  have h1' := h1.block hb hg.size
  have d : DrS b B w3 { P with es := P.es ++ [x] } v' j s l := ⟨h0, Nat.le_trans hz hg.size, OwnEl.snoc hown, k2.kept hg (ownP_diff k2 k1 (by decide)), k3.kept hg (ownP_diff k3 k1 (by decide)), A, k4.kept hg (ownP_diff k4 k1 (by decide)), fun y hy => ⟨(k5 y hy).1.kept hg (ownP_diff (k5 y hy).1 k1 (by decide)), (k5 y hy).2⟩, k6⟩
  obtain ⟨hc, ⟨z, c0, c1, c2, c3, c4, c5, c6, c7, c8⟩, hm⟩ := h1'
  have q : ∀ o, o ≠ 0 → (w3.setCell ⟨b, 0, none⟩ v').cell? ⟨b, o, none⟩ = w3.cell? ⟨b, o, none⟩ := fun o ho => World.cell?_setCell_other _ _ _ _ (by intro e; injection e with _ e2; omega)
  exact ⟨v', j, s, l, ⟨heap_set_own hc, ⟨by simpa using z, World.cell?_setCell_same _ _ _ c0, (q 1 (by omega)).trans c1, (q 2 (by omega)).trans c2, (q 3 (by omega)).trans c3, (q 4 (by omega)).trans c4, (q 5 (by omega)).trans c5, (q 6 (by omega)).trans c6, (q 7 (by omega)).trans c7, (q 8 (by omega)).trans c8⟩, fun x hx => (q 9 (by omega)).trans (hm x hx)⟩, d.set _ _⟩
theorem RdP.join {T : TypeId} {b B : Nat} {w w3 : World} {P : Pln} {e j s l v' : Value} {m : Option Bool} {x : Jn} (hT : T ≠ 82) (h1 : Bp T b w P e j s l m) (h2 : DrS b B w P e j s l) (hg : w.grownBy w3 j.ownBlock)
    (hown : w3.ownsRow B 82 4 v' (P.js.length + 1) (P.js.flatMap Jn.cs ++ x.cs)) : RdP T b B (w3.setCell ⟨b, 1, none⟩ v') { P with js := P.js ++ [x] } m := by
  obtain ⟨h0, hz, k1, k2, k3, A, k4, k5, k6⟩ := h2
  obtain ⟨cs, hh, -⟩ := h1.1
  have hb := hg.block b h1.lt (own_ne k2 hh hT)
  have h1' := h1.block hb hg.size
  have d : DrS b B w3 { P with js := P.js ++ [x] } e v' s l := ⟨h0, Nat.le_trans hz hg.size, k1.kept hg (ownP_diff k1 k2 (by decide)), OwnJn.snoc hown, k3.kept hg (ownP_diff k3 k2 (by decide)), A, k4.kept hg (ownP_diff k4 k2 (by decide)), fun y hy => ⟨(k5 y hy).1.kept hg (ownP_diff (k5 y hy).1 k2 (by decide)), (k5 y hy).2⟩, k6⟩
  obtain ⟨hc, ⟨z, c0, c1, c2, c3, c4, c5, c6, c7, c8⟩, hm⟩ := h1'
  have q : ∀ o, o ≠ 1 → (w3.setCell ⟨b, 1, none⟩ v').cell? ⟨b, o, none⟩ = w3.cell? ⟨b, o, none⟩ := fun o ho => World.cell?_setCell_other _ _ _ _ (by intro e; injection e with _ e2; omega)
  exact ⟨e, v', s, l, ⟨heap_set_own hc, ⟨by simpa using z, (q 0 (by omega)).trans c0, World.cell?_setCell_same _ _ _ c1, (q 2 (by omega)).trans c2, (q 3 (by omega)).trans c3, (q 4 (by omega)).trans c4, (q 5 (by omega)).trans c5, (q 6 (by omega)).trans c6, (q 7 (by omega)).trans c7, (q 8 (by omega)).trans c8⟩, fun x hx => (q 9 (by omega)).trans (hm x hx)⟩, d.set _ _⟩
theorem RdP.signal {T : TypeId} {b B : Nat} {w w3 : World} {P : Pln} {e j s l v' : Value} {m : Option Bool} {x : Sg} (hT : T ≠ 84) (h1 : Bp T b w P e j s l m) (h2 : DrS b B w P e j s l) (hg : w.grownBy w3 s.ownBlock)
    (hown : w3.ownsRow B 84 4 v' (P.ss.length + 1) (P.ss.flatMap Sg.cs ++ x.cs)) : RdP T b B (w3.setCell ⟨b, 2, none⟩ v') { P with ss := P.ss ++ [x] } m := by
  obtain ⟨h0, hz, k1, k2, k3, A, k4, k5, k6⟩ := h2
  obtain ⟨cs, hh, -⟩ := h1.1
  have hb := hg.block b h1.lt (own_ne k3 hh hT)
  have h1' := h1.block hb hg.size
  have d : DrS b B w3 { P with ss := P.ss ++ [x] } e j v' l := ⟨h0, Nat.le_trans hz hg.size, k1.kept hg (ownP_diff k1 k3 (by decide)), k2.kept hg (ownP_diff k2 k3 (by decide)), OwnSg.snoc hown, A, k4.kept hg (ownP_diff k4 k3 (by decide)), fun y hy => ⟨(k5 y hy).1.kept hg (ownP_diff (k5 y hy).1 k3 (by decide)), (k5 y hy).2⟩, k6⟩
  obtain ⟨hc, ⟨z, c0, c1, c2, c3, c4, c5, c6, c7, c8⟩, hm⟩ := h1'
  have q : ∀ o, o ≠ 2 → (w3.setCell ⟨b, 2, none⟩ v').cell? ⟨b, o, none⟩ = w3.cell? ⟨b, o, none⟩ := fun o ho => World.cell?_setCell_other _ _ _ _ (by intro e; injection e with _ e2; omega)
  exact ⟨e, j, v', l, ⟨heap_set_own hc, ⟨by simpa using z, (q 0 (by omega)).trans c0, (q 1 (by omega)).trans c1, World.cell?_setCell_same _ _ _ c2, (q 3 (by omega)).trans c3, (q 4 (by omega)).trans c4, (q 5 (by omega)).trans c5, (q 6 (by omega)).trans c6, (q 7 (by omega)).trans c7, (q 8 (by omega)).trans c8⟩, fun x hx => (q 9 (by omega)).trans (hm x hx)⟩, d.set _ _⟩
theorem RdP.line {T : TypeId} {b B : Nat} {w w3 : World} {P : Pln} {e j s l v' u : Value} {m : Option Bool} {x : Ln} {A : List (Ln × Value)} (hT : T ≠ 86) (h1 : Bp T b w P e j s l m) (h0 : b < B) (hz : B ≤ w.heap.size) (k1 : OwnEl B w e P.es) (k2 : OwnJn B w j P.js) (k3 : OwnSg B w s P.ss) (k4 : OwnLn B w l A) (k5 : ∀ x ∈ A, OwnI B w x.2 x.1.es ∧ x.1.es.length ≤ maxLen) (k6 : A.map Prod.fst = P.ls)
    (k7 : OwnI B w u x.es) (k8 : x.es.length ≤ maxLen) (hg : w.grownBy w3 l.ownBlock) (hown : w3.ownsRow B 86 2 v' (A.length + 1) (lnCs A ++ x.cs u)) : RdP T b B (w3.setCell ⟨b, 3, none⟩ v') { P with ls := P.ls ++ [x] } m := by
  obtain ⟨cs, hh, -⟩ := h1.1
  have hb := hg.block b h1.lt (own_ne k4 hh hT)
  have h1' := h1.block hb hg.size
  have d : DrS b B w3 { P with ls := P.ls ++ [x] } e j s v' := ⟨h0, Nat.le_trans hz hg.size, k1.kept hg (ownP_diff k1 k4 (by decide)), k2.kept hg (ownP_diff k2 k4 (by decide)), k3.kept hg (ownP_diff k3 k4 (by decide)), A ++ [(x, u)], OwnLn.snoc hown, fun y hy => by
    rcases List.mem_append.1 hy with hy | hy
    · exact ⟨(k5 y hy).1.kept hg (ownP_diff (k5 y hy).1 k4 (by decide)), (k5 y hy).2⟩
    · obtain rfl := List.mem_singleton.1 hy
      exact ⟨k7.kept hg (ownP_diff k7 k4 (by decide)), k8⟩, by simp [k6]⟩
  obtain ⟨hc, ⟨z, c0, c1, c2, c3, c4, c5, c6, c7, c8⟩, hm⟩ := h1'
  have q : ∀ o, o ≠ 3 → (w3.setCell ⟨b, 3, none⟩ v').cell? ⟨b, o, none⟩ = w3.cell? ⟨b, o, none⟩ := fun o ho => World.cell?_setCell_other _ _ _ _ (by intro e; injection e with _ e2; omega)
  exact ⟨e, j, s, v', ⟨heap_set_own hc, ⟨by simpa using z, (q 0 (by omega)).trans c0, (q 1 (by omega)).trans c1, (q 2 (by omega)).trans c2, World.cell?_setCell_same _ _ _ c3, (q 4 (by omega)).trans c4, (q 5 (by omega)).trans c5, (q 6 (by omega)).trans c6, (q 7 (by omega)).trans c7, (q 8 (by omega)).trans c8⟩, fun x hx => (q 9 (by omega)).trans (hm x hx)⟩, d.set _ _⟩
theorem DrS.pln {b B : Nat} {w : World} {P : Pln} {e j s l : Value} (h : DrS b B w P e j s l) (n1 : P.es.length ≤ maxLen) (n2 : P.js.length ≤ maxLen) (n3 : P.ss.length ≤ maxLen) (n4 : P.ls.length ≤ maxLen) : IsPln w (plnV P e j s l) P := by
  obtain ⟨h0, hz, k1, k2, k3, A, k4, k5, k6⟩ := h
  have hl : A.length = P.ls.length := by rw [← k6]; simp
  have i1 := OwnEl.eles k1 n1
  have i2 := OwnJn.jns k2 n2
  have i3 := OwnSg.sgs k3 n3
  have gd : ∀ i (hi : i < A.length), P.ls.getD i default = (A[i]).1 := fun i hi => by
    rw [getD_at _ _ (by omega)]
    simp only [← k6, List.getElem_map]
  have gs : ∀ i (hi : i < A.length), (A.map Prod.snd).getD i (.slice none 0 0) = (A[i]).2 := fun i hi => by
    rw [List.getD_eq_getElem?_getD, List.getElem?_map, List.getElem?_eq_getElem hi]; rfl
  have i4 : IsLns w l P.ls := by
    refine ⟨fun i => (A.map Prod.snd).getD i (.slice none 0 0), ?_, fun i hi => ?_⟩
    · rw [← hl]
      refine row_of_own k4 (by omega) fun i j hi hj => ?_
      unfold lnCs
      rw [flat_get (fun x : Ln × Value => x.1.cs x.2) 2 (fun _ => rfl) A i j hi hj, gd i hi]
      dsimp only
      rw [gs i hi]
      match j, hj with
      | 0, _ => rfl
      | 1, _ => rfl
    · dsimp only
      rw [gd i (by omega), gs i (by omega)]
      exact OwnI.vals (k5 _ (List.getElem_mem _)).1 (k5 _ (List.getElem_mem _)).2
  obtain ⟨a1, c1, rfl, -⟩ := id i1
  obtain ⟨a2, c2, rfl, -⟩ := id i2
  obtain ⟨a3, c3, rfl, -⟩ := id i3
  have i4' := i4
  obtain ⟨S, ⟨a4, c4, rfl, -⟩, -⟩ := i4
  exact ⟨a1, c1, a2, c2, a3, c3, a4, c4, rfl, i1, i2, i3, i4'⟩
end Go.Proofs.YtknmngejjoohdaaGreatDoor
namespace Go.Proofs.YtknmngejjoohdaaGreatDoor
open Go.ChangeShapes Go.WideShapes Go.ChangeAt Go.RowKit Go.Maps
set_option linter.unusedVariables false
set_option linter.unusedSimpArgs false
def KL (k : Nat) (h0 : Option Obj) (w : World) : Prop := w.heap[k]? = h0 ∧ k < w.heap.size
theorem KL.gr {k : Nat} {h0 : Option Obj} {w w' : World} (h : KL k h0 w) (g : Gr w w') : KL k h0 w' := ⟨(g.block k h.2).trans h.1, Nat.lt_of_lt_of_le h.2 g.size⟩
theorem KL.set {k : Nat} {h0 : Option Obj} {w : World} (h : KL k h0 w) {a : Addr} (hk : k ≠ a.block) (u : Value) : KL k h0 (w.setCell a u) := ⟨(heap_setCell_other w a k u hk).trans h.1, by simpa using h.2⟩
theorem KL.grown {w w' : World} {k B : Nat} {h0 : Option Obj} {T : TypeId} {sz n : Nat} {v : Value} {xs : List Value} (h : KL k h0 w) (hg : w.grownBy w' v.ownBlock) {W : World} (ho : W.ownsRow B T sz v n xs) (hk : k < B) : KL k h0 w' := by
  refine ⟨(hg.block k h.2 fun e => ?_).trans h.1, Nat.lt_of_lt_of_le h.2 hg.size⟩
  have := own_base ho k e.symm
  omega
def RetR (T : TypeId) (w0 : World) (b B : Nat) (K : World → Prop) (m : Option Bool) (r : Int ⊕ Pln) (x : Ending) (w' : World) : Prop :=
  match r with
  | .inl n => x = .returned (.int .i64 n) ∧ Gr w0 w'
  | .inr P => x = .returned (.int .i64 0) ∧ Gr w0 w' ∧ K w' ∧ RdP T b B w' P m
theorem RetR.no {T : TypeId} {w0 w' : World} {b B : Nat} {K : World → Prop} {m : Option Bool} {r : Int ⊕ Pln} {n : Int} (h : r = .inl n) (g : Gr w0 w') : RetR T w0 b B K m r (.returned (.int .i64 n)) w' := by subst h; exact ⟨rfl, g⟩
theorem RetR.yes {T : TypeId} {w0 w' : World} {b B : Nat} {K : World → Prop} {m : Option Bool} {r : Int ⊕ Pln} {P : Pln} (h : r = .inr P) (g : Gr w0 w') (k : K w') (d : RdP T b B w' P m) : RetR T w0 b B K m r (.returned (.int .i64 0)) w' := by subst h; exact ⟨rfl, g, k, d⟩
theorem bp_far {T : TypeId} {b : Nat} {w : World} {P : Pln} {e j s l : Value} {m : Option Bool} (h : Bp T b w P e j s l m) {ty : TypeId} {sz n : Nat} {v : Value} {xs : List Value} {B : Nat} (ho : w.ownsRow B ty sz v n xs) (hT : T ≠ ty) : v.ownBlock ≠ some b := by
  obtain ⟨⟨cs, hh, -⟩, -⟩ := h
  exact fun e' => (own_ne ho hh hT) e'.symm
section ends
variable {T : TypeId} {b B k : Nat} {h0 : Option Obj} {P : Pln} {w0 w wq w9 : World} {e j s l v' : Value} {m : Option Bool} {R : Int ⊕ Pln}
theorem elem_end {x : Ele} (hT : T ≠ 80) (hkB : k < B) (hkb : k ≠ b) (h1 : Bp T b w P e j s l m) (h2 : DrS b B w P e j s l) (hK : KL k h0 w) (g0 : Gr w0 w) (hb : w0.heap.size ≤ b) (gq : Gr w wq) (hR : R = .inr { P with es := P.es ++ [x] })
    (hgrow : wq.grownBy w9 e.ownBlock) (hown : w9.ownsRow B 80 3 v' (P.es.length + 1) (P.es.flatMap Ele.cs ++ x.cs)) : RetR T w0 b B (KL k h0) m R (.returned (.int .i64 0)) (w9.setCell ⟨b, 0, none⟩ v') := by
  obtain ⟨hbB, hz, k1, k2, k3, A, k4, k5, k6⟩ := id h2
  refine RetR.yes hR ?_ (((hK.gr gq).grown hgrow k1 hkB).set hkb _) (RdP.elem hT (h1.gr gq) (h2.gr gq) hgrow hown)
  exact (Gr.grown (g0.trans gq) hgrow (own_base_le k1 (show w0.heap.size ≤ B by omega))).setCell hb _
theorem join_end {x : Jn} (hT : T ≠ 82) (hkB : k < B) (hkb : k ≠ b) (h1 : Bp T b w P e j s l m) (h2 : DrS b B w P e j s l) (hK : KL k h0 w) (g0 : Gr w0 w) (hb : w0.heap.size ≤ b) (gq : Gr w wq) (hR : R = .inr { P with js := P.js ++ [x] })
    (hgrow : wq.grownBy w9 j.ownBlock) (hown : w9.ownsRow B 82 4 v' (P.js.length + 1) (P.js.flatMap Jn.cs ++ x.cs)) : RetR T w0 b B (KL k h0) m R (.returned (.int .i64 0)) (w9.setCell ⟨b, 1, none⟩ v') := by
  obtain ⟨hbB, hz, k1, k2, k3, A, k4, k5, k6⟩ := id h2
  refine RetR.yes hR ?_ (((hK.gr gq).grown hgrow k2 hkB).set hkb _) (RdP.join hT (h1.gr gq) (h2.gr gq) hgrow hown)
  exact (Gr.grown (g0.trans gq) hgrow (own_base_le k2 (show w0.heap.size ≤ B by omega))).setCell hb _
theorem signal_end {x : Sg} (hT : T ≠ 84) (hkB : k < B) (hkb : k ≠ b) (h1 : Bp T b w P e j s l m) (h2 : DrS b B w P e j s l) (hK : KL k h0 w) (g0 : Gr w0 w) (hb : w0.heap.size ≤ b) (gq : Gr w wq) (hR : R = .inr { P with ss := P.ss ++ [x] })
    (hgrow : wq.grownBy w9 s.ownBlock) (hown : w9.ownsRow B 84 4 v' (P.ss.length + 1) (P.ss.flatMap Sg.cs ++ x.cs)) : RetR T w0 b B (KL k h0) m R (.returned (.int .i64 0)) (w9.setCell ⟨b, 2, none⟩ v') := by
  obtain ⟨hbB, hz, k1, k2, k3, A, k4, k5, k6⟩ := id h2
  refine RetR.yes hR ?_ (((hK.gr gq).grown hgrow k3 hkB).set hkb _) (RdP.signal hT (h1.gr gq) (h2.gr gq) hgrow hown)
  exact (Gr.grown (g0.trans gq) hgrow (own_base_le k3 (show w0.heap.size ≤ B by omega))).setCell hb _
theorem line_end {x : Ln} {u : Value} {A : List (Ln × Value)} (hT : T ≠ 86) (hkB : k < B) (hkb : k ≠ b) (h1 : Bp T b w P e j s l m) (hbB : b < B) (hz : B ≤ w.heap.size) (k1 : OwnEl B w e P.es) (k2 : OwnJn B w j P.js) (k3 : OwnSg B w s P.ss) (k4 : OwnLn B w l A) (k5 : ∀ x ∈ A, OwnI B w x.2 x.1.es ∧ x.1.es.length ≤ maxLen) (k6 : A.map Prod.fst = P.ls)
    (k7 : OwnI B wq u x.es) (k8 : x.es.length ≤ maxLen) (hK : KL k h0 w) (g0 : Gr w0 w) (hb : w0.heap.size ≤ b) (gq : Gr w wq) (hR : R = .inr { P with ls := P.ls ++ [x] })
    (hgrow : wq.grownBy w9 l.ownBlock) (hown : w9.ownsRow B 86 2 v' (A.length + 1) (lnCs A ++ x.cs u)) : RetR T w0 b B (KL k h0) m R (.returned (.int .i64 0)) (w9.setCell ⟨b, 3, none⟩ v') := by
  refine RetR.yes hR ?_ (((hK.gr gq).grown hgrow k4 hkB).set hkb _) (RdP.line hT (h1.gr gq) hbB (Nat.le_trans hz gq.size) (own_gr k1 gq) (own_gr k2 gq) (own_gr k3 gq) (own_gr k4 gq) (fun x hx => ⟨own_gr (k5 x hx).1 gq, (k5 x hx).2⟩) k6 k7 k8 hgrow hown)
  exact (Gr.grown (g0.trans gq) hgrow (own_base_le k4 (show w0.heap.size ≤ B by omega))).setCell hb _
end ends
def setN (P : Pln) (i : Nat) (n : Int) : Pln := match i with | 0 => { P with top := n } | 1 => { P with brake := n } | 2 => { P with margin := n } | _ => { P with throw := n }
theorem DrS.of {b B : Nat} {w : World} {P Q : Pln} {e j s l : Value} (h : DrS b B w P e j s l) (h1 : Q.es = P.es) (h2 : Q.js = P.js) (h3 : Q.ss = P.ss) (h4 : Q.ls = P.ls) : DrS b B w Q e j s l := by
  obtain ⟨a, b', c, d, f, A, k4, k5, k6⟩ := h
  refine ⟨a, b', ?_, ?_, ?_, A, k4, k5, ?_⟩
  · rw [h1]; exact c
  · rw [h2]; exact d
  · rw [h3]; exact f
  · rw [h4]; exact k6
theorem RdP.num {T : TypeId} {b B : Nat} {w : World} {P : Pln} {m : Option Bool} (h : RdP T b B w P m) (i : Nat) (hi : i < 4) (n : Int) : RdP T b B (w.setCell ⟨b, 4 + i, none⟩ (.int .i64 n)) (setN P i n) m := by
  obtain ⟨e, j, s, l, ⟨hc, ⟨z, c0, c1, c2, c3, c4, c5, c6, c7, c8⟩, hm⟩, h2⟩ := h
  have q : ∀ o, o ≠ 4 + i → (w.setCell ⟨b, 4 + i, none⟩ (.int .i64 n)).cell? ⟨b, o, none⟩ = w.cell? ⟨b, o, none⟩ := fun o ho => World.cell?_setCell_other _ _ _ _ (by intro e; injection e with _ e2; omega)
  refine ⟨e, j, s, l, ⟨heap_set_own hc, ?_, fun x hx => (q 9 (by omega)).trans (hm x hx)⟩, (h2.of ?_ ?_ ?_ ?_).set _ _⟩
  · rcases (by omega : i = 0 ∨ i = 1 ∨ i = 2 ∨ i = 3) with rfl | rfl | rfl | rfl
    · exact ⟨by simpa using z, (q 0 (by omega)).trans c0, (q 1 (by omega)).trans c1, (q 2 (by omega)).trans c2, (q 3 (by omega)).trans c3, World.cell?_setCell_same _ _ _ c4, (q 5 (by omega)).trans c5, (q 6 (by omega)).trans c6, (q 7 (by omega)).trans c7, (q 8 (by omega)).trans c8⟩
    · exact ⟨by simpa using z, (q 0 (by omega)).trans c0, (q 1 (by omega)).trans c1, (q 2 (by omega)).trans c2, (q 3 (by omega)).trans c3, (q 4 (by omega)).trans c4, World.cell?_setCell_same _ _ _ c5, (q 6 (by omega)).trans c6, (q 7 (by omega)).trans c7, (q 8 (by omega)).trans c8⟩
    · exact ⟨by simpa using z, (q 0 (by omega)).trans c0, (q 1 (by omega)).trans c1, (q 2 (by omega)).trans c2, (q 3 (by omega)).trans c3, (q 4 (by omega)).trans c4, (q 5 (by omega)).trans c5, World.cell?_setCell_same _ _ _ c6, (q 7 (by omega)).trans c7, (q 8 (by omega)).trans c8⟩
    · exact ⟨by simpa using z, (q 0 (by omega)).trans c0, (q 1 (by omega)).trans c1, (q 2 (by omega)).trans c2, (q 3 (by omega)).trans c3, (q 4 (by omega)).trans c4, (q 5 (by omega)).trans c5, (q 6 (by omega)).trans c6, World.cell?_setCell_same _ _ _ c7, (q 8 (by omega)).trans c8⟩
  all_goals (unfold setN; split <;> rfl)
theorem RdP.hard {T : TypeId} {b B : Nat} {w : World} {P : Pln} {m : Option Bool} (h : RdP T b B w P m) (x : Bool) : RdP T b B (w.setCell ⟨b, 8, none⟩ (.bool x)) { P with hard := x } m := by
  obtain ⟨e, j, s, l, ⟨hc, ⟨z, c0, c1, c2, c3, c4, c5, c6, c7, c8⟩, hm⟩, h2⟩ := h
  have q : ∀ o, o ≠ 8 → (w.setCell ⟨b, 8, none⟩ (.bool x)).cell? ⟨b, o, none⟩ = w.cell? ⟨b, o, none⟩ := fun o ho => World.cell?_setCell_other _ _ _ _ (by intro e; injection e with _ e2; omega)
  exact ⟨e, j, s, l, ⟨heap_set_own hc, ⟨by simpa using z, (q 0 (by omega)).trans c0, (q 1 (by omega)).trans c1, (q 2 (by omega)).trans c2, (q 3 (by omega)).trans c3, (q 4 (by omega)).trans c4, (q 5 (by omega)).trans c5, (q 6 (by omega)).trans c6, (q 7 (by omega)).trans c7, World.cell?_setCell_same _ _ _ c8⟩, fun y hy => (q 9 (by omega)).trans (hm y hy)⟩, (DrS.of (Q := { P with hard := x }) h2 rfl rfl rfl rfl).set _ _⟩
theorem RdP.has {T : TypeId} {b B : Nat} {w : World} {P : Pln} {y : Bool} (h : RdP T b B w P (some y)) (x : Bool) : RdP T b B (w.setCell ⟨b, 9, none⟩ (.bool x)) P (some x) := by
  obtain ⟨e, j, s, l, ⟨hc, ⟨z, c0, c1, c2, c3, c4, c5, c6, c7, c8⟩, hm⟩, h2⟩ := h
  have q : ∀ o, o ≠ 9 → (w.setCell ⟨b, 9, none⟩ (.bool x)).cell? ⟨b, o, none⟩ = w.cell? ⟨b, o, none⟩ := fun o ho => World.cell?_setCell_other _ _ _ _ (by intro e; injection e with _ e2; omega)
  exact ⟨e, j, s, l, ⟨heap_set_own hc, ⟨by simpa using z, (q 0 (by omega)).trans c0, (q 1 (by omega)).trans c1, (q 2 (by omega)).trans c2, (q 3 (by omega)).trans c3, (q 4 (by omega)).trans c4, (q 5 (by omega)).trans c5, (q 6 (by omega)).trans c6, (q 7 (by omega)).trans c7, (q 8 (by omega)).trans c8⟩, fun x' hx => by cases hx; exact World.cell?_setCell_same _ _ _ (hm y rfl)⟩, h2.set _ _⟩
theorem RdP.cell9 {T : TypeId} {b B : Nat} {w : World} {P : Pln} {y : Bool} (h : RdP T b B w P (some y)) : b < w.heap.size ∧ w.cell? ⟨b, 9, none⟩ = some (.bool y) ∧ ∀ o, w.frozen? ⟨b, o, none⟩ = false := by
  obtain ⟨e, j, s, l, h1, h2⟩ := h
  exact ⟨h1.lt, h1.2.2 y rfl, h1.frozen⟩
theorem RdP.blk {T : TypeId} {b B : Nat} {w : World} {P : Pln} {m : Option Bool} (h : RdP T b B w P m) : b < w.heap.size ∧ b < B ∧ B ≤ w.heap.size := by
  obtain ⟨e, j, s, l, h1, h2⟩ := h
  exact ⟨h1.lt, h2.1, h2.2.1⟩
def Fb (b : Nat) (w w' : World) : Prop := w.heap.size ≤ w'.heap.size ∧ ∀ j, j ≠ b → j < w.heap.size → w'.heap[j]? = w.heap[j]?
theorem Fb.refl (b : Nat) (w : World) : Fb b w w := ⟨Nat.le_refl _, fun _ _ _ => rfl⟩
theorem Fb.set {b : Nat} {w w' : World} (h : Fb b w w') (o : Nat) (u : Value) : Fb b w (w'.setCell ⟨b, o, none⟩ u) :=
  ⟨by simpa using h.1, fun j hj hl => (heap_setCell_other w' ⟨b, o, none⟩ j u hj).trans (h.2 j hj hl)⟩
theorem Fb.cell {b : Nat} {w w' : World} (h : Fb b w w') {j : Nat} (o : Nat) (hj : j ≠ b) (hl : j < w.heap.size) : w'.cell? ⟨j, o, none⟩ = w.cell? ⟨j, o, none⟩ := World.cell?_of_block (a := ⟨j, o, none⟩) (h.2 j hj hl)
theorem Fb.lt {b : Nat} {w w' : World} (h : Fb b w w') {j : Nat} (hl : j < w.heap.size) : j < w'.heap.size := Nat.lt_of_lt_of_le hl h.1
theorem RdP.far {T : TypeId} {b B : Nat} {w : World} {P : Pln} {q : Bool} (h : RdP T b B w P (some q)) {bb o : Nat} {x : ByteArray} (hc : w.cell? ⟨bb, o, none⟩ = some (.string x)) : bb ≠ b := by
  rintro rfl
  obtain ⟨e, j, s, l, ⟨⟨cs, hh, hcs⟩, ⟨z, c0, c1, c2, c3, c4, c5, c6, c7, c8⟩, hm⟩, ⟨-, -, k1, k2, k3, A, k4, -⟩⟩ := h
  obtain ⟨_, _, rfl⟩ := own_form k1
  obtain ⟨_, _, rfl⟩ := own_form k2
  obtain ⟨_, _, rfl⟩ := own_form k3
  obtain ⟨_, _, rfl⟩ := own_form k4
  have c9 := hm q rfl
  have ho : o < 10 := by
    rw [cell_of_row w bb o cs T _ hh] at hc
    have := (Array.getElem?_eq_some_iff.1 hc).1
    omega
  rcases (by omega : o = 0 ∨ o = 1 ∨ o = 2 ∨ o = 3 ∨ o = 4 ∨ o = 5 ∨ o = 6 ∨ o = 7 ∨ o = 8 ∨ o = 9) with rfl | rfl | rfl | rfl | rfl | rfl | rfl | rfl | rfl | rfl
  · rw [c0] at hc; cases hc
  · rw [c1] at hc; cases hc
  · rw [c2] at hc; cases hc
  · rw [c3] at hc; cases hc
  · rw [c4] at hc; cases hc
  · rw [c5] at hc; cases hc
  · rw [c6] at hc; cases hc
  · rw [c7] at hc; cases hc
  · rw [c8] at hc; cases hc
  · rw [c9] at hc; cases hc
end Go.Proofs.YtknmngejjoohdaaGreatDoor
