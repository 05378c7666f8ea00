/- DgM: The reader of timetables: what its box and its rows hold. No walk.
DgW: Lines of a timetable: sizes of what they tell. Plain.
DgX: The reader's lines: what the walks need of words, and of what a line's contract says.
DgZ: The reader's lines: the ends: what the box holds behind the append and the store. No walk.
DgN: The signal, the element of a name: the program's and the reference's.
Clk1: Clock: what each function of clock and of its reference gives.
Clk2: Clock: printing.
Clk3: Clock: Parse, Add, Till and the reference's. -/
import Derived.Test.YtgjnlgcdpbilfaaGreatDoorRows
import Derived.Test.YtgjnlgcdpbilfaaGreatDoorB7
import Derived.Test.YtgjnlgcdpbilfaaGreatDoorB8
import Derived.Test.YtgjnlgcdpbilfaaGreatDoorB2
import Derived.Deep.AppendLies
import Derived.Test.YtgjnlgcdpbilfaaGreatDoorB6
import Derived.LoopN
namespace Go.Proofs.YtgjnlgcdpbilfaaGreatDoor
open Go.ChangeShapes Go.WideShapes Go.ChangeAt Go.RowKit Go.Maps
set_option linter.unusedVariables false
set_option linter.unusedSimpArgs false
theorem Tryz.infoLg : (Tryz.prog.info? 54).map (fun i => (i.zero, i.size, i.bytes)) = some (some (.agg #[.bool false, .int .i64 0, .int .i64 0, .int .i64 0]), 4, 32) := by kernel_rfl
theorem Tryz.infoRn : (Tryz.prog.info? 51).map (fun i => (i.zero, i.size, i.bytes)) = some (some (.agg #[.string ByteArray.empty, .int .i64 0, .int .i64 0, .int .i64 0, .slice none 0 0]), 5, 64) := by kernel_rfl
def OwnLg (B : Nat) (w : World) (v : Value) (L : List Leg) : Prop := w.ownsRow B 54 4 v L.length (L.flatMap Leg.cs)
def runCs (A : List (Rn × Value)) : List Value := A.flatMap fun x => x.1.cs x.2
def OwnRn (B : Nat) (w : World) (v : Value) (A : List (Rn × Value)) : Prop := w.ownsRow B 51 5 v A.length (runCs A)
theorem OwnLg.nil (B : Nat) (w : World) : OwnLg B w (.slice none 0 0) [] := ⟨rfl, .inl ⟨rfl, rfl⟩⟩
theorem OwnRn.nil (B : Nat) (w : World) : OwnRn B w (.slice none 0 0) [] := ⟨rfl, .inl ⟨rfl, rfl⟩⟩
theorem OwnLg.snoc {B : Nat} {w : World} {v : Value} {L : List Leg} {s : Leg} (h : w.ownsRow B 54 4 v (L.length + 1) (L.flatMap Leg.cs ++ s.cs)) : OwnLg B w v (L ++ [s]) := by
  unfold OwnLg
  simpa using h
theorem OwnRn.snoc {B : Nat} {w : World} {v : Value} {A : List (Rn × Value)} {r : Rn} {u : Value} (h : w.ownsRow B 51 5 v (A.length + 1) (runCs A ++ r.cs u)) : OwnRn B w v (A ++ [(r, u)]) := by
  unfold OwnRn runCs at *
  simpa using h
theorem own_capok {B : Nat} {w : World} {e : TypeId} {sz n : Nat} {v : Value} {xs : List Value} (h : w.ownsRow B e sz v n xs) : CapOk v := by
  intro a m c e
  rcases h.2 with ⟨rfl, h0⟩ | ⟨g, cap, cur, rfl, _, _, hc, _⟩
  · cases e; omega
  · cases e; exact hc
theorem OwnLg.legs {B : Nat} {w : World} {v : Value} {L : List Leg} (h : OwnLg B w v L) (hl : L.length ≤ maxLen) : IsLegs w v L := by
  refine ⟨row_of_own h hl fun i j hi hj => ?_, own_capok h⟩
  rw [flat_get Leg.cs 4 (fun _ => rfl) L i j hi hj]
  rw [getD_at _ _ hi]
  match j, hj with
  | 0, _ => rfl
  | 1, _ => rfl
  | 2, _ => rfl
  | 3, _ => rfl
theorem own_setC {w : World} {B : Nat} {e : TypeId} {sz n : Nat} {v : Value} {xs : List Value} (h : w.ownsRow B e sz v n xs) (a : Addr) (ha : a.block < B) (u : Value) : (w.setCell a u).ownsRow B e sz v n xs := ownsRow_setCell_below h ha u
theorem getD_in {α : Type} (l : List α) (d : α) (i : Nat) (hi : i < l.length) : l.getD i d = l[i] := by
  rw [List.getD_eq_getElem?_getD, List.getElem?_eq_getElem hi]; rfl
theorem own_diff {w : World} {B B' : Nat} {e e' : TypeId} {sz sz' n n' : Nat} {v v' : Value} {xs xs' : List Value} (h : w.ownsRow B e sz v n xs) (h' : w.ownsRow B' e' sz' v' n' xs') (hne : e' ≠ e) : v.ownBlock = none ∨ v.ownBlock ≠ v'.ownBlock := by
  rcases h'.2 with ⟨rfl, _⟩ | ⟨g, cap, cur, rfl, _, hh, _⟩
  · cases v.ownBlock with
    | none => exact .inl rfl
    | some k => exact .inr (by simp [Value.ownBlock])
  · exact .inr (fun e => own_ne h hh hne (by rw [e]; rfl))
def Bx (T : TypeId) (b o : Nat) (w : World) (t : Int) (sv rv : Value) : Prop :=
  (∃ cs, w.heap[b]? = some (.cells cs T)) ∧ w.cell? ⟨b, o, none⟩ = some (.int .i64 t) ∧ w.cell? ⟨b, o + 1, none⟩ = some sv ∧ w.cell? ⟨b, o + 2, none⟩ = some rv
theorem Bx.lt {T : TypeId} {b o : Nat} {w : World} {t : Int} {sv rv : Value} (h : Bx T b o w t sv rv) : b < w.heap.size := World.block_lt_of_cell? w _ h.2.1
theorem Bx.frozen {T : TypeId} {b o : Nat} {w : World} {t : Int} {sv rv : Value} (h : Bx T b o w t sv rv) (j : Nat) : w.frozen? ⟨b, j, none⟩ = false := by
  obtain ⟨⟨cs, hh⟩, -⟩ := h
  exact frozen_of_row w b j cs T hh
theorem Bx.block {T : TypeId} {b o : Nat} {w w' : World} {t : Int} {sv rv : Value} (h : Bx T b o w t sv rv) (hb : w'.heap[b]? = w.heap[b]?) : Bx T b o w' t sv rv := by
  obtain ⟨⟨cs, hh⟩, c0, c1, c2⟩ := h
  exact ⟨⟨cs, hb.trans hh⟩, (World.cell?_of_block (a := ⟨b, o, none⟩) hb).trans c0, (World.cell?_of_block (a := ⟨b, o + 1, none⟩) hb).trans c1, (World.cell?_of_block (a := ⟨b, o + 2, none⟩) hb).trans c2⟩
theorem Bx.gr {T : TypeId} {b o : Nat} {w w' : World} {t : Int} {sv rv : Value} (h : Bx T b o w t sv rv) (g : Gr w w') : Bx T b o w' t sv rv := h.block (g.block b h.lt)
theorem heap_set_same {w : World} {b j : Nat} {u : Value} {T : TypeId} (h : ∃ cs, w.heap[b]? = some (.cells cs T)) : ∃ cs, (w.setCell ⟨b, j, none⟩ u).heap[b]? = some (.cells cs T) := by
  obtain ⟨cs, hh⟩ := h
  exact ⟨_, heap_setCell_same w b j cs T u hh⟩
theorem Bx.set0 {T : TypeId} {b o : Nat} {w : World} {t : Int} {sv rv : Value} (h : Bx T b o w t sv rv) (t' : Int) : Bx T b o (w.setCell ⟨b, o, none⟩ (.int .i64 t')) t' sv rv :=
  ⟨heap_set_same h.1, World.cell?_setCell_same _ _ _ h.2.1, (World.cell?_setCell_other _ _ _ _ (by simp)).trans h.2.2.1, (World.cell?_setCell_other _ _ _ _ (by simp)).trans h.2.2.2⟩
theorem Bx.set1 {T : TypeId} {b o : Nat} {w : World} {t : Int} {sv rv : Value} (h : Bx T b o w t sv rv) (v : Value) : Bx T b o (w.setCell ⟨b, o + 1, none⟩ v) t v rv :=
  ⟨heap_set_same h.1, (World.cell?_setCell_other _ _ _ _ (by simp)).trans h.2.1, World.cell?_setCell_same _ _ _ h.2.2.1, (World.cell?_setCell_other _ _ _ _ (by simp)).trans h.2.2.2⟩
theorem Bx.set2 {T : TypeId} {b o : Nat} {w : World} {t : Int} {sv rv : Value} (h : Bx T b o w t sv rv) (v : Value) : Bx T b o (w.setCell ⟨b, o + 2, none⟩ v) t sv v :=
  ⟨heap_set_same h.1, (World.cell?_setCell_other _ _ _ _ (by simp)).trans h.2.1, (World.cell?_setCell_other _ _ _ _ (by simp)).trans h.2.2.1, World.cell?_setCell_same _ _ _ h.2.2.2⟩
theorem PBox.block {w w' : World} {b : Nat} {P : Pln} {e j s l : Value} (h : PBox w b P e j s l) (hb : w'.heap[b]? = w.heap[b]?) (hz : b < w'.heap.size) : PBox w' b P e j s l := by
  obtain ⟨h0, c0, c1, c2, c3, c4, c5, c6, c7, c8⟩ := h
  have k : ∀ o, w'.cell? ⟨b, o, none⟩ = w.cell? ⟨b, o, none⟩ := fun o => World.cell?_of_block (a := ⟨b, o, none⟩) hb
  exact ⟨hz, (k 0).trans c0, (k 1).trans c1, (k 2).trans c2, (k 3).trans c3, (k 4).trans c4, (k 5).trans c5, (k 6).trans c6, (k 7).trans c7, (k 8).trans c8⟩
theorem PBox.set {w : World} {b : Nat} {P : Pln} {e j s l : Value} (h : PBox w b P e j s l) {a : Addr} (ha : a.block ≠ b ∨ 9 ≤ a.off) (u : Value) : PBox (w.setCell a u) b P e j s l := by
  obtain ⟨h0, c0, c1, c2, c3, c4, c5, c6, c7, c8⟩ := h
  have k : ∀ o, o < 9 → (w.setCell a u).cell? ⟨b, o, none⟩ = w.cell? ⟨b, o, none⟩ := fun o ho => World.cell?_setCell_other _ _ _ _ (by rintro rfl; dsimp only at ha; omega)
  exact ⟨by simpa using h0, (k 0 (by omega)).trans c0, (k 1 (by omega)).trans c1, (k 2 (by omega)).trans c2, (k 3 (by omega)).trans c3, (k 4 (by omega)).trans c4, (k 5 (by omega)).trans c5, (k 6 (by omega)).trans c6, (k 7 (by omega)).trans c7, (k 8 (by omega)).trans c8⟩
def Lgs (B M : Nat) (w : World) (A : List (Rn × Value)) : Prop :=
  A = [] ∨ ∃ A' r v, A = A' ++ [(r, v)] ∧ (∀ x ∈ A', OwnLg B w x.2 x.1.legs ∧ x.1.legs.length ≤ maxLen ∧ ∀ k, x.2.ownBlock = some k → k < M) ∧ OwnLg M w v r.legs ∧ r.legs.length ≤ maxLen
theorem Lgs.all {B M : Nat} {w : World} {A : List (Rn × Value)} (h : Lgs B M w A) (hM : B ≤ M) : ∀ x ∈ A, OwnLg B w x.2 x.1.legs ∧ x.1.legs.length ≤ maxLen ∧ ∀ k, x.2.ownBlock = some k → k < w.heap.size := by
  rcases h with rfl | ⟨A', r, v, rfl, h1, h2, h3⟩
  · intro x hx; cases hx
  · intro x hx
    rcases List.mem_append.1 hx with hx | hx
    · obtain ⟨h4, h5, h6⟩ := h1 x hx
      exact ⟨h4, h5, own_lt h4⟩
    · obtain rfl := List.mem_singleton.1 hx
      exact ⟨own_base_le h2 hM, h3, own_lt h2⟩
theorem Lgs.kept {B M : Nat} {w w' : World} {A : List (Rn × Value)} {row : Option Nat} (h : Lgs B M w A) (hg : w.grownBy w' row) (hne : ∀ (B' : Nat) (v : Value) (L : List Leg), OwnLg B' w v L → v.ownBlock = none ∨ v.ownBlock ≠ row) : Lgs B M w' A := by
  rcases h with rfl | ⟨A', r, v, rfl, h1, h2, h3⟩
  · exact .inl rfl
  · exact .inr ⟨A', r, v, rfl, fun x hx => ⟨(h1 x hx).1.kept hg (hne _ _ _ (h1 x hx).1), (h1 x hx).2⟩, h2.kept hg (hne _ _ _ h2), h3⟩
theorem Lgs.gr {B M : Nat} {w w' : World} {A : List (Rn × Value)} (h : Lgs B M w A) (g : Gr w w') : Lgs B M w' A := by
  rcases h with rfl | ⟨A', r, v, rfl, h1, h2, h3⟩
  · exact .inl rfl
  · exact .inr ⟨A', r, v, rfl, fun x hx => ⟨own_gr (h1 x hx).1 g, (h1 x hx).2⟩, own_gr h2 g, h3⟩
theorem Lgs.set {B M : Nat} {w : World} {A : List (Rn × Value)} (h : Lgs B M w A) (hM : B ≤ M) {a : Addr} (ha : a.block < B) (u : Value) : Lgs B M (w.setCell a u) A := by
  rcases h with rfl | ⟨A', r, v, rfl, h1, h2, h3⟩
  · exact .inl rfl
  · exact .inr ⟨A', r, v, rfl, fun x hx => ⟨own_setC (h1 x hx).1 a ha u, (h1 x hx).2⟩, own_setC h2 a (by omega) u, h3⟩
def Dt (b B : Nat) (w : World) (D : Dgm) (sv rv : Value) : Prop :=
  b < B ∧ ∃ A M, OwnK B w sv D.st ∧ OwnRn B w rv A ∧ Lgs B M w A ∧ A.map Prod.fst = D.runs ∧ M ≤ w.heap.size ∧ B ≤ M
theorem Dt.gr {b B : Nat} {w w' : World} {D : Dgm} {sv rv : Value} (h : Dt b B w D sv rv) (g : Gr w w') : Dt b B w' D sv rv := by
  obtain ⟨hbB, A, M, h1, h2, h3, h4, h5, h6⟩ := h
  exact ⟨hbB, A, M, own_gr h1 g, own_gr h2 g, h3.gr g, h4, Nat.le_trans h5 g.size, h6⟩
theorem Dt.nil {b B : Nat} {w : World} (h : b < B) (hB : B ≤ w.heap.size) : Dt b B w dgm0 (.slice none 0 0) (.slice none 0 0) :=
  ⟨h, [], w.heap.size, OwnK.nil _ _, OwnRn.nil _ _, .inl rfl, rfl, Nat.le_refl _, hB⟩
theorem Dt.set {b B : Nat} {w : World} {D : Dgm} {sv rv : Value} (h : Dt b B w D sv rv) (o : Nat) (u : Value) : Dt b B (w.setCell ⟨b, o, none⟩ u) D sv rv := by
  obtain ⟨hbB, A, M, h1, h2, h3, h4, h5, h6⟩ := h
  exact ⟨hbB, A, M, own_setC h1 _ hbB u, own_setC h2 _ hbB u, h3.set h6 hbB u, h4, by simpa using h5, h6⟩
theorem Dt.beg {b B : Nat} {w : World} {D : Dgm} {sv rv : Value} (h : Dt b B w D sv rv) (t : Int) : Dt b B w { D with beg := t } sv rv := h
def Rd (T : TypeId) (b o B : Nat) (w : World) (D : Dgm) : Prop := ∃ sv rv, Bx T b o w D.beg sv rv ∧ Dt b B w D sv rv
theorem Rd.gr {T : TypeId} {b o B : Nat} {w w' : World} {D : Dgm} (h : Rd T b o B w D) (g : Gr w w') : Rd T b o B w' D := by
  obtain ⟨sv, rv, h1, h2⟩ := h
  exact ⟨sv, rv, h1.gr g, h2.gr g⟩
theorem Rd.day {T : TypeId} {b o B : Nat} {w : World} {D : Dgm} (h : Rd T b o B w D) (t : Int) : Rd T b o B (w.setCell ⟨b, o, none⟩ (.int .i64 t)) { D with beg := t } := by
  obtain ⟨sv, rv, h1, h2⟩ := h
  exact ⟨sv, rv, h1.set0 t, (h2.set _ _).beg t⟩
theorem Rd.stock {T : TypeId} {b o B : Nat} {w w3 : World} {D : Dgm} {sv rv v' : Value} {k : Stk} (hT : T ≠ 64) (h1 : Bx T b o w D.beg sv rv) (h2 : Dt b B w D sv rv) (hg : w.grownBy w3 sv.ownBlock)
    (hown : w3.ownsRow B 64 5 v' (D.st.length + 1) (D.st.flatMap Stk.cs ++ k.cs)) : Rd T b o B (w3.setCell ⟨b, o + 1, none⟩ v') { D with st := D.st ++ [k] } := by
  obtain ⟨hbB, A, M, k1, k2, k3, k4, k5, k6⟩ := h2
  obtain ⟨cs, hh⟩ := h1.1
  have hb := hg.block b h1.lt (own_ne k1 hh hT)
  have d : Dt b B w3 { D with st := D.st ++ [k] } v' rv := ⟨hbB, A, M, OwnK.snoc hown, k2.kept hg (own_diff k2 k1 (by decide)), k3.kept hg fun B' v L h => own_diff h k1 (by decide), k4, Nat.le_trans k5 hg.size, k6⟩
  exact ⟨v', rv, (h1.block hb).set1 v', d.set _ _⟩
theorem Rd.run {T : TypeId} {b o B : Nat} {w w3 : World} {D : Dgm} {sv rv v' : Value} {r : Rn} {A : List (Rn × Value)} {M : Nat} (hT : T ≠ 51) (h1 : Bx T b o w D.beg sv rv) (k1 : OwnK B w sv D.st) (k2 : OwnRn B w rv A) (k3 : Lgs B M w A) (k4 : A.map Prod.fst = D.runs) (k5 : M ≤ w.heap.size) (k6 : B ≤ M) (hbB : b < B) (hg : w.grownBy w3 rv.ownBlock) (hr : r.legs = [])
    (hown : w3.ownsRow B 51 5 v' (A.length + 1) (runCs A ++ r.cs (.slice none 0 0))) : Rd T b o B (w3.setCell ⟨b, o + 2, none⟩ v') { D with runs := D.runs ++ [r] } := by
  obtain ⟨cs, hh⟩ := h1.1
  have hb := hg.block b h1.lt (own_ne k2 hh hT)
  have k3' : Lgs B M w3 A := k3.kept hg fun B' v L h => own_diff h k2 (by decide)
  have d : Dt b B w3 { D with runs := D.runs ++ [r] } sv v' := by
    refine ⟨hbB, A ++ [(r, .slice none 0 0)], w3.heap.size, k1.kept hg (own_diff k1 k2 (by decide)), OwnRn.snoc hown, .inr ⟨A, r, _, rfl, fun x hx => ?_, ?_, ?_⟩, by simp [k4], Nat.le_refl _, Nat.le_trans k6 (Nat.le_trans k5 hg.size)⟩
    · exact k3'.all k6 x hx
    · rw [hr]; exact OwnLg.nil _ _
    · rw [hr]; simp
  exact ⟨sv, v', (h1.block hb).set2 v', d.set _ _⟩
theorem runCs_len (A : List (Rn × Value)) : (runCs A).length = A.length * 5 := by
  unfold runCs
  induction A with
  | nil => rfl
  | cons x t ih => rw [List.flatMap_cons, List.length_append, ih]; show 5 + t.length * 5 = (t.length + 1) * 5; omega
theorem runCs_set (A : List (Rn × Value)) (r : Rn) (u v : Value) (l : List Leg) : (runCs (A ++ [(r, u)])).set (A.length * 5 + 4) v = runCs (A ++ [({ r with legs := l }, v)]) := by
  have h : ∀ (q : Rn) (x : Value), runCs (A ++ [(q, x)]) = runCs A ++ q.cs x := fun q x => by unfold runCs; simp
  rw [h, h, List.set_append_right _ _ (by rw [runCs_len]; omega), runCs_len, show A.length * 5 + 4 - A.length * 5 = 4 from by omega]
  rfl
theorem Rd.leg {T : TypeId} {b o g c B : Nat} {w w3 : World} {D : Dgm} {sv u v' : Value} {r : Rn} {x : Leg} {A : List (Rn × Value)} {M : Nat} (hT : T ≠ 54) (hT2 : T ≠ 51) (h1 : Bx T b o w D.beg sv (.slice (some ⟨g, 0, none⟩) (A.length + 1) c)) (k1 : OwnK B w sv D.st) (k2 : OwnRn B w (.slice (some ⟨g, 0, none⟩) (A.length + 1) c) (A ++ [(r, u)]))
    (k3 : ∀ x ∈ A, OwnLg B w x.2 x.1.legs ∧ x.1.legs.length ≤ maxLen ∧ ∀ k, x.2.ownBlock = some k → k < M) (k7 : OwnLg M w u r.legs) (k8 : r.legs.length + 1 ≤ maxLen) (k4 : (A ++ [(r, u)]).map Prod.fst = D.runs) (k5 : M ≤ w.heap.size) (k6 : B ≤ M) (hbB : b < B) (hg : w.grownBy w3 u.ownBlock)
    (hown : w3.ownsRow M 54 4 v' (r.legs.length + 1) (r.legs.flatMap Leg.cs ++ x.cs)) : Rd T b o B (w3.setCell ⟨g, A.length * 5 + 4, none⟩ v') { D with runs := addLeg D.runs x } := by
  obtain ⟨cs, hh⟩ := h1.1
  have hb := hg.block b h1.lt (own_ne k7 hh hT)
  have j2 : OwnRn B w3 _ _ := k2.kept hg (own_diff k2 k7 (by decide))
  have j1 : OwnK B w3 sv D.st := k1.kept hg (own_diff k1 k7 (by decide))
  have j3 : ∀ x ∈ A, OwnLg B w3 x.2 x.1.legs ∧ x.1.legs.length ≤ maxLen ∧ ∀ k, x.2.ownBlock = some k → k < M := fun x hx => by
    obtain ⟨q1, q2, q3⟩ := k3 x hx
    refine ⟨q1.kept hg ?_, q2, q3⟩
    cases hx2 : x.2.ownBlock with
    | none => exact .inl rfl
    | some k => exact .inr fun e => by have := own_base k7 k e.symm; have := q3 k hx2; omega
  have j7 : OwnLg M w3 v' (r.legs ++ [x]) := OwnLg.snoc hown
  have e2 : (A ++ [(r, u)]).length = A.length + 1 := by simp
  have j2' : w3.ownsRow B 51 5 (.slice (some ⟨g, 0, none⟩) (A.length + 1) c) (A.length + 1) (runCs (A ++ [(r, u)])) := by rw [← e2]; rw [← e2] at j2; exact j2
  obtain ⟨s1, s2⟩ := j2'.stored (A.length * 5 + 4) v'
  rw [runCs_set A r u v' (r.legs ++ [x])] at s1
  obtain ⟨cs3, hh3⟩ := (h1.block hb).1
  have hb2 := s2.block b (h1.block hb).lt (by have := own_ne j2' hh3 hT2; exact this)
  refine ⟨sv, .slice (some ⟨g, 0, none⟩) (A.length + 1) c, (h1.block hb).block hb2, hbB, A ++ [({ r with legs := r.legs ++ [x] }, v')], M, j1.kept s2 (own_diff j1 j2' (by decide)), ?_, .inr ⟨A, { r with legs := r.legs ++ [x] }, v', rfl, fun y hy => ?_, j7.kept s2 (own_diff j7 j2' (by decide)), ?_⟩, ?_, ?_, k6⟩
  · unfold OwnRn
    rw [show (A ++ [(({ r with legs := r.legs ++ [x] } : Rn), v')]).length = A.length + 1 from by simp]
    exact s1
  · exact ⟨(j3 y hy).1.kept s2 (own_diff (j3 y hy).1 j2' (by decide)), (j3 y hy).2⟩
  · simpa using k8
  · rw [← k4, List.map_append, List.map_append]
    exact (addLeg_snoc _ _ _).symm
  · have := hg.size; simp; omega
theorem run_cell {w : World} {B g c : Nat} {A : List (Rn × Value)} {r : Rn} {u : Value} (h : OwnRn B w (.slice (some ⟨g, 0, none⟩) (A.length + 1) c) (A ++ [(r, u)])) : w.cell? ⟨g, A.length * 5 + 4, none⟩ = some u ∧ ∀ j, w.frozen? ⟨g, j, none⟩ = false := by
  have e2 : (A ++ [(r, u)]).length = A.length + 1 := by simp
  have h' : w.ownsRow B 51 5 (.slice (some ⟨g, 0, none⟩) (A.length + 1) c) (A.length + 1) (runCs (A ++ [(r, u)])) := by rw [← e2]; rw [← e2] at h; exact h
  refine ⟨?_, fun j => h'.frozenAt j⟩
  rw [h'.cellAt _ (by omega)]
  have : runCs (A ++ [(r, u)]) = runCs A ++ r.cs u := by unfold runCs; simp
  rw [this, List.getElem?_append_right (by rw [runCs_len]; omega), runCs_len, show A.length * 5 + 4 - A.length * 5 = 4 from by omega]
  rfl
theorem runs_getD (A : List (Rn × Value)) (i : Nat) (hi : i < A.length) : (A.map Prod.fst).getD i default = (A[i]).1 := by
  rw [getD_in _ _ i (by simpa using hi)]; simp
theorem Dt.runs {b B : Nat} {w : World} {D : Dgm} {sv rv : Value} (h : Dt b B w D sv rv) (hn : D.runs.length ≤ maxLen) : IsRuns w rv D.runs := by
  obtain ⟨hbB, A, M, k1, k2, k3, k4, k5, k6⟩ := h
  have hl : A.length = D.runs.length := by rw [← k4]; simp
  refine ⟨⟨fun i => (A.map Prod.snd).getD i (.slice none 0 0), ?_, fun i hi => ?_⟩, own_capok k2⟩
  · rw [← hl]
    refine row_of_own k2 (by omega) fun i j hi hj => ?_
    unfold runCs
    rw [flat_get (fun x : Rn × Value => x.1.cs x.2) 5 (fun _ => rfl) A i j hi hj, ← k4, runs_getD A i hi]
    dsimp only
    rw [getD_in _ _ i (by simpa using hi), List.getElem_map]
    match j, hj with
    | 0, _ => rfl
    | 1, _ => rfl
    | 2, _ => rfl
    | 3, _ => rfl
    | 4, _ => rfl
  · rw [← k4, runs_getD A i (by omega)]
    dsimp only
    rw [getD_in _ _ i (by simp; omega), List.getElem_map]
    obtain ⟨q1, q2, -⟩ := k3.all k6 A[i] (List.getElem_mem _)
    exact OwnLg.legs q1 q2
theorem Dt.stks {b B : Nat} {w : World} {D : Dgm} {sv rv : Value} (h : Dt b B w D sv rv) (hn : D.st.length ≤ maxLen) : IsStks w sv D.st := by
  obtain ⟨hbB, A, M, k1, -⟩ := h
  exact OwnK.stks k1 hn
theorem Dt.dgm {b B : Nat} {w : World} {D : Dgm} {sv rv : Value} (h : Dt b B w D sv rv) (h1 : D.st.length ≤ maxLen) (h2 : D.runs.length ≤ maxLen) : IsDgm w (.agg #[.int .i64 D.beg, sv, rv]) D := IsDgm.of (h.stks h1) (h.runs h2)
end Go.Proofs.YtgjnlgcdpbilfaaGreatDoor
namespace Go.Proofs.YtgjnlgcdpbilfaaGreatDoor
open Go.ChangeShapes Go.WideShapes Go.ChangeAt Go.RowKit Go.Maps
set_option linter.unusedVariables false
set_option linter.unusedSimpArgs false
def SzD (n : Nat) (D : Dgm) : Prop := D.st.length ≤ n ∧ D.runs.length ≤ n ∧ (∀ r ∈ D.runs, r.legs.length ≤ n ∧ r.nm.size ≤ maxLen) ∧ ∀ s ∈ D.st, s.nm.size ≤ maxLen
theorem SzD.zero : SzD 0 dgm0 := ⟨Nat.le_refl _, Nat.le_refl _, (fun r hr => by cases hr), (fun s hs => by cases hs)⟩
theorem addLeg_mem : ∀ (A : List Rn) (x : Leg), ∀ r ∈ addLeg A x, ∃ q ∈ A, r.nm = q.nm ∧ r.legs.length ≤ q.legs.length + 1
  | [], x, r, h => by cases h
  | [a], x, r, h => by
    obtain rfl := List.mem_singleton.1 h
    exact ⟨a, by simp, rfl, by simp⟩
  | a :: b :: t, x, r, h => by
    have h' : r ∈ a :: addLeg (b :: t) x := h
    rcases List.mem_cons.1 h' with rfl | h'
    · exact ⟨r, by simp, rfl, by omega⟩
    · obtain ⟨q, hq, h1, h2⟩ := addLeg_mem (b :: t) x r h'
      exact ⟨q, List.mem_cons_of_mem _ hq, h1, h2⟩
theorem leg3_sz {P : Pln} {D D' : Dgm} {tn : Bool} {v t n : ByteArray} {m : Nat} (h : leg3 P D tn v t n = .inr D') (hz : SzD m D) : SzD (m + 1) D' := by
  unfold leg3 at h
  split at h
  · cases h
  · split at h
    · cases h
    · cases h
      obtain ⟨h1, h2, h3, h4⟩ := hz
      refine ⟨Nat.le_succ_of_le h1, ?_, fun r hr => ?_, h4⟩
      · show (addLeg _ _).length ≤ _
        rw [addLeg_len]; omega
      · obtain ⟨q, hq, e1, e2⟩ := addLeg_mem _ _ r hr
        have := h3 q hq
        rw [e1]; exact ⟨by omega, this.2⟩
theorem legW_sz {P : Pln} {D D' : Dgm} {tn : Bool} {w : List ByteArray} {m : Nat} (h : legW P D tn w = .inr D') (hz : SzD m D) : SzD (m + 1) D' := by
  match w with
  | [v, t, n] => exact leg3_sz h hz
  | [] => cases h
  | [_] => cases h
  | [_, _] => cases h
  | _ :: _ :: _ :: _ :: _ => cases h
theorem train5_sz {P : Pln} {D D' : Dgm} {n k s d : ByteArray} {m : Nat} (h : train5 P D n k s d = .inr D') (hz : SzD m D) (hs : n.size ≤ maxLen) : SzD (m + 1) D' := by
  unfold train5 at h
  split at h
  · split at h
    · cases h
    · cases h
      obtain ⟨h1, h2, h3, h4⟩ := hz
      refine ⟨Nat.le_succ_of_le h1, ?_, fun r hr => ?_, h4⟩
      · simp; omega
      · rcases List.mem_append.1 hr with hr | hr
        · have := h3 r hr; exact ⟨by omega, this.2⟩
        · obtain rfl := List.mem_singleton.1 hr
          exact ⟨by simp, hs⟩
  · cases h
theorem lineW_sz {P : Pln} {D D' : Dgm} {f : Bool} {w : List ByteArray} {m : Nat} (h : lineW P D f w = .inr D') (hz : SzD m D) (hs : ∀ x ∈ w, x.size ≤ maxLen) : SzD (m + 1) D' := by
  cases w with
  | nil => cases h
  | cons a t =>
    unfold lineW at h
    dsimp only at h
    split at h
    · cases h
    split at h
    · obtain ⟨h1, h2, h3, h4⟩ := hz
      match t, h with
      | [x], h =>
        have h : (if clkB x = true then .inr { D with beg := clkN x } else .inl 2 : Int ⊕ Dgm) = .inr D' := h
        split at h
        · cases h
          exact ⟨Nat.le_succ_of_le h1, Nat.le_succ_of_le h2, fun r hr => by have := h3 r hr; exact ⟨by omega, this.2⟩, h4⟩
        · cases h
      | [], h => cases h
      | _ :: _ :: _, h => cases h
    split at h
    · unfold stockW at h
      cases hr : rowS (a :: t) with
      | none => rw [hr] at h; cases h
      | some k =>
        rw [hr] at h
        cases h
        obtain ⟨h1, h2, h3, h4⟩ := hz
        refine ⟨by simp; omega, Nat.le_succ_of_le h2, fun r hr => by have := h3 r hr; exact ⟨by omega, this.2⟩, fun s hs' => ?_⟩
        rcases List.mem_append.1 hs' with hs' | hs'
        · exact h4 s hs'
        · obtain rfl := List.mem_singleton.1 hs'
          exact hs _ (by rw [rowS_inv hr]; unfold wordsS; simp)
    split at h
    · match t, h, hs with
      | [n, k, s, d], h, hs => exact train5_sz h hz (hs n (by simp))
      | [], h, _ => cases h
      | [_], h, _ => cases h
      | [_, _], h, _ => cases h
      | [_, _, _], h, _ => cases h
      | _ :: _ :: _ :: _ :: _ :: _, h, _ => cases h
    · unfold legL at h
      dsimp only at h
      split at h
      · exact legW_sz h hz
      · exact legW_sz h hz
theorem lineD_sz {P : Pln} {D D' : Dgm} {f : Bool} {s : ByteArray} {m : Nat} (h : lineD P D f s = .inr D') (hz : SzD m D) (hs : ∀ L, wdB s = some L → ∀ x ∈ L, x.size ≤ maxLen) : SzD (m + 1) D' := by
  unfold lineD at h
  cases hw : wdB s with
  | none => rw [hw] at h; cases h
  | some w => rw [hw] at h; exact lineW_sz h hz (hs w hw)
end Go.Proofs.YtgjnlgcdpbilfaaGreatDoor
namespace Go.Proofs.YtgjnlgcdpbilfaaGreatDoor
open Go.ChangeShapes Go.WideShapes Go.ChangeAt Go.RowKit Go.Maps
set_option linter.unusedVariables false
set_option linter.unusedSimpArgs false
theorem list_five {α : Type} {l : List α} (h : l.length = 5) : ∃ a b c d e, l = [a, b, c, d, e] := by
  match l, h with
  | [a, b, c, d, e], _ => exact ⟨a, b, c, d, e, rfl⟩
theorem list_three {α : Type} {l : List α} (h : l.length = 3) : ∃ a b c, l = [a, b, c] := by
  match l, h with
  | [a, b, c], _ => exact ⟨a, b, c, rfl⟩
theorem list_two {α : Type} {l : List α} (h : l.length = 2) : ∃ a b, l = [a, b] := by
  match l, h with
  | [a, b], _ => exact ⟨a, b, rfl⟩
theorem slice_fourth (b o c : Nat) (hc : 5 ≤ c) (w' : World) : (Instr.slice 55 (.slice (some ⟨b, o, none⟩) 5 c) (some (.int .i64 4)) none none).run Tryz.prog w' = .ok (.slice (some ⟨b, o + 4, none⟩) 1 (c - 4)) w' := by
  rw [run_slice_l (w := w') (P := Tryz.prog) 55 _ 5 c (by kernel_rfl) .i64 4 (by omega) (by omega)]
  have hs : (sizeOf (Tryz.prog.elem 55)).run Tryz.prog w' = .ok 1 w' := by kernel_rfl
  rw [hs]
  simp only [Result.andThen, sliced]
  rw [show Int.toNat 4 = 4 from rfl, if_neg (by omega)]
  rfl
theorem slice_first (b o n c : Nat) (hn : 1 ≤ n) (hc : n ≤ c) : ∃ A, (∀ w', (Instr.slice 55 (.slice (some ⟨b, o, none⟩) n c) (some (.int .i64 1)) none none).run Tryz.prog w' = .ok (.slice A (n - 1) (c - 1)) w') ∧ (1 < n → A = some ⟨b, o + 1, none⟩) := by
  refine ⟨if c = 1 then some ⟨b, o, none⟩ else some ⟨b, o + 1, none⟩, fun w' => ?_, fun h => by rw [if_neg (by omega)]⟩
  rw [run_slice_l (w := w') (P := Tryz.prog) 55 _ n c (by kernel_rfl) .i64 1 (by omega) (by omega)]
  have hs : (sizeOf (Tryz.prog.elem 55)).run Tryz.prog w' = .ok 1 w' := by kernel_rfl
  rw [hs]
  simp only [Result.andThen, sliced]
  rw [show Int.toNat 1 = 1 from rfl]
  by_cases h1 : c = 1
  · rw [if_pos h1, if_pos h1]
  · rw [if_neg h1, if_neg h1]; rfl
theorem vals_five {w : World} {bb o c : Nat} {a b d e f : ByteArray} (h : IsVals w (.slice (some ⟨bb, o, none⟩) 5 c) ([a, b, d, e, f].map Value.string)) :
    bb < w.heap.size ∧ w.cell? ⟨bb, o, none⟩ = some (.string a) ∧ w.cell? ⟨bb, o + 1, none⟩ = some (.string b) ∧ w.cell? ⟨bb, o + 2, none⟩ = some (.string d) ∧ w.cell? ⟨bb, o + 3, none⟩ = some (.string e) ∧ w.cell? ⟨bb, o + 4, none⟩ = some (.string f) ∧ IsVals w (.slice (some ⟨bb, o + 4, none⟩) 1 (c - 4)) ([f].map Value.string) := by
  obtain ⟨a', c', e', _, hx⟩ := h
  simp only [Value.slice.injEq] at e'
  obtain ⟨rfl, -, rfl⟩ := e'
  rcases hx with hx | ⟨b2, o2, h2, hb, hc⟩
  · cases hx
  · cases h2
    refine ⟨hb, hc 0 _ rfl, hc 1 _ rfl, hc 2 _ rfl, hc 3 _ rfl, hc 4 _ rfl, ⟨_, c - 4, rfl, by simp; unfold maxLen; omega, .inr ⟨bb, o + 4, rfl, hb, fun i x hi => ?_⟩⟩⟩
    have := hc (i + 4) x (by simpa using hi)
    rw [show o + 4 + i = o + (i + 4) from by omega]
    exact this
theorem vals_first {w : World} {v : Value} {x : ByteArray} {t : List ByteArray} (h : IsVals w v ((x :: t).map Value.string)) :
    ∃ bb o c, v = .slice (some ⟨bb, o, none⟩) (t.length + 1) c ∧ bb < w.heap.size ∧ w.cell? ⟨bb, o, none⟩ = some (.string x) ∧ Hid (∀ (i : Nat) (hi : i < t.length), w.cell? ⟨bb, o + 1 + i, none⟩ = some (.string t[i])) := by
  obtain ⟨a', c', rfl, _, hx⟩ := h
  rcases hx with hx | ⟨b2, o2, rfl, hb, hc⟩
  · cases hx
  · refine ⟨b2, o2, c', by simp, hb, hc 0 _ rfl, fun i hi => ?_⟩
    rw [show o2 + 1 + i = o2 + (i + 1) from by omega]
    exact hc (i + 1) _ (by simp [hi])
theorem one_val {w : World} {v : Value} {a : Int} (h : IsVals w v ([a].map (Value.int .i64))) : ∃ bb o cc, v = .slice (some ⟨bb, o, none⟩) 1 cc ∧ bb < w.heap.size ∧ w.cell? ⟨bb, o, none⟩ = some (.int .i64 a) := by
  obtain ⟨a', c', rfl, _, hx⟩ := h
  rcases hx with hx | ⟨b2, o2, rfl, hb, hc⟩
  · cases hx
  · exact ⟨b2, o2, c', rfl, hb, hc 0 _ rfl⟩
theorem nums_one (x : ByteArray) : nums [x] = if numB x 4 = true then some [numN x 4] else none := by
  unfold nums
  simp
theorem train5_no {P : Pln} {D : Dgm} {n k s d : ByteArray} (h : nmB n = false ∨ nmB k = false ∨ nmB s = false ∨ numB d 4 = false) : train5 P D n k s d = .inl 2 := by
  unfold train5
  rw [if_neg]
  rintro ⟨h1, h2, h3, h4⟩
  rcases h with h | h | h | h <;> simp_all
theorem train5_at {P : Pln} {D : Dgm} {n k s d : ByteArray} (h1 : nmB n = true) (h2 : nmB k = true) (h3 : nmB s = true) (h4 : numB d 4 = true) : train5 P D n k s d = if findN D.st k < 0 ∨ sigN P s < 0 then .inl 5 else .inr { D with runs := D.runs ++ [⟨n, findN D.st k, sigN P s, numN d 4, []⟩] } := by
  unfold train5
  rw [if_pos ⟨h1, h2, h3, h4⟩]
theorem train_len {P : Pln} {D : Dgm} {L : List ByteArray} (h : L.length ≠ 5) : trainW P D L = .inl 2 := by
  match L, h with
  | [], _ => rfl
  | [_], _ => rfl
  | [_, _], _ => rfl
  | [_, _, _], _ => rfl
  | [_, _, _, _], _ => rfl
  | [_, _, _, _, _], h => exact absurd rfl h
  | _ :: _ :: _ :: _ :: _ :: _ :: _, _ => rfl
theorem legW_len {P : Pln} {D : Dgm} {tn : Bool} {L : List ByteArray} (h : L.length ≠ 3) : legW P D tn L = .inl 2 := by
  match L, h with
  | [], _ => rfl
  | [_], _ => rfl
  | [_, _], _ => rfl
  | [_, _, _], h => exact absurd rfl h
  | _ :: _ :: _ :: _ :: _, _ => rfl
theorem leg3_no {P : Pln} {D : Dgm} {tn : Bool} {v t n : ByteArray} (h : D.runs = [] ∨ nmB n = false ∨ clkB t = false ∨ endW v = 0) : leg3 P D tn v t n = .inl 2 := by
  unfold leg3; rw [if_pos h]
theorem leg3_at {P : Pln} {D : Dgm} {tn : Bool} {v t n : ByteArray} {E : Int} (h1 : D.runs ≠ []) (h2 : nmB n = true) (h3 : clkB t = true) (h4 : endW v = E) (h5 : E ≠ 0) : leg3 P D tn v t n = if toW P E n < 0 then .inl 5 else .inr { D with runs := addLeg D.runs ⟨tn, (clkN t - D.beg) % 86400, E, toW P E n⟩ } := by
  unfold leg3
  rw [if_neg (by rw [h2, h3, h4]; simp [h1, h5]), h4]
def KB (b : Nat) (P : Pln) (e j s l : Value) (k : Nat) (h0 : Option Obj) (w : World) : Prop := PBox w b P e j s l ∧ w.heap[k]? = h0 ∧ k < w.heap.size
theorem KB.gr {b k : Nat} {P : Pln} {e j s l : Value} {h0 : Option Obj} {w w' : World} (h : KB b P e j s l k h0 w) (g : Gr w w') : KB b P e j s l k h0 w' := ⟨h.1.gr g, (g.block k h.2.2).trans h.2.1, Nat.lt_of_lt_of_le h.2.2 g.size⟩
theorem KB.set {b k : Nat} {P : Pln} {e j s l : Value} {h0 : Option Obj} {w : World} (h : KB b P e j s l k h0 w) {a : Addr} (ha : a.block ≠ b ∨ 9 ≤ a.off) (hk : k ≠ a.block) (u : Value) : KB b P e j s l k h0 (w.setCell a u) := ⟨h.1.set ha u, (heap_setCell_other w a k u hk).trans h.2.1, by simpa using h.2.2⟩
def RetLn (T : TypeId) (w0 : World) (b o B : Nat) (K : World → Prop) (r : Int ⊕ Dgm) (x : Ending) (w' : World) : Prop :=
  match r with
  | .inl n => x = .returned (.int .i64 n) ∧ Gr w0 w'
  | .inr D => x = .returned (.int .i64 0) ∧ Gr w0 w' ∧ K w' ∧ Rd T b o B w' D
theorem RetLn.no {T : TypeId} {w0 w' : World} {b o B : Nat} {K : World → Prop} {r : Int ⊕ Dgm} {n : Int} (h : r = .inl n) (g : Gr w0 w') : RetLn T w0 b o B K r (.returned (.int .i64 n)) w' := by subst h; exact ⟨rfl, g⟩
theorem RetLn.yes {T : TypeId} {w0 w' : World} {b o B : Nat} {K : World → Prop} {r : Int ⊕ Dgm} {D : Dgm} (h : r = .inr D) (g : Gr w0 w') (k : K w') (d : Rd T b o B w' D) : RetLn T w0 b o B K r (.returned (.int .i64 0)) w' := by subst h; exact ⟨rfl, g, k, d⟩
end Go.Proofs.YtgjnlgcdpbilfaaGreatDoor
namespace Go.Proofs.YtgjnlgcdpbilfaaGreatDoor
open Go.ChangeShapes Go.WideShapes Go.ChangeAt Go.RowKit Go.Maps
set_option linter.unusedVariables false
set_option linter.unusedSimpArgs false
theorem bx_far {T : TypeId} {b o : Nat} {w : World} {t : Int} {sv rv : Value} (h : Bx T b o w t sv rv) {e : TypeId} {sz n : Nat} {v : Value} {xs : List Value} {B : Nat} (ho : w.ownsRow B e sz v n xs) (hT : T ≠ e) : v.ownBlock ≠ some b := by
  obtain ⟨⟨cs, hh⟩, -⟩ := h
  exact fun e' => (own_ne ho hh hT) e'.symm
theorem PBox.grown {w w' : World} {b : Nat} {P : Pln} {e j s l : Value} {v : Value} (h : PBox w b P e j s l) (hg : w.grownBy w' v.ownBlock) (hne : v.ownBlock ≠ some b) : PBox w' b P e j s l :=
  h.block (hg.block b h.1 (Ne.symm hne)) (Nat.lt_of_lt_of_le h.1 hg.size)
theorem KB.grown {w w' : World} {b k B : Nat} {P : Pln} {e j s l : Value} {h0 : Option Obj} {T : TypeId} {sz n : Nat} {v : Value} {xs : List Value} (h : KB b P e j s l k h0 w) (hg : w.grownBy w' v.ownBlock) (hne : v.ownBlock ≠ some b) {W : World} (ho : W.ownsRow B T sz v n xs) (hk : k < B) : KB b P e j s l k h0 w' := by
  refine ⟨h.1.grown hg hne, (hg.block k h.2.2 fun e => ?_).trans h.2.1, Nat.lt_of_lt_of_le h.2.2 hg.size⟩
  have := own_base ho k e.symm
  omega
theorem train_end {T : TypeId} (hT : T ≠ 51) {b B k gg cap rc : Nat} {h0 : Option Obj} {ra : Option Addr} {P : Pln} {e j s l : Value} {D : Dgm} {w0 w wq w9 : World} {sv : Value} {A : List (Rn × Value)} {M : Nat} {R : Int ⊕ Dgm} {r : Rn}
    (hbx : Bx T b 9 w D.beg sv (.slice ra A.length rc)) (k1 : OwnK B w sv D.st) (k2 : OwnRn B w (.slice ra A.length rc) A) (k3 : Lgs B M w A) (k4 : A.map Prod.fst = D.runs) (k5 : M ≤ w.heap.size) (k6 : B ≤ M) (hbB : b < B) (hkB : k < B) (hkb : k ≠ b)
    (hB : KB b P e j s l k h0 w) (g0 : Gr w0 w) (hb : w0.heap.size ≤ b) (gq : Gr w wq) (hr : r.legs = []) (hR : R = .inr { D with runs := D.runs ++ [r] })
    (hgrow : wq.grownBy w9 (Value.slice ra A.length rc).ownBlock) (hown : w9.ownsRow B 51 5 (.slice (some ⟨gg, 0, none⟩) (A.length + 1) cap) (A.length + 1) (runCs A ++ r.cs (.slice none 0 0))) :
    RetLn T w0 b 9 B (KB b P e j s l k h0) R (.returned (.int .i64 0)) (w9.setCell ⟨b, 11, none⟩ (.slice (some ⟨gg, 0, none⟩) (A.length + 1) cap)) := by
  have hfar := bx_far hbx k2 hT
  have hd := Rd.run hT (hbx.gr gq) (own_gr k1 gq) (own_gr k2 gq) (k3.gr gq) k4 (Nat.le_trans k5 gq.size) k6 hbB hgrow hr hown
  refine RetLn.yes hR ?_ (((hB.gr gq).grown hgrow hfar k2 hkB).set (.inr (by simp)) hkb _) hd
  exact (Gr.grown (g0.trans gq) hgrow (own_base_le k2 (show w0.heap.size ≤ B by omega))).setCell hb _
theorem stock_end {T : TypeId} (hT : T ≠ 64) {b B k gg cap sc : Nat} {h0 : Option Obj} {sa : Option Addr} {P : Pln} {e j s l : Value} {D : Dgm} {w0 w wq w9 : World} {rv : Value} {R : Int ⊕ Dgm} {kk : Stk}
    (hbx : Bx T b 9 w D.beg (.slice sa D.st.length sc) rv) (hkB : k < B) (hkb : k ≠ b) (hd : Dt b B w D (.slice sa D.st.length sc) rv)
    (hB : KB b P e j s l k h0 w) (g0 : Gr w0 w) (hb : w0.heap.size ≤ b) (gq : Gr w wq) (hR : R = .inr { D with st := D.st ++ [kk] })
    (hgrow : wq.grownBy w9 (Value.slice sa D.st.length sc).ownBlock) (hown : w9.ownsRow B 64 5 (.slice (some ⟨gg, 0, none⟩) (D.st.length + 1) cap) (D.st.length + 1) (D.st.flatMap Stk.cs ++ kk.cs)) :
    RetLn T w0 b 9 B (KB b P e j s l k h0) R (.returned (.int .i64 0)) (w9.setCell ⟨b, 10, none⟩ (.slice (some ⟨gg, 0, none⟩) (D.st.length + 1) cap)) := by
  obtain ⟨hbB, A, M, k1, k2⟩ := id hd
  have hfar := bx_far hbx k1 hT
  have hd' := Rd.stock hT (hbx.gr gq) (hd.gr gq) hgrow hown
  refine RetLn.yes hR ?_ (((hB.gr gq).grown hgrow hfar k1 hkB).set (.inr (by simp)) hkb _) hd'
  exact (Gr.grown (g0.trans gq) hgrow (own_base_le k1 (show w0.heap.size ≤ B by omega))).setCell hb _
theorem leg_end {T : TypeId} (hT : T ≠ 54) (hT2 : T ≠ 51) {b B k g c gg cap uc : Nat} {h0 : Option Obj} {ua : Option Addr} {P : Pln} {e j s l : Value} {D : Dgm} {w0 w wq w9 : World} {sv : Value} {A : List (Rn × Value)} {M : Nat} {R : Int ⊕ Dgm} {r : Rn} {x : Leg}
    (hbx : Bx T b 9 w D.beg sv (.slice (some ⟨g, 0, none⟩) (A.length + 1) c)) (k1 : OwnK B w sv D.st) (k2 : OwnRn B w (.slice (some ⟨g, 0, none⟩) (A.length + 1) c) (A ++ [(r, .slice ua r.legs.length uc)]))
    (k3 : ∀ x ∈ A, OwnLg B w x.2 x.1.legs ∧ x.1.legs.length ≤ maxLen ∧ ∀ k, x.2.ownBlock = some k → k < M) (k7 : OwnLg M w (.slice ua r.legs.length uc) r.legs) (k8 : r.legs.length + 1 ≤ maxLen) (k4 : (A ++ [(r, Value.slice ua r.legs.length uc)]).map Prod.fst = D.runs) (k5 : M ≤ w.heap.size) (k6 : B ≤ M) (hbB : b < B) (hkB : k < B) (hkb : k ≠ b)
    (hgb : B ≤ g) (hB : KB b P e j s l k h0 w) (g0 : Gr w0 w) (hb : w0.heap.size ≤ b) (gq : Gr w wq) (hR : R = .inr { D with runs := addLeg D.runs x })
    (hgrow : wq.grownBy w9 (Value.slice ua r.legs.length uc).ownBlock) (hown : w9.ownsRow M 54 4 (.slice (some ⟨gg, 0, none⟩) (r.legs.length + 1) cap) (r.legs.length + 1) (r.legs.flatMap Leg.cs ++ x.cs)) :
    RetLn T w0 b 9 B (KB b P e j s l k h0) R (.returned (.int .i64 0)) (w9.setCell ⟨g, A.length * 5 + 4, none⟩ (.slice (some ⟨gg, 0, none⟩) (r.legs.length + 1) cap)) := by
  have hfar := bx_far hbx k7 hT
  have hd' := Rd.leg hT hT2 (hbx.gr gq) (own_gr k1 gq) (own_gr k2 gq) (fun x hx => ⟨own_gr (k3 x hx).1 gq, (k3 x hx).2⟩) (own_gr k7 gq) k8 k4 (Nat.le_trans k5 gq.size) k6 hbB hgrow hown
  refine RetLn.yes hR ?_ (((hB.gr gq).grown hgrow hfar k7 (Nat.lt_of_lt_of_le hkB k6)).set (.inl (by simp; omega)) (by simp; omega) _) hd'
  exact (Gr.grown (g0.trans gq) hgrow (own_base_le k7 (show w0.heap.size ≤ M by omega))).setCell (by simp; omega) _
end Go.Proofs.YtgjnlgcdpbilfaaGreatDoor
namespace Go.Proofs.YtgjnlgcdpbilfaaGreatDoor
open Go.ChangeShapes Go.WideShapes Go.ChangeAt Go.RowKit Go.Maps
set_option linter.unusedVariables false
set_option linter.unusedSimpArgs false
def Sg.val (s : Sg) : Value := .agg #[.string s.n, .int .i64 s.at_.e, .int .i64 s.at_.x, .bool s.auto]
def Ele.val (e : Ele) : Value := .agg #[.string e.n, .int .i64 e.k, .int .i64 e.l]
theorem sig1_any (s : Sg) (n : ByteArray) (B : Nat) (w : World) (hb : B < w.heap.size) (hc : w.cell? ⟨B, 0, none⟩ = some (.string n)) :
    Calls Tryz.prog 130 #[s.val, .pointer (some ⟨B, 0, none⟩)] w fun e w' => e = .returned (.bool (decide (s.n = n))) ∧ Gr w w' := by
  obtain ⟨nm, ⟨pe, px⟩, au⟩ := s
  unfold Sg.val
  dsimp only
  go_enter Tryz.func130, Tryz.ntmps130
  go_wp2_with fail
  go_ret
  exact ⟨ret_bool (str_dec _ _), (Gr.refl _).alloc _⟩
set_option maxHeartbeats 400000 in
theorem sigidx_any (L : List Sg) (p : Sg → Bool) (v cap : Value) (w : World) (hL : IsSgs w v L)
    (hc : ∀ (w' : World), Gr w w' → ∀ (i : Nat) (hi : i < L.length), Calls Tryz.prog 130 #[L[i].val, cap] w' fun e w'' => e = .returned (.bool (p L[i])) ∧ Gr w' w'') :
    Calls Tryz.prog 129 #[v, .func (.func 130) #[] #[cap]] w fun e w' => e = .returned (.int .i64 (fstN p L)) ∧ Gr w w' := by
  have HL := Lib.hid hL
  obtain ⟨a, c, rfl, hm, -⟩ := hL
  unfold maxLen at hm
  have HC := Lib.hid hc
  clear hc
  go_enter Tryz.func129, Tryz.ntmps129
  go_wp2_with fail
  go_loopw [5, 8] (fun _ x wr => ∃ k : Nat, x = .int .i64 k ∧ k ≤ L.length ∧ Gr w wr ∧ Hid (∀ i (hi : i < L.length), i < k → p L[i] = false)) (fun _ x _ => L.length - (intOf x).toNat)
  case atStart => exact ⟨0, rfl, Nat.zero_le _, Gr.refl _, fun i _ h => by omega⟩
  case round =>
    obtain ⟨k, rfl, hk, g, HA⟩ := hrel
    by_cases hlt : k < L.length
    · have hk1 : (k : Int) < (L.length : Int) := by omega
      obtain ⟨bb, o, hs, z, y0, y1, y2, y3⟩ := (IsSgs.gr HL.out g).at k hlt
      subst hs
      have HP := Lib.hid (fun w' (h : Gr w w') => HC.out w' h k hlt)
      have HY : Hid (p L[k] = true → fstN p L = k) := fun h => fstN_go p hlt h fun i hi hik => HA.out i hi hik
      have HN : Hid (p L[k] = false → ∀ i (hi : i < L.length), i < k + 1 → p L[i] = false) := fun h i hi hik => by
        by_cases e : i = k
        · subst e; exact h
        · exact HA.out i hi (by omega)
      clear HA
      generalize p L[k] = q at HP HY HN
      generalize L[k] = s at y0 y1 y2 y3 HP
      obtain ⟨nm, ⟨pe, px⟩, au⟩ := s
      unfold Sg.val at HP
      dsimp only at y0 y1 y2 y3 HP
      skip
      cases q
      · have HN2 := Lib.hid (HN.out rfl)
        clear HY HN
        go_wp2_with (first | (go_at_call 130; (with_reducible refine (HP.out _ g).mono ?_); rintro e w2 ⟨rfl, g2⟩) | fail)
        go_roundw
        case rel => exact ⟨k + 1, by go_num, hlt, g.trans g2, HN2.out⟩
        case measure => simp [intOf]; omega
      · have HY2 := Lib.hid (HY.out rfl)
        clear HY HN
        go_wp2_with (first | (go_at_call 130; (with_reducible refine (HP.out _ g).mono ?_); rintro e w2 ⟨rfl, g2⟩) | fail)
        go_ret
        exact ⟨ret_int HY2.out.symm, g.trans g2⟩
    · have hk1 : ¬ (k : Int) < (L.length : Int) := by omega
      have HR := Lib.hid (fstN_no p fun i hi => HA.out i hi (by omega))
      go_wp2_with fail
      go_ret
      exact ⟨ret_int HR.out.symm, g⟩
set_option maxHeartbeats 400000 in
theorem sig_any (v : Value) (P : Pln) (n : ByteArray) (w : World) (hP : IsPln w v P) :
    Calls Tryz.prog 117 #[v, .string n] w fun e w' => e = .returned (.int .i64 (sigN P n)) ∧ Gr w w' := by
  obtain ⟨a1, c1, a2, c2, a3, c3, a4, c4, rfl, h1, h2, h3, h4⟩ := hP
  have g1 : Gr w (w.alloc (.cells #[.slice a1 P.es.length c1, .slice a2 P.js.length c2, .slice a3 P.ss.length c3, .slice a4 P.ls.length c4, .int .i64 P.top, .int .i64 P.brake, .int .i64 P.margin, .int .i64 P.throw, .bool P.hard] 27)) := (Gr.refl _).alloc _
  have g0 : Gr w ((w.alloc (.cells #[.slice a1 P.es.length c1, .slice a2 P.js.length c2, .slice a3 P.ss.length c3, .slice a4 P.ls.length c4, .int .i64 P.top, .int .i64 P.brake, .int .i64 P.margin, .int .i64 P.throw, .bool P.hard] 27)).alloc (.cells #[.string n] 9)) := g1.alloc _
  have hz0 : (w.alloc (.cells #[.slice a1 P.es.length c1, .slice a2 P.js.length c2, .slice a3 P.ss.length c3, .slice a4 P.ls.length c4, .int .i64 P.top, .int .i64 P.brake, .int .i64 P.margin, .int .i64 P.throw, .bool P.hard] 27)).heap.size = w.heap.size + 1 := by simp
  have HI := Lib.hid (sigidx_any P.ss (fun s => decide (s.n = n)) _ (.pointer (some ⟨w.heap.size + 1, 0, none⟩)) _ (IsSgs.gr h3 g0) (fun w' g i hi => by
    have hz : w.heap.size + 1 < ((w.alloc (.cells #[.slice a1 P.es.length c1, .slice a2 P.js.length c2, .slice a3 P.ss.length c3, .slice a4 P.ls.length c4, .int .i64 P.top, .int .i64 P.brake, .int .i64 P.margin, .int .i64 P.throw, .bool P.hard] 27)).alloc (.cells #[.string n] 9)).heap.size := by simp
    exact sig1_any P.ss[i] n (w.heap.size + 1) w' (Nat.lt_of_lt_of_le hz g.size) ((g.cell _ _ hz).trans (by rw [← hz0, World.cell?_alloc_mark]; rfl))))
  have HD : Hid (fstN (fun s => decide (s.n = n)) P.ss = sigN P n) := rfl
  generalize sigN P n = R at HD ⊢
  rw [HD.out] at HI
  unfold plnV
  clear h1 h2 h3 h4 HD
  go_enter Tryz.func117, Tryz.ntmps117
  go_wp2_with (first | (go_at_call 129; (with_reducible refine (HI.out).mono ?_); rintro e w2 ⟨rfl, g2⟩) | fail)
  go_ret
  exact ⟨rfl, g0.trans g2⟩
theorem ele1_any (s : Ele) (n : ByteArray) (B : Nat) (w : World) (hb : B < w.heap.size) (hc : w.cell? ⟨B, 0, none⟩ = some (.string n)) :
    Calls Tryz.prog 132 #[s.val, .pointer (some ⟨B, 0, none⟩)] w fun e w' => e = .returned (.bool (decide (s.n = n))) ∧ Gr w w' := by
  obtain ⟨nm, ek, el⟩ := s
  unfold Ele.val
  dsimp only
  go_enter Tryz.func132, Tryz.ntmps132
  go_wp2_with fail
  go_ret
  exact ⟨ret_bool (str_dec _ _), (Gr.refl _).alloc _⟩
set_option maxHeartbeats 400000 in
theorem eleidx_any (L : List Ele) (p : Ele → Bool) (v cap : Value) (w : World) (hL : IsEles w v L)
    (hc : ∀ (w' : World), Gr w w' → ∀ (i : Nat) (hi : i < L.length), Calls Tryz.prog 132 #[L[i].val, cap] w' fun e w'' => e = .returned (.bool (p L[i])) ∧ Gr w' w'') :
    Calls Tryz.prog 131 #[v, .func (.func 132) #[] #[cap]] w fun e w' => e = .returned (.int .i64 (fstN p L)) ∧ Gr w w' := by
  have HL := Lib.hid hL
  obtain ⟨a, c, rfl, hm, -⟩ := hL
  unfold maxLen at hm
  have HC := Lib.hid hc
  clear hc
  go_enter Tryz.func131, Tryz.ntmps131
  go_wp2_with fail
  go_loopw [5, 8] (fun _ x wr => ∃ k : Nat, x = .int .i64 k ∧ k ≤ L.length ∧ Gr w wr ∧ Hid (∀ i (hi : i < L.length), i < k → p L[i] = false)) (fun _ x _ => L.length - (intOf x).toNat)
  case atStart => exact ⟨0, rfl, Nat.zero_le _, Gr.refl _, fun i _ h => by omega⟩
  case round =>
    obtain ⟨k, rfl, hk, g, HA⟩ := hrel
    by_cases hlt : k < L.length
    · have hk1 : (k : Int) < (L.length : Int) := by omega
      obtain ⟨bb, o, hs, z, y0, y1, y2⟩ := (IsEles.gr HL.out g).at k hlt
      subst hs
      have HP := Lib.hid (fun w' (h : Gr w w') => HC.out w' h k hlt)
      have HY : Hid (p L[k] = true → fstN p L = k) := fun h => fstN_go p hlt h fun i hi hik => HA.out i hi hik
      have HN : Hid (p L[k] = false → ∀ i (hi : i < L.length), i < k + 1 → p L[i] = false) := fun h i hi hik => by
        by_cases e : i = k
        · subst e; exact h
        · exact HA.out i hi (by omega)
      clear HA
      generalize p L[k] = q at HP HY HN
      generalize L[k] = s at y0 y1 y2 HP
      obtain ⟨nm, ek, el⟩ := s
      unfold Ele.val at HP
      dsimp only at y0 y1 y2 HP
      skip
      cases q
      · have HN2 := Lib.hid (HN.out rfl)
        clear HY HN
        go_wp2_with (first | (go_at_call 132; (with_reducible refine (HP.out _ g).mono ?_); rintro e w2 ⟨rfl, g2⟩) | fail)
        go_roundw
        case rel => exact ⟨k + 1, by go_num, hlt, g.trans g2, HN2.out⟩
        case measure => simp [intOf]; omega
      · have HY2 := Lib.hid (HY.out rfl)
        clear HY HN
        go_wp2_with (first | (go_at_call 132; (with_reducible refine (HP.out _ g).mono ?_); rintro e w2 ⟨rfl, g2⟩) | fail)
        go_ret
        exact ⟨ret_int HY2.out.symm, g.trans g2⟩
    · have hk1 : ¬ (k : Int) < (L.length : Int) := by omega
      have HR := Lib.hid (fstN_no p fun i hi => HA.out i hi (by omega))
      go_wp2_with fail
      go_ret
      exact ⟨ret_int HR.out.symm, g⟩
set_option maxHeartbeats 400000 in
theorem ele_any (v : Value) (P : Pln) (n : ByteArray) (w : World) (hP : IsPln w v P) :
    Calls Tryz.prog 119 #[v, .string n] w fun e w' => e = .returned (.int .i64 (eleN P n)) ∧ Gr w w' := by
  obtain ⟨a1, c1, a2, c2, a3, c3, a4, c4, rfl, h1, h2, h3, h4⟩ := hP
  have g1 : Gr w (w.alloc (.cells #[.slice a1 P.es.length c1, .slice a2 P.js.length c2, .slice a3 P.ss.length c3, .slice a4 P.ls.length c4, .int .i64 P.top, .int .i64 P.brake, .int .i64 P.margin, .int .i64 P.throw, .bool P.hard] 27)) := (Gr.refl _).alloc _
  have g0 : Gr w ((w.alloc (.cells #[.slice a1 P.es.length c1, .slice a2 P.js.length c2, .slice a3 P.ss.length c3, .slice a4 P.ls.length c4, .int .i64 P.top, .int .i64 P.brake, .int .i64 P.margin, .int .i64 P.throw, .bool P.hard] 27)).alloc (.cells #[.string n] 9)) := g1.alloc _
  have hz0 : (w.alloc (.cells #[.slice a1 P.es.length c1, .slice a2 P.js.length c2, .slice a3 P.ss.length c3, .slice a4 P.ls.length c4, .int .i64 P.top, .int .i64 P.brake, .int .i64 P.margin, .int .i64 P.throw, .bool P.hard] 27)).heap.size = w.heap.size + 1 := by simp
  have HI := Lib.hid (eleidx_any P.es (fun s => decide (s.n = n)) _ (.pointer (some ⟨w.heap.size + 1, 0, none⟩)) _ (IsEles.gr h1 g0) (fun w' g i hi => by
    have hz : w.heap.size + 1 < ((w.alloc (.cells #[.slice a1 P.es.length c1, .slice a2 P.js.length c2, .slice a3 P.ss.length c3, .slice a4 P.ls.length c4, .int .i64 P.top, .int .i64 P.brake, .int .i64 P.margin, .int .i64 P.throw, .bool P.hard] 27)).alloc (.cells #[.string n] 9)).heap.size := by simp
    exact ele1_any P.es[i] n (w.heap.size + 1) w' (Nat.lt_of_lt_of_le hz g.size) ((g.cell _ _ hz).trans (by rw [← hz0, World.cell?_alloc_mark]; rfl))))
  have HD : Hid (fstN (fun s => decide (s.n = n)) P.es = eleN P n) := rfl
  generalize eleN P n = R at HD ⊢
  rw [HD.out] at HI
  unfold plnV
  clear h1 h2 h3 h4 HD
  go_enter Tryz.func119, Tryz.ntmps119
  go_wp2_with (first | (go_at_call 131; (with_reducible refine (HI.out).mono ?_); rintro e w2 ⟨rfl, g2⟩) | fail)
  go_ret
  exact ⟨rfl, g0.trans g2⟩
end Go.Proofs.YtgjnlgcdpbilfaaGreatDoor
namespace Go.Proofs.YtgjnlgcdpbilfaaGreatDoor
open Go.ChangeShapes Go.WideShapes Go.ChangeAt Go.RowKit
set_option linter.unusedVariables false
set_option linter.unusedSimpArgs false

theorem time_plain (t : Int) (h : t.tmod 86400 < 0) : t.tmod 86400 + 86400 = t % 86400 := by
  have := Int.tmod_eq_emod (a := t) (b := 86400)
  split at this <;> omega
theorem time_plain' (t : Int) (h : 0 ≤ t.tmod 86400) : t.tmod 86400 = t % 86400 := by
  have := Int.tmod_eq_emod (a := t) (b := 86400)
  split at this <;> omega
theorem time_bd (t : Int) : -86400 < t.tmod 86400 ∧ t.tmod 86400 < 86400 := by
  have := Int.tmod_eq_emod (a := t) (b := 86400)
  split at this <;> omega
theorem time_any (t : Int) (w : World) :
    Calls Tryz.prog 76 #[.int .i64 t] w fun e w' => e = .returned (.int .i64 (t % 86400)) ∧ w = w' := by
  have hb := time_bd t
  obtain ⟨hb1, hb2⟩ := hb
  by_cases h : t.tmod 86400 < 0
  · go_enter Tryz.func76, Tryz.ntmps76
    go_wp2
    go_ret
    exact ⟨ret_int (time_plain t h), rfl⟩
  · have h' : 0 ≤ t.tmod 86400 := by omega
    clear h
    go_enter Tryz.func76, Tryz.ntmps76
    go_wp2
    go_ret
    exact ⟨ret_int (time_plain' t h'), rfl⟩
theorem two_any (s : ByteArray) (h0 : 0 < s.size) (h1 : 1 < s.size) (w : World) :
    Calls Tryz.prog 114 #[.string s] w fun e w' => e = .returned (.tuple #[.int .i64 (twoN (bt s 0) (bt s 1)), .bool (twoB (bt s 0) (bt s 1))]) ∧ Gr w w' := by
  have e0 := bt_get s 0 h0
  have e1 := bt_get s 1 h1
  have H0 := Lib.hid e0
  have H1 := Lib.hid e1
  clear e0 e1
  go_enter Tryz.func114, Tryz.ntmps114
  go_wp2
  all_goals try (go_quiet (fail); go_wp2)
  all_goals go_ret2
  all_goals first
    | (have hh : twoB (bt s 0) (bt s 1) = false := by (rw [H0.out, H1.out]; unfold twoB; simp; omega)
       refine ⟨ret_ib ?_ hh.symm, ?_⟩
       · unfold twoN; rw [hh]; rfl
       · exact Gr.refl _)
    | (have hh : twoB (bt s 0) (bt s 1) = true := by (rw [H0.out, H1.out]; unfold twoB; simp; omega)
       refine ⟨ret_ib ?_ hh.symm, ?_⟩
       · unfold twoN; rw [hh, H0.out, H1.out]; rfl
       · exact Gr.drewN (Gr.refl _) _)
end Go.Proofs.YtgjnlgcdpbilfaaGreatDoor
namespace Go.Proofs.YtgjnlgcdpbilfaaGreatDoor
open Go.ChangeShapes Go.WideShapes Go.ChangeAt Go.RowKit
set_option linter.unusedVariables false
set_option linter.unusedSimpArgs false

theorem digits_any (n : Int) (h0 : 0 ≤ n) (h1 : n ≤ 99) (w : World) :
    Calls Tryz.prog 77 #[.int .i64 n] w fun e w' => e = .returned (.string (digT n)) ∧ Gr w w' := by
  have hc := fun wx => conv2 (P := Tryz.prog) 46 9 5 Tryz.underlying46 Tryz.underlying5 Tryz.underlying9 (48 + n / 10) (48 + n % 10) (by omega) (by omega) wx 5
  go_enter Tryz.func77, Tryz.ntmps77
  go_wp2
  go_ret
  exact ⟨ret_str rfl, (Gr.refl _).alloc _⟩
theorem time_hid (t T : Int) (hT : Hid (T = t % 86400)) (w : World) :
    Calls Tryz.prog 76 #[.int .i64 t] w fun e w' => e = .returned (.int .i64 T) ∧ w = w' := by
  rw [hT.out]; exact time_any t w
theorem print_any (t : Int) (w : World) :
    Calls Tryz.prog 45 #[.int .i64 t] w fun e w' => e = .returned (.string (clkT (t % 86400))) ∧ Gr w w' := by
  obtain ⟨T, hT⟩ : ∃ T, T = t % 86400 := ⟨_, rfl⟩
  have b0 : 0 ≤ T := by omega
  have b1 : T < 86400 := by omega
  have HT := Lib.hid hT
  clear hT
  go_enter Tryz.func45, Tryz.ntmps45
  go_wp2_with (first | (go_at_call 76; refine (time_hid t T HT _).mono ?_; rintro e w' ⟨rfl, rfl⟩) | (go_at_call 77; refine (digits_any _ (by omega) (by omega) _).mono ?_; rintro e w' ⟨rfl, hb⟩))
  go_ret
  rename_i q1 q2 _ _ _ q3 _
  rw [← HT.out]
  refine ⟨ret_str rfl, ?_⟩
  exact (Gr.trans (by assumption) (Gr.trans (by assumption) (by assumption)))
end Go.Proofs.YtgjnlgcdpbilfaaGreatDoor
namespace Go.Proofs.YtgjnlgcdpbilfaaGreatDoor
open Go.ChangeShapes Go.WideShapes Go.ChangeAt Go.RowKit
set_option linter.unusedVariables false
set_option linter.unusedSimpArgs false

theorem add_any (t d : Int) (w : World) :
    Calls Tryz.prog 79 #[.int .i64 t, .int .i64 d] w fun e w' => e = .returned (.int .i64 ((t + d) % 86400)) ∧ w = w' := by
  obtain ⟨T, hT⟩ : ∃ T, T = t % 86400 := ⟨_, rfl⟩
  obtain ⟨D, hD⟩ : ∃ D, D = d % 86400 := ⟨_, rfl⟩
  have b0 : 0 ≤ T ∧ T < 86400 := by omega
  have b1 : 0 ≤ D ∧ D < 86400 := by omega
  have e : (T + D) % 86400 = (t + d) % 86400 := by omega
  have E := Lib.hid e
  have HT := Lib.hid hT
  have HD := Lib.hid hD
  clear hT hD e
  go_enter Tryz.func79, Tryz.ntmps79
  go_wp2_with fail
  refine (time_hid t T HT _).mono ?_
  rintro e w' ⟨rfl, rfl⟩
  go_wp2_with fail
  refine (time_hid d D HD _).mono ?_
  rintro e w' ⟨rfl, rfl⟩
  go_wp2_with fail
  refine (time_any _ _).mono ?_
  rintro e w' ⟨rfl, rfl⟩
  go_wp2_with fail
  go_ret
  exact ⟨ret_int E.out, rfl⟩
theorem till_any (a b : Int) (w : World) :
    Calls Tryz.prog 118 #[.int .i64 a, .int .i64 b] w fun e w' => e = .returned (.int .i64 ((b - a) % 86400)) ∧ w = w' := by
  obtain ⟨T, hT⟩ : ∃ T, T = b % 86400 := ⟨_, rfl⟩
  obtain ⟨D, hD⟩ : ∃ D, D = a % 86400 := ⟨_, rfl⟩
  have b0 : 0 ≤ T ∧ T < 86400 := by omega
  have b1 : 0 ≤ D ∧ D < 86400 := by omega
  have e : (T - D) % 86400 = (b - a) % 86400 := by omega
  have E := Lib.hid e
  have HT := Lib.hid hT
  have HD := Lib.hid hD
  clear hT hD e
  go_enter Tryz.func118, Tryz.ntmps118
  go_wp2_with fail
  refine (time_hid b T HT _).mono ?_
  rintro e w' ⟨rfl, rfl⟩
  go_wp2_with fail
  refine (time_hid a D HD _).mono ?_
  rintro e w' ⟨rfl, rfl⟩
  go_wp2_with fail
  refine (time_any _ _).mono ?_
  rintro e w' ⟨rfl, rfl⟩
  go_wp2_with fail
  go_ret
  exact ⟨ret_int E.out, rfl⟩
theorem two_sub (s : ByteArray) (a b : Nat) (hab : b = a + 2) (hb : b ≤ s.size) (w : World) :
    Calls Tryz.prog 114 #[.string (s.extract a b)] w fun e w' => e = .returned (.tuple #[.int .i64 (twoN (bt s a) (bt s (a + 1))), .bool (twoB (bt s a) (bt s (a + 1)))]) ∧ Gr w w' := by
  have h := two_any (s.extract a b) (by simp; omega) (by simp; omega) w
  rw [bt_extract s a b 0 (by omega) hb, bt_extract s a b 1 (by omega) hb] at h
  exact h
theorem parse_any (s : ByteArray) (w : World) (hs : s.size ≤ maxLen) :
    Calls Tryz.prog 84 #[.string s] w fun e w' => e = .returned (.tuple #[.int .i64 (clkN s), .bool (clkB s)]) ∧ Gr w w' := by
  by_cases h8 : s.size = 8
  · have g2 := bt_get s 2 (by omega)
    have g5 := bt_get s 5 (by omega)
    have l8 : 8 ≤ s.size := by omega
    have G2 := Lib.hid g2
    have G5 := Lib.hid g5
    have H8 := Lib.hid h8
    clear g2 g5
    have n0 := twoN_bd (bt s 0) (bt s 1)
    have n3 := twoN_bd (bt s 3) (bt s 4)
    have n6 := twoN_bd (bt s 6) (bt s 7)
    obtain ⟨n01, n02⟩ := n0
    obtain ⟨n31, n32⟩ := n3
    obtain ⟨n61, n62⟩ := n6
    go_enter Tryz.func84, Tryz.ntmps84
    go_wp2_with (first | (go_at_call 114; refine (two_sub s _ _ rfl (by omega) _).mono ?_; rintro e w' ⟨rfl, hb⟩))
    all_goals go_ret2
    all_goals first
      | (have hB : clkB s = false := by
           cases hq : clkB s with
           | false => rfl
           | true =>
             exfalso
             obtain ⟨_, i2, i5, a, b, c, a1, b1, c1⟩ := clkB_parts hq
             rw [G2.out] at i2
             rw [G5.out] at i5
             first | omega | (simp_all; done) | (simp_all; omega)
         have hN : clkN s = 0 := by unfold clkN; rw [hB]; rfl
         refine ⟨ret_ib hN.symm hB.symm, ?_⟩
         first | exact Gr.refl _ | exact Gr.trans (by assumption) (Gr.trans (by assumption) (by assumption)))
      | (have hB : clkB s = true := by
           unfold clkB
           rw [G2.out, G5.out]
           simp_all <;> omega
         have hN : clkN s = (twoN (bt s 0) (bt s 1) * 60 + twoN (bt s 3) (bt s 4)) * 60 + twoN (bt s 6) (bt s 7) := by unfold clkN; rw [hB]; rfl
         refine ⟨ret_ib hN.symm hB.symm, ?_⟩
         exact Gr.trans (by assumption) (Gr.trans (by assumption) (by assumption)))
  · have hB : clkB s = false := by unfold clkB; simp [h8]
    have hN : clkN s = 0 := by unfold clkN; rw [hB]; rfl
    have HB := Lib.hid hB
    have HN := Lib.hid hN
    have h8' : ((s.size : Int) != 8) = true := by rw [bne_iff_ne]; omega
    clear hB hN h8
    go_enter Tryz.func84, Tryz.ntmps84
    go_wp2
    go_ret2
    exact ⟨ret_ib HN.out.symm HB.out.symm, Gr.refl _⟩
end Go.Proofs.YtgjnlgcdpbilfaaGreatDoor
