/- Copies of runs and of legs, one after the other made later: what the rows hold. No walk. -/
import Derived.Test.YtgjnlgcdpbilfaaGreatDoorRows
import Derived.Test.YtgjnlgcdpbilfaaGreatDoorB17
import Derived.Deep.Upon
import Derived.Deep.AppendSrc
namespace Go.Proofs.YtgjnlgcdpbilfaaGreatDoor
open Go.ChangeShapes Go.WideShapes Go.ChangeAt Go.RowKit Go.Maps
set_option linter.unusedVariables false
set_option linter.unusedSimpArgs false
def lat {α : Type} (f : α → α) (L : List α) (k : Nat) : List α := (L.take k).map f ++ L.drop k
theorem lat_zero {α : Type} (f : α → α) (L : List α) : lat f L 0 = L := by unfold lat; simp
theorem lat_done {α : Type} (f : α → α) {L : List α} {k : Nat} (h : L.length ≤ k) : lat f L k = L.map f := by
  unfold lat
  rw [List.take_of_length_le h, List.drop_eq_nil_of_le h, List.append_nil]
theorem lat_len {α : Type} (f : α → α) (L : List α) (k : Nat) : (lat f L k).length = L.length := by
  unfold lat
  simp only [List.length_append, List.length_map, List.length_take, List.length_drop]
  omega
theorem lat_at {α : Type} (f : α → α) {L : List α} {k i : Nat} (hk : k ≤ i) (hi : i < L.length) (h : i < (lat f L k).length) : (lat f L k)[i] = L[i] := by
  have hl : ((L.take k).map f).length = k := by rw [List.length_map, List.length_take]; omega
  have e : (lat f L k)[i]? = L[i]? := by
    unfold lat
    rw [List.getElem?_append_right (by rw [hl]; exact hk), List.getElem?_drop, hl]
    congr 1; omega
  rw [List.getElem?_eq_getElem h, List.getElem?_eq_getElem hi] at e
  exact Option.some.inj e
theorem lat_next {α : Type} (f : α → α) {L : List α} {k : Nat} (hk : k < L.length) : (lat f L k).set k (f L[k]) = lat f L (k + 1) := by
  unfold lat
  have hl : ((L.take k).map f).length = k := by rw [List.length_map, List.length_take]; omega
  rw [List.set_append_right _ _ (by rw [hl]; exact Nat.le_refl _), hl, Nat.sub_self, List.take_succ_eq_append_getElem hk, List.map_append, List.drop_eq_getElem_cons hk, List.set_cons_zero, List.append_assoc]
  rfl
theorem setLegs_fst (A : List (Rn × Value)) (k : Nat) (l : List Leg) (v : Value) (hk : k < A.length) : (setLegs A k l v).map Prod.fst = (A.map Prod.fst).set k { (A.map Prod.fst).getD k default with legs := l } := by
  refine List.ext_getElem (by rw [List.length_map, setLegs_len, List.length_set, List.length_map]) fun i h1 h2 => ?_
  have hi : i < A.length := by simpa using h2
  rw [List.getElem_map, setLegs_at, List.getElem_set]
  by_cases h : i = k
  · subst h
    rw [if_pos rfl, if_pos rfl, runs_getD A i hk]
  · rw [if_neg h, if_neg (Ne.symm h), List.getElem_map]
theorem legCs_at (L : List Leg) (i j : Nat) (hi : i < L.length) (hj : j < 4) : (L.flatMap Leg.cs)[i * 4 + j]? = some (L[i].c j) := by
  rw [flat_get Leg.cs 4 (fun _ => rfl) L i j hi hj]
  match j, hj with
  | 0, _ => rfl
  | 1, _ => rfl
  | 2, _ => rfl
  | 3, _ => rfl
theorem legCs_len (L : List Leg) : (L.flatMap Leg.cs).length = L.length * 4 := flat_len Leg.cs 4 (fun _ => rfl) L
theorem legCs_ext {L : List Leg} {X : List Value} (hl : X.length = L.length * 4) (h : ∀ i j (hi : i < L.length), j < 4 → X[i * 4 + j]? = some (L[i].c j)) : X = L.flatMap Leg.cs := by
  refine List.ext_getElem? fun q => ?_
  by_cases hq : q < L.length * 4
  · have hi : q / 4 < L.length := by omega
    have hj : q % 4 < 4 := by omega
    have e : q = q / 4 * 4 + q % 4 := by omega
    rw [e, h _ _ hi hj, legCs_at L _ _ hi hj]
  · rw [List.getElem?_eq_none (by omega), List.getElem?_eq_none (by rw [legCs_len]; omega)]
theorem legCs_set (L : List Leg) (k : Nat) (hk : k < L.length) (t : Int) : (L.flatMap Leg.cs).set (k * 4 + 1) (.int .i64 t) = (L.set k { L[k] with at_ := t }).flatMap Leg.cs := by
  refine legCs_ext (by rw [List.length_set, legCs_len, List.length_set]) fun i j hi hj => ?_
  have hi' : i < L.length := by simpa using hi
  rw [List.getElem?_set, List.getElem_set]
  by_cases h : k = i
  · subst h
    rw [if_pos rfl]
    by_cases h4 : j = 1
    · subst h4
      rw [if_pos rfl, if_pos (by rw [legCs_len]; omega)]
      rfl
    · rw [if_neg (by omega), legCs_at L k j hk hj]
      have : j = 0 ∨ j = 2 ∨ j = 3 := by omega
      rcases this with rfl | rfl | rfl <;> rfl
  · rw [if_neg h, if_neg (by omega), legCs_at L i j hi' hj]
theorem OwnLg.later {B g c : Nat} {w : World} {L : List Leg} {b : Int} {k : Nat} (h : OwnLg B w (.slice (some ⟨g, 0, none⟩) L.length c) (lat (·.add b) L k)) (hk : k < L.length) : OwnLg B (w.setCell ⟨g, k * 4 + 1, none⟩ (.int .i64 (L[k].at_ + b))) (.slice (some ⟨g, 0, none⟩) L.length c) (lat (·.add b) L (k + 1)) := by
  have hl := lat_len (fun x : Leg => x.add b) L k
  unfold OwnLg at h ⊢
  rw [hl] at h
  rw [lat_len]
  have h2 := (World.ownsRow.stored h (k * 4 + 1) (.int .i64 (L[k].at_ + b))).1
  rw [legCs_set _ k (by rw [hl]; exact hk)] at h2
  have e : ({ (lat (fun x : Leg => x.add b) L k)[k]'(by rw [hl]; exact hk) with at_ := L[k].at_ + b } : Leg) = L[k].add b := by rw [lat_at _ (Nat.le_refl k) hk]; rfl
  rw [e, lat_next _ hk] at h2
  exact h2
theorem OwnLg.cell {B g c : Nat} {w : World} {L : List Leg} {b : Int} {k : Nat} (h : OwnLg B w (.slice (some ⟨g, 0, none⟩) L.length c) (lat (·.add b) L k)) (hk : k < L.length) : w.cell? ⟨g, k * 4 + 1, none⟩ = some (.int .i64 L[k].at_) ∧ w.frozen? ⟨g, k * 4 + 1, none⟩ = false := by
  have hl := lat_len (fun x : Leg => x.add b) L k
  unfold OwnLg at h
  rw [hl] at h
  refine ⟨?_, World.ownsRow.frozenAt h _⟩
  rw [World.ownsRow.cellAt h _ (by omega), legCs_at _ k 1 (by rw [hl]; exact hk) (by omega), lat_at _ (Nat.le_refl k) hk]
  rfl
theorem IsLegs.news {w : World} {a : Addr} {n c : Nat} {L : List Leg} (h : IsLegs w (.slice (some a) n c) L) : ∀ j u, (L.flatMap Leg.cs)[j]? = some u → w.cell? (a.add j) = some u := by
  obtain ⟨⟨a', c', e, hm, hx⟩, hc⟩ := h
  cases e
  have h2 := rowL_at (sz := 4) (n := L.length) (C := fun i j => (L.getD i default).c j) (a := a) (c := c) (w := w) (by omega) ⟨_, _, rfl, hm, hx⟩
  have e : rowL 4 L.length (fun i j => (L.getD i default).c j) = L.flatMap Leg.cs := by
    refine legCs_ext (rowL_len _ _ _) fun i j hi hj => ?_
    rw [rowL_get hi hj, getD_at _ _ hi]
  rw [e] at h2
  exact h2
theorem legCs_one (L : List Leg) : ∀ u ∈ L.flatMap Leg.cs, u.oneCell' = true := by
  intro u hu
  obtain ⟨l, _, hu⟩ := List.mem_flatMap.1 hu
  simp only [Leg.cs, List.mem_cons, List.not_mem_nil, or_false] at hu
  rcases hu with rfl | rfl | rfl | rfl <;> rfl
theorem OwnRn.relabel {B g c : Nat} {w : World} {A : List (Rn × Value)} {k : Nat} {l l' : List Leg} {u : Value} (h : OwnRn B w (.slice (some ⟨g, 0, none⟩) A.length c) (setLegs A k l u)) (hk : k < A.length) : OwnRn B w (.slice (some ⟨g, 0, none⟩) A.length c) (setLegs A k l' u) := by
  unfold OwnRn at h ⊢
  rw [setLegs_len] at h ⊢
  rw [← runCs_legs A k hk] at h ⊢
  exact h
def anyL (R : List Rn) (k : Nat) : Bool := (R.take k).any fun r => decide (0 < r.legs.length)
theorem anyL_zero (R : List Rn) : anyL R 0 = false := by unfold anyL; simp
theorem anyL_next {R : List Rn} {k : Nat} (hk : k < R.length) : anyL R (k + 1) = (anyL R k || decide (0 < R[k].legs.length)) := by
  unfold anyL
  rw [List.take_succ_eq_append_getElem hk, List.any_append]
  simp
theorem anyL_some {R : List Rn} {k : Nat} (h : anyL R k = true) : ∃ r ∈ R, r.legs ≠ [] := by
  unfold anyL at h
  obtain ⟨r, hr, h1⟩ := List.any_eq_true.1 h
  refine ⟨r, List.mem_of_mem_take hr, fun e => ?_⟩
  rw [e] at h1
  exact absurd h1 (by simp)
theorem addD_nm {D : Dgm} {b : Int} {q : Nat} (h : ∀ r ∈ D.runs, r.nm.size ≤ q) : ∀ r ∈ (addD D b).runs, r.nm.size ≤ q := fun r hr => by
  obtain ⟨x, hx, rfl⟩ := List.mem_map.1 hr
  exact h x hx
theorem append_nilL (w : World) (la : Option Addr) (lc b : Nat) : (Builtin.append_ #[49, 49] 49 #[.slice (some ⟨b, 0, none⟩) 0 0, .slice la 0 lc]).run Tryz.prog w = .ok (.slice (some ⟨b, 0, none⟩) 0 0) w := by
  obtain ⟨i0, hi, hz0, hz1, hz2⟩ := info_parts Tryz.infoLg
  have ht := Tryz.underlying49
  cases la with
  | none => exact run_append_nothing w _ _ _ _ i0 ht hi _ 0 0 (Nat.le_refl _) _ (Src.ofNil w ht lc)
  | some a => exact run_append_nothing w _ _ _ _ i0 ht hi _ 0 0 (Nat.le_refl _) _ (Src.ofSlice w ht a 0 lc [] (by simp) (fun j u h => by simp at h) (fun u h => by simp at h))
theorem append_nilR (w : World) (la : Option Addr) (lc b : Nat) : (Builtin.append_ #[29, 29] 29 #[.slice (some ⟨b, 0, none⟩) 0 0, .slice la 0 lc]).run Tryz.prog w = .ok (.slice (some ⟨b, 0, none⟩) 0 0) w := by
  obtain ⟨i0, hi, hz0, hz1, hz2⟩ := info_parts Tryz.infoRn
  have ht := Tryz.underlying29
  cases la with
  | none => exact run_append_nothing w _ _ _ _ i0 ht hi _ 0 0 (Nat.le_refl _) _ (Src.ofNil w ht lc)
  | some a => exact run_append_nothing w _ _ _ _ i0 ht hi _ 0 0 (Nat.le_refl _) _ (Src.ofSlice w ht a 0 lc [] (by simp) (fun j u h => by simp at h) (fun u h => by simp at h))
theorem wpList_append_empty {P : Program} {w : World} {ops : Array Oper} {rest : List Oper} {o : Oper} {a : Act} {Q : Exit → Act → World → Prop} (hgd : o.guard = none) (s x : Operand) (t : TypeId)
    (ho : o.op = .call { callee := .builtin .append, args := #[s, x], argTypes := #[t, t] }) (v u : Value) (hs : a.eval s = v) (hx : a.eval x = u) (hrun : (Builtin.append_ #[t, t] o.type #[v, u]).run P w = .ok v w)
    (h : wpList P ops Q rest (a.put o.dst v) w) : wpList P ops Q (o :: rest) a w := by
  refine wpList_plain hgd fun K hK => ?_
  unfold Oper.wp
  simp [execOp, ho, resolve, invoke, builtin, hs, hx, hrun, Result.andThen]
  exact hK _ _ h
theorem step_append_empty {P : Program} {w : World} {ops : Array Oper} {o : Oper} {a : Act} {K : Act → World → Prop} {Q : Exit → Act → World → Prop} {E : Prop} (hgd : o.guard = none) (s x : Operand) (t : TypeId)
    (ho : o.op = .call { callee := .builtin .append, args := #[s, x], argTypes := #[t, t] }) (v u : Value) (hs : a.eval s = v) (hx : a.eval x = u) (hrun : (Builtin.append_ #[t, t] o.type #[v, u]).run P w = .ok v w)
    (h : K (a.put o.dst v) w) : if Region.wanted o (yielded ops a.tmps) = true then Oper.wp P o a w K Q else E := by
  have hw : Region.wanted o (yielded ops a.tmps) = true := by simp [Region.wanted, hgd]
  rw [if_pos hw]
  unfold Oper.wp
  simp [execOp, ho, resolve, invoke, builtin, hs, hx, hrun, Result.andThen]
  exact h
theorem lastL_le (m : Int) : ∀ (L : List Leg) (n : Int), n ≤ m → (∀ l ∈ L, l.at_ ≤ m) → lastL n L ≤ m
  | [], n, h, _ => h
  | l :: t, n, h, hl => by
    have h1 := hl l (by simp)
    exact lastL_le m t _ (by omega) fun x hx => hl x (List.mem_cons_of_mem _ hx)
theorem lastR_le (m : Int) : ∀ (R : List Rn) (n : Int), n ≤ m → (∀ r ∈ R, ∀ l ∈ r.legs, l.at_ ≤ m) → lastR n R ≤ m
  | [], n, h, _ => h
  | r :: t, n, h, hl => lastR_le m t _ (lastL_le m r.legs n h fun x hx => hl r (by simp) x hx) fun x hx => hl x (List.mem_cons_of_mem _ hx)
theorem legs_at {P : Pln} {D : Dgm} (h : chkD P D = 0) : ∀ r ∈ D.runs, ∀ l ∈ r.legs, 0 ≤ l.at_ ∧ l.at_ ≤ 2000 := fun r hr l hl => by
  obtain ⟨-, -, -, -, h5, -⟩ := chkD_ok h
  exact (legs_parts (Int.le_refl 0) (run_parts (h5 r hr)).2.2.2.2 l hl).2
theorem lastD_bd {P : Pln} {D : Dgm} (h : chkD P D = 0) : 0 ≤ lastD D ∧ lastD D ≤ 2000 :=
  ⟨lastR_ge D.runs 0, lastR_le 2000 D.runs 0 (by omega) fun r hr l hl => (legs_at h r hr l hl).2⟩
def Lt (w5 : World) (bx g B cap : Nat) (stv : Value) (R : List Rn) (beg b : Int) (k : Nat) (wr : World) : Prop :=
  Gr w5 wr ∧ Bx 31 bx 0 wr beg stv (.slice (some ⟨g, 0, none⟩) R.length cap) ∧ ∃ A : List (Rn × Value), A.map Prod.fst = lat (·.add b) R k ∧ OwnRn B wr (.slice (some ⟨g, 0, none⟩) R.length cap) A ∧ ∀ i (hi : i < A.length), LegAt g wr.heap.size wr A[i].2 A[i].1.legs
theorem LegAt.of {gg M : Nat} {w w' : World} {v : Value} {L : List Leg} (h : IsLegs w v L) (g : Gr w w') (hg : w.heap.size ≤ gg) (hM : w.heap.size ≤ M) : LegAt gg M w' v L := by
  refine ⟨h.gr g, fun a n c e hn => ?_⟩
  subst e
  have hf := h.form
  obtain ⟨a', c', e, -⟩ := hf
  cases e
  have := h.low hn
  omega
theorem later_put {w5 wr w9 : World} {bx g B cap b1 c1 k : Nat} {stv : Value} {A : List (Rn × Value)} {L : List Leg} {beg : Int} (hk : k < A.length) (hbx : bx ≠ g) (hw5 : w5.heap.size ≤ g) (G : Gr w5 w9) (gw : Gr wr w9)
    (hX : Bx 31 bx 0 w9 beg stv (.slice (some ⟨g, 0, none⟩) A.length cap)) (hR : OwnRn B w9 (.slice (some ⟨g, 0, none⟩) A.length cap) A) (hL : OwnLg wr.heap.size w9 (.slice (some ⟨b1, 0, none⟩) L.length c1) L)
    (hA : ∀ i (hi : i < A.length), LegAt g wr.heap.size wr A[i].2 A[i].1.legs) : ∀ W, Gr (w9.setCell ⟨g, k * 5 + 4, none⟩ (.slice (some ⟨b1, 0, none⟩) L.length c1)) W →
    OwnLg wr.heap.size W (.slice (some ⟨b1, 0, none⟩) L.length c1) L ∧ OwnRn B W (.slice (some ⟨g, 0, none⟩) A.length cap) (setLegs A k L (.slice (some ⟨b1, 0, none⟩) L.length c1)) ∧ Bx 31 bx 0 W beg stv (.slice (some ⟨g, 0, none⟩) A.length cap) ∧ Gr w5 W ∧ (∀ i (hi : i < A.length), LegAt g wr.heap.size W A[i].2 A[i].1.legs) ∧ wr.heap.size ≤ b1 ∧ b1 < W.heap.size := by
  intro W hW
  have s2 := (World.ownsRow.stored hR (k * 5 + 4) (.slice (some ⟨b1, 0, none⟩) L.length c1)).2
  refine ⟨own_gr (hL.kept s2 (own_diff hL hR (by decide))) hW, own_gr (OwnRn.put hR k hk L _) hW, (hX.block (heap_setCell_other w9 ⟨g, k * 5 + 4, none⟩ bx _ hbx)).gr hW, (G.setCell hw5 _).trans hW, fun i hi => (((hA i hi).gr gw).set _ (.inl rfl) _).gr hW, own_base hL b1 rfl, ?_⟩
  have := own_lt hL b1 rfl
  have h2 := hW.size
  simp at h2
  omega
theorem later_done {w5 wr W : World} {bx g B cap b1 c1 k : Nat} {stv : Value} {R : List Rn} {A : List (Rn × Value)} {beg b : Int} (hk : k < R.length) (hfst : A.map Prod.fst = lat (·.add b) R k) (G : Gr w5 W)
    (hX : Bx 31 bx 0 W beg stv (.slice (some ⟨g, 0, none⟩) R.length cap)) (hR : OwnRn B W (.slice (some ⟨g, 0, none⟩) R.length cap) (setLegs A k R[k].legs (.slice (some ⟨b1, 0, none⟩) R[k].legs.length c1)))
    (hL : OwnLg wr.heap.size W (.slice (some ⟨b1, 0, none⟩) R[k].legs.length c1) (R[k].legs.map (·.add b))) (hA : ∀ i (hi : i < A.length), LegAt g wr.heap.size W A[i].2 A[i].1.legs) (hg : b1 ≠ g) (hs : wr.heap.size ≤ W.heap.size) (hm : R[k].legs.length ≤ maxLen) : Lt w5 bx g B cap stv R beg b (k + 1) W := by
  have hAl : A.length = R.length := by
    have := congrArg List.length hfst
    rw [List.length_map, lat_len] at this
    exact this
  have hkA : k < A.length := by omega
  rw [← hAl] at hR
  have hR2 := OwnRn.relabel (l' := R[k].legs.map (·.add b)) hR hkA
  refine ⟨G, hX, _, ?_, by rw [← hAl]; exact hR2, fun i hi => ?_⟩
  · rw [setLegs_fst A k _ _ hkA, hfst, ← lat_next _ hk]
    congr 1
    have : (lat (fun x : Rn => x.add b) R k).getD k default = R[k] := by
      rw [getD_at _ _ (by rw [lat_len]; exact hk), lat_at _ (Nat.le_refl k) hk]
    rw [this]
    rfl
  · have hi' : i < A.length := by rw [setLegs_len] at hi; exact hi
    rw [setLegs_at]
    by_cases h : i = k
    · rw [if_pos h]
      refine ⟨OwnLg.legs hL (by rw [List.length_map]; exact hm), fun a n c e hn => ?_⟩
      cases e
      exact ⟨hg, own_lt hL b1 rfl⟩
    · rw [if_neg h]
      exact (hA i hi').le hs
end Go.Proofs.YtgjnlgcdpbilfaaGreatDoor
