/- ChkQ: Joins as a map: plain. No walk.
Own: What the walks carry of a slice of strings that they make.
Row: Slices of structs that a walk makes; ports.
Grw: Regions that draw their order and whose callees may make memory: one walk of the text's order, over the class of all worlds in which nothing old has turned. No program.
MapN: The map that a port is joined by: look-ups.
Chk1: The document's answer: twice.
Chk2: The document's answer: within, In.
Chk3: A plan in its box.
NewP: net.New: what its walk carries; what a net is.
Nam1: The reference's Name.
Chk5: The document's answer: names, args. Printed by wip/gen_chk5.py. -/
import Derived.Test.YtgjnlgcdpbilfaaDoorB1
import Derived.Test.YtgjnlgcdpbilfaaDoorRows
import Derived.Laws.AppendOwn
import Derived.Laws.OwnMore
import Derived.OwnWalk
import Derived.Maps.OwnOps
import Derived.Deep.LoopGhost
import Derived.Deep.MidRow
namespace Go.Proofs.YtgjnlgcdpbilfaaDoor
open Go.ChangeShapes Go.WideShapes Go.ChangeAt Go.RowKit
set_option linter.unusedVariables false
set_option linter.unusedSimpArgs false

def I64 (x : Int) : Prop := (Lit.int .i64 x).wf = true
structure PlnOk (P : Pln) : Prop where
  es : ∀ e ∈ P.es, I64 e.k ∧ I64 e.l ∧ e.n.size ≤ maxLen
  js : ∀ j ∈ P.js, I64 j.a.e ∧ I64 j.a.x ∧ I64 j.b.e ∧ I64 j.b.x
  ss : ∀ s ∈ P.ss, I64 s.at_.e ∧ I64 s.at_.x ∧ s.n.size ≤ maxLen
  ls : ∀ l ∈ P.ls, l.n.size ≤ maxLen ∧ ∀ e ∈ l.es, I64 e
  nums : I64 P.top ∧ I64 P.brake ∧ I64 P.margin ∧ I64 P.throw
def portsL (l : List Jn) : List Prt := l.flatMap fun j => [j.a, j.b]
theorem portsP_eq (P : Pln) : portsP P = portsL P.js := rfl
theorem portsL_cons (j : Jn) (t : List Jn) : portsL (j :: t) = j.a :: j.b :: portsL t := rfl
theorem portsL_snoc (l : List Jn) (j : Jn) : portsL (l ++ [j]) = portsL l ++ [j.a, j.b] := by simp [portsL]
theorem portsL_append (l m : List Jn) : portsL (l ++ m) = portsL l ++ portsL m := by simp [portsL]
theorem nextL_none : ∀ (l : List Jn) (x : Prt), x ∉ portsL l → nextL l x = none
  | [], _, _ => rfl
  | j :: t, x, h => by
    rw [portsL_cons] at h
    simp only [List.mem_cons, not_or] at h
    unfold nextL
    rw [if_neg (fun e => h.1 e.symm), if_neg (fun e => h.2.1 e.symm)]
    exact nextL_none t x h.2.2
theorem nextL_isSome : ∀ (l : List Jn) (x : Prt), (nextL l x).isSome = decide (x ∈ portsL l)
  | [], _ => rfl
  | j :: t, x => by
    rw [portsL_cons]
    unfold nextL
    split
    · rename_i h; simp [h]
    · rename_i h
      split
      · rename_i h2; simp [h2]
      · rename_i h2
        rw [nextL_isSome t x]
        have h' : ¬ x = j.a := fun e => h e.symm
        have h2' : ¬ x = j.b := fun e => h2 e.symm
        simp [h', h2']
theorem nextL_snoc : ∀ (l : List Jn) (j : Jn) (x : Prt), nextL (l ++ [j]) x = (nextL l x).or (if j.a = x then some j.b else if j.b = x then some j.a else none)
  | [], j, x => by simp [nextL]
  | i :: t, j, x => by
    rw [List.cons_append]
    unfold nextL
    split
    · rfl
    · split
      · rfl
      · exact nextL_snoc t j x
theorem take_snoc' {α : Type} (l : List α) (k : Nat) (h : k < l.length) : l.take (k + 1) = l.take k ++ [l[k]] := by
  rw [List.take_succ_eq_append_getElem h]
def okL (P : Pln) (l : List Jn) : Prop := (portsL l).Nodup ∧ ∀ x ∈ portsL l, hasP P x = true
theorem okL_nil (P : Pln) : okL P [] := ⟨List.nodup_nil, fun x h => by cases h⟩
theorem okL_snoc {P : Pln} {l : List Jn} {j : Jn} (h : okL P l) (ha : j.a ∉ portsL l) (hb : j.b ∉ portsL l) (hab : j.a ≠ j.b) (pa : hasP P j.a = true) (pb : hasP P j.b = true) : okL P (l ++ [j]) := by
  obtain ⟨h1, h2⟩ := h
  refine ⟨?_, ?_⟩
  · rw [portsL_snoc, List.nodup_append]
    refine ⟨h1, by simp [hab], ?_⟩
    intro a ha' b hb' e
    subst e
    simp only [List.mem_cons, List.not_mem_nil, or_false] at hb'
    rcases hb' with rfl | rfl
    · exact ha ha'
    · exact hb ha'
  · intro x hx
    rw [portsL_snoc, List.mem_append] at hx
    rcases hx with hx | hx
    · exact h2 x hx
    · simp only [List.mem_cons, List.not_mem_nil, or_false] at hx
      rcases hx with rfl | rfl
      · exact pa
      · exact pb
theorem okL_of_take {P : Pln} (k : Nat) (hk : k < P.js.length) (h : okL P P.js) : P.js[k].a ∉ portsL (P.js.take k) ∧ P.js[k].b ∉ portsL (P.js.take k) ∧ P.js[k].a ≠ P.js[k].b ∧ hasP P P.js[k].a = true ∧ hasP P P.js[k].b = true := by
  obtain ⟨h1, h2⟩ := h
  have hs : P.js = P.js.take (k + 1) ++ P.js.drop (k + 1) := (List.take_append_drop _ _).symm
  rw [take_snoc' _ _ hk] at hs
  have hn : (portsL (P.js.take k ++ [P.js[k]])).Nodup := by
    rw [hs, portsL_append] at h1
    exact (List.nodup_append.1 h1).1
  have hm : ∀ x ∈ portsL (P.js.take k ++ [P.js[k]]), hasP P x = true := fun x hx => h2 x (by rw [hs, portsL_append]; exact List.mem_append.2 (.inl hx))
  rw [portsL_snoc] at hn hm
  rw [List.nodup_append] at hn
  obtain ⟨_, n2, n3⟩ := hn
  refine ⟨fun h => n3 _ h _ (by simp) rfl, fun h => n3 _ h _ (by simp) rfl, ?_, hm _ (by simp), hm _ (by simp)⟩
  intro e
  rw [e] at n2
  simp at n2
def gatesB (P : Pln) : Bool := (List.range P.es.length).all fun i => !decide (kindP P i = 4) || offGate P ⟨i, 0⟩
theorem joinedB_no {P : Pln} (h : ¬ okL P P.js) : joinedB P = false := by
  unfold joinedB
  rw [portsP_eq]
  by_cases h1 : (portsL P.js).Nodup
  · have h2 : (portsL P.js).all (hasP P) = false := by
      rw [Bool.eq_false_iff]
      intro ha
      rw [List.all_eq_true] at ha
      exact h ⟨h1, ha⟩
    rw [h2]; simp
  · simp [h1]
theorem joinedB_yes {P : Pln} (h : okL P P.js) : joinedB P = gatesB P := by
  unfold joinedB gatesB
  rw [portsP_eq]
  have h2 : (portsL P.js).all (hasP P) = true := by rw [List.all_eq_true]; exact h.2
  simp [h.1, h2]
theorem okL_round {P : Pln} (k : Nat) (hk : k < P.js.length) (h : okL P (P.js.take k)) :
    (P.js[k].a ∉ portsL (P.js.take k) ∧ P.js[k].b ∉ portsL (P.js.take k) ∧ P.js[k].a ≠ P.js[k].b ∧ hasP P P.js[k].a = true ∧ hasP P P.js[k].b = true → okL P (P.js.take (k + 1))) ∧
    (¬ (P.js[k].a ∉ portsL (P.js.take k) ∧ P.js[k].b ∉ portsL (P.js.take k) ∧ P.js[k].a ≠ P.js[k].b ∧ hasP P P.js[k].a = true ∧ hasP P P.js[k].b = true) → joinedB P = false) := by
  refine ⟨fun ⟨a, b, c, d, e⟩ => ?_, fun hn => joinedB_no fun hk' => hn (okL_of_take k hk hk')⟩
  rw [take_snoc' _ _ hk]
  exact okL_snoc h a b c d e
def FnL (l : List Jn) (f : Value → Option Value) : Prop := ∀ x : Prt, f x.v = (nextL l x).map Prt.v
theorem FnL.nil : FnL [] (fun _ => none) := fun _ => rfl
theorem prtv_inj {x y : Prt} (h : x.v = y.v) : x = y := by
  obtain ⟨a, b⟩ := x
  obtain ⟨c, d⟩ := y
  unfold Prt.v at h
  simp only [Value.agg.injEq, Array.mk.injEq, List.cons.injEq, Value.int.injEq, true_and, and_true] at h
  rw [h.1, h.2]
end Go.Proofs.YtgjnlgcdpbilfaaDoor
namespace Go.Proofs.YtgjnlgcdpbilfaaDoor
open Go.ChangeShapes Go.WideShapes Go.ChangeAt Go.RowKit
set_option linter.unusedVariables false
set_option linter.unusedSimpArgs false

def OwnS (B : Nat) (w : World) (v : Value) (L : List ByteArray) : Prop := w.ownsRow B 9 1 v L.length (L.map Value.string)
theorem OwnS.nil (B : Nat) (w : World) : OwnS B w (.slice none 0 0) [] := ⟨rfl, .inl ⟨rfl, rfl⟩⟩
theorem OwnS.snoc {B : Nat} {w : World} {v : Value} {L : List ByteArray} {x : ByteArray} (h : w.ownsRow B 9 1 v (L.length + 1) (L.map Value.string ++ [.string x])) : OwnS B w v (L ++ [x]) := by
  unfold OwnS
  simpa using h
theorem own_base {w : World} {B : Nat} {e : TypeId} {sz n : Nat} {v : Value} {xs : List Value} (h : w.ownsRow B e sz v n xs) : ∀ k, v.ownBlock = some k → B ≤ k := by
  intro k hk
  rcases h.2 with ⟨rfl, _⟩ | ⟨g, cap, cur, rfl, hg, _⟩
  · cases hk
  · simp [Value.ownBlock] at hk
    omega
theorem Gr.grown {a w w' : World} {v : Value} {e : TypeId} {sz n : Nat} {xs : List Value} {W : World} (h : Gr a w) (hg : w.grownBy w' v.ownBlock) (ho : W.ownsRow a.heap.size e sz v n xs) : Gr a w' :=
  Below.grown h hg h.size (own_base ho)
theorem OwnS.vals {B : Nat} {w : World} {v : Value} {L : List ByteArray} (h : OwnS B w v L) (hl : L.length ≤ maxLen) : IsVals w v (L.map Value.string) := by
  obtain ⟨h1, h2⟩ := h
  rcases h2 with ⟨rfl, h0⟩ | ⟨g, cap, cur, rfl, hg, hh, hn, hcap, hsz, htake⟩
  · have : L = [] := List.length_eq_zero_iff.1 h0
    subst this
    exact ⟨none, 0, rfl, by simp, .inl rfl⟩
  · refine ⟨some ⟨g, 0, none⟩, cap, by simp, by simpa using hl, .inr ⟨g, 0, rfl, ?_, ?_⟩⟩
    · rcases Nat.lt_or_ge g w.heap.size with h | h
      · exact h
      · rw [Array.getElem?_eq_none h] at hh; cases hh
    · intro i x hx
      rw [← htake] at hx
      unfold World.cell?
      simp only [hh]
      rw [List.getElem?_take] at hx
      split at hx
      · simpa using hx
      · cases hx
theorem Tryd.infoS : (Tryd.prog.info? 9).map (fun i => (i.zero, i.size, i.bytes)) = some (some (.string ByteArray.empty), 1, 16) := by kernel_rfl
end Go.Proofs.YtgjnlgcdpbilfaaDoor
namespace Go.Proofs.YtgjnlgcdpbilfaaDoor
open Go.ChangeShapes Go.WideShapes Go.ChangeAt Go.RowKit
set_option linter.unusedVariables false
set_option linter.unusedSimpArgs false

theorem flat_get {α : Type} (f : α → List Value) (sz : Nat) (hf : ∀ x, (f x).length = sz) : ∀ (L : List α) (i j : Nat) (hi : i < L.length), j < sz → (L.flatMap f)[i * sz + j]? = (f L[i])[j]?
  | [], i, j, hi, _ => by simp at hi
  | x :: t, 0, j, hi, hj => by
    rw [List.flatMap_cons, List.getElem?_append_left (by rw [hf]; omega)]; simp
  | x :: t, i + 1, j, hi, hj => by
    rw [List.flatMap_cons, List.getElem?_append_right (by rw [hf, Nat.succ_mul]; omega), hf, show (i + 1) * sz + j - sz = i * sz + j from by rw [Nat.succ_mul]; omega,
      flat_get f sz hf t i j (by simpa using hi) hj]
    rfl
theorem row_of_own {w : World} {B : Nat} {e : TypeId} {sz n : Nat} {v : Value} {xs : List Value} {C : Nat → Nat → Value} (h : w.ownsRow B e sz v n xs) (hl : n ≤ maxLen) (hx : ∀ i j, i < n → j < sz → xs[i * sz + j]? = some (C i j)) : IsRow w v sz n C := by
  obtain ⟨h1, h2⟩ := h
  rcases h2 with ⟨rfl, h0⟩ | ⟨g, cap, cur, rfl, hg, hh, hn, hcap, hsz, htake⟩
  · subst h0; exact ⟨none, 0, rfl, hl, .inl rfl⟩
  · refine ⟨some ⟨g, 0, none⟩, cap, rfl, hl, .inr ⟨g, 0, rfl, ?_, ?_⟩⟩
    · rcases Nat.lt_or_ge g w.heap.size with h | h
      · exact h
      · rw [Array.getElem?_eq_none h] at hh; cases hh
    · intro i j hi hj
      have hx' := hx i j hi hj
      rw [← htake] at hx'
      unfold World.cell?
      simp only [hh]
      rw [List.getElem?_take] at hx'
      split at hx'
      · simpa using hx'
      · cases hx'
def Prt.cs (x : Prt) : List Value := [.int .i64 x.e, .int .i64 x.x]
def Prt.c (x : Prt) (j : Nat) : Value := if j = 0 then .int .i64 x.e else .int .i64 x.x
def IsPrts (w : World) (v : Value) (l : List Prt) : Prop := IsRow w v 2 l.length (fun i j => (l.getD i default).c j)
theorem IsPrts.gr {w w' : World} {v : Value} {l : List Prt} (h : IsPrts w v l) (g : Gr w w') : IsPrts w' v l := IsRow.gr h g
theorem IsPrts.at {w : World} {a : Option Addr} {c m : Nat} {l : List Prt} (h : IsPrts w (.slice a m c) l) (i : Nat) (hi : i < l.length) :
    ∃ b o, a = some ⟨b, o, none⟩ ∧ b < w.heap.size ∧ w.cell? ⟨b, o + i * 2, none⟩ = some (.int .i64 l[i].e) ∧ w.cell? ⟨b, o + i * 2 + 1, none⟩ = some (.int .i64 l[i].x) := by
  obtain ⟨b, o, rfl, hb, hc⟩ := IsRow.at h i hi
  simp only [getD_at l i hi] at hc
  exact ⟨b, o, rfl, hb, hc 0 (by omega), hc 1 (by omega)⟩
def OwnP (B : Nat) (w : World) (v : Value) (L : List Prt) : Prop := w.ownsRow B 50 2 v L.length (L.flatMap Prt.cs)
theorem OwnP.nil (B : Nat) (w : World) : OwnP B w (.slice none 0 0) [] := ⟨rfl, .inl ⟨rfl, rfl⟩⟩
theorem OwnP.prts {B : Nat} {w : World} {v : Value} {L : List Prt} (h : OwnP B w v L) (hl : L.length ≤ maxLen) : IsPrts w v L := by
  refine row_of_own h hl fun i j hi hj => ?_
  rw [flat_get Prt.cs 2 (fun _ => rfl) L i j hi hj, getD_at L i hi]
  match j, hj with
  | 0, _ => rfl
  | 1, _ => rfl
theorem Tryd.infoP : (Tryd.prog.info? 50).map (fun i => (i.zero, i.size, i.bytes)) = some (some (.agg #[.int .i64 0, .int .i64 0]), 2, 16) := by kernel_rfl
theorem OwnP.lt {B : Nat} {w : World} {v : Value} {L : List Prt} (h : OwnP B w v L) : v = .slice none 0 0 ∨ ∃ g cap, v = .slice (some ⟨g, 0, none⟩) L.length cap ∧ B ≤ g := by
  rcases h.2 with ⟨rfl, _⟩ | ⟨g, cap, cur, rfl, hg, _⟩
  · exact .inl rfl
  · exact .inr ⟨g, cap, rfl, hg⟩
theorem refNext_some {P : Pln} {x y : Prt} (h : nextL P.js x = some y) (v : Value) (w : World) (hP : IsPln w v P) :
    Calls Tryd.prog 20 #[v, .agg #[.int .i64 x.e, .int .i64 x.x]] w fun e w' => e = .returned (.tuple #[.agg #[.int .i64 y.e, .int .i64 y.x], .bool true]) ∧ Gr w w' := by
  have := refNextP_any v P x w hP
  rw [h] at this
  exact this
theorem refNext_none {P : Pln} {x : Prt} (h : nextL P.js x = none) (v : Value) (w : World) (hP : IsPln w v P) :
    Calls Tryd.prog 20 #[v, .agg #[.int .i64 x.e, .int .i64 x.x]] w fun e w' => e = .returned (.tuple #[.agg #[.int .i64 0, .int .i64 0], .bool false]) ∧ Gr w w' := by
  have := refNextP_any v P x w hP
  rw [h] at this
  exact this
end Go.Proofs.YtgjnlgcdpbilfaaDoor
namespace Go.Proofs.YtgjnlgcdpbilfaaDoor
open Go.ChangeShapes Go.WideShapes Go.ChangeAt Go.RowKit
set_option linter.unusedVariables false
set_option linter.unusedSimpArgs false

structure GrW (w : World) where
  wd : World
  gr : Gr w wd
instance (w : World) : Nonempty (GrW w) := ⟨⟨w, Gr.refl w⟩⟩
theorem GrW.cell {w : World} {b : Nat} (hb : b < w.heap.size) (i : GrW w) (o : Nat) : i.wd.cell? ⟨b, o, none⟩ = w.cell? ⟨b, o, none⟩ := i.gr.cell b o hb
theorem GrW.frozen {w : World} {b : Nat} (hb : b < w.heap.size) (i : GrW w) (o : Nat) : i.wd.frozen? ⟨b, o, none⟩ = w.frozen? ⟨b, o, none⟩ := i.gr.frozen b o hb
theorem wp_region_gr {P : Program} {id : Nat} {Q : Exit → Act → World → Prop} {a : Act} {w : World} {l : List Oper} (hm : P.follows .mixedOrders = true) (hB : Region.lexB .any l.toArray = true)
    (h : wpQuiet P l.toArray (fun w' => ∃ i : GrW w, w' = i.wd) (fun a' => ∀ w', (∃ i : GrW w, w' = i.wd) → Q .normal a' w') l a) : (Code.region id l.toArray true).wp P Q a w :=
  wp_region_quiet (C := fun w' => ∃ i : GrW w, w' = i.wd) hm hB ⟨⟨w.drew, (Gr.refl w).drew⟩, rfl⟩ (by simpa using h)
theorem Calls.gr_of {P : Program} {f : FuncId} {args : Array Value} {w : World} {i : GrW w} {v : Value}
    (h : Calls P f args i.wd fun e w' => e = .returned v ∧ Gr i.wd w') : Calls P f args i.wd fun e w'' => e = .returned v ∧ ∃ j : GrW w, w'' = j.wd :=
  h.mono fun _ w' ⟨he, hg⟩ => ⟨he, ⟨w', i.gr.trans hg⟩, rfl⟩
theorem new2 {wr w5 : World} {t : TypeId} {x y : Value} (h : Gr ((wr.alloc (.cells #[x, y] t)).drew) w5) : w5.cell? ⟨wr.heap.size, 0, none⟩ = some x ∧ w5.cell? ⟨wr.heap.size, 1, none⟩ = some y ∧ w5.frozen? ⟨wr.heap.size, 0, none⟩ = false ∧ w5.frozen? ⟨wr.heap.size, 1, none⟩ = false ∧ wr.heap.size < w5.heap.size := by
  have hz : wr.heap.size < ((wr.alloc (.cells #[x, y] t)).drew).heap.size := by simp
  exact ⟨(h.cell _ _ hz).trans (by simp), (h.cell _ _ hz).trans (by simp), (h.frozen _ _ hz).trans (by simp), (h.frozen _ _ hz).trans (by simp), Nat.lt_of_lt_of_le hz h.size⟩
def NewAt (wr wz : World) (g : Nat) (x y : Value) : Prop := Gr wr wz ∧ wr.heap.size ≤ g ∧ g < wz.heap.size ∧ wz.cell? ⟨g, 0, none⟩ = some x ∧ wz.cell? ⟨g, 1, none⟩ = some y
theorem newAt_alloc {wr w5 : World} {t : TypeId} {x y : Value} (g : Gr wr w5) : NewAt wr (w5.alloc (.cells #[x, y] t)) w5.heap.size x y :=
  ⟨g.alloc _, g.size, by simp, by simp, by simp⟩
theorem newAt_set {wr w5 : World} {t : TypeId} {a b x y : Value} (h : Gr ((wr.alloc (.cells #[a, b] t)).drew) w5) : NewAt wr ((w5.setCell ⟨wr.heap.size, 0, none⟩ x).setCell ⟨wr.heap.size, 1, none⟩ y) wr.heap.size x y := by
  obtain ⟨k0, k1, f0, f1, z⟩ := new2 h
  refine ⟨((((Gr.refl wr).alloc _).drew.trans h).setCell (Nat.le_refl _) _).setCell (Nat.le_refl _) _, Nat.le_refl _, by simpa using z, ?_, ?_⟩
  · exact (World.cell?_setCell_other _ _ _ _ (by simp)).trans (World.cell?_setCell_same _ _ _ k0)
  · exact World.cell?_setCell_same _ _ _ ((World.cell?_setCell_other _ _ _ _ (by simp)).trans k1)
theorem own_gr {w w' : World} {B : Nat} {e : TypeId} {sz n : Nat} {v : Value} {xs : List Value} (h : w.ownsRow B e sz v n xs) (g : Gr w w') : w'.ownsRow B e sz v n xs := by
  refine ⟨h.1, ?_⟩
  rcases h.2 with h | ⟨b, cap, cur, hv, hb, hh, rest⟩
  · exact .inl h
  · refine .inr ⟨b, cap, cur, hv, hb, ?_, rest⟩
    have hlt : b < w.heap.size := by
      rcases Nat.lt_or_ge b w.heap.size with hl | hl
      · exact hl
      · rw [Array.getElem?_eq_none hl] at hh; cases hh
    rw [g.block b hlt]; exact hh
theorem own_lt {w : World} {B : Nat} {e : TypeId} {sz n : Nat} {v : Value} {xs : List Value} (h : w.ownsRow B e sz v n xs) : ∀ b, v.ownBlock = some b → b < w.heap.size := by
  intro b hb
  rcases h.2 with ⟨rfl, _⟩ | ⟨g, cap, cur, rfl, hg, hh, rest⟩
  · cases hb
  · simp [Value.ownBlock] at hb
    subst hb
    rcases Nat.lt_or_ge g w.heap.size with hl | hl
    · exact hl
    · rw [Array.getElem?_eq_none hl] at hh; cases hh
theorem beqF {a b : Int} (h : a ≠ b) : (a == b) = false := by simpa using h
theorem beqT {a b : Int} (h : a = b) : (a == b) = true := by simpa using h
theorem bneF {a b : Int} (h : a = b) : (a != b) = false := by simpa using h
theorem bneT {a b : Int} (h : a ≠ b) : (a != b) = true := by simpa using h
end Go.Proofs.YtgjnlgcdpbilfaaDoor
namespace Go.Proofs.YtgjnlgcdpbilfaaDoor
open Go.ChangeShapes Go.WideShapes Go.ChangeAt Go.RowKit Go.Maps
set_option linter.unusedVariables false
set_option linter.unusedSimpArgs false

theorem prt_zero (w : World) : (zeroValue 50).run Tryd.prog w = .ok (.agg #[.int .i64 0, .int .i64 0]) w := by kernel_rfl
def PrtOk (x : Prt) : Prop := I64 x.e ∧ I64 x.x
theorem next_look_some {w : World} {b n : Nat} {f : Value → Option Value} {l : List Jn} {x y : Prt} (h : MapIs Tryd.prog 50 w b n f) (hf : FnL l f) (hx : PrtOk x) (hn : nextL l x = some y) :
    (Instr.lookup 94 (.map (some b)) (.agg #[.int .i64 x.e, .int .i64 x.x]) true).run Tryd.prog w = .ok (.tuple #[.agg #[.int .i64 y.e, .int .i64 y.x], .bool true]) w := by
  obtain ⟨kl, hk⟩ := prt_key x hx.1 hx.2
  have := h.lookup_ok prt_keyed Tryd.underlying94 (prt_zero w) hk
  rw [hf x, hn] at this
  exact this
theorem next_look_none {w : World} {b n : Nat} {f : Value → Option Value} {l : List Jn} {x : Prt} (h : MapIs Tryd.prog 50 w b n f) (hf : FnL l f) (hx : PrtOk x) (hn : nextL l x = none) :
    (Instr.lookup 94 (.map (some b)) (.agg #[.int .i64 x.e, .int .i64 x.x]) true).run Tryd.prog w = .ok (.tuple #[.agg #[.int .i64 0, .int .i64 0], .bool false]) w := by
  obtain ⟨kl, hk⟩ := prt_key x hx.1 hx.2
  have := h.lookup_ok prt_keyed Tryd.underlying94 (prt_zero w) hk
  rw [hf x, hn] at this
  exact this
theorem put_self (f : Value → Option Value) (k v : Value) : put f k v k = some v := by unfold put; rw [if_pos rfl]
theorem put_else (f : Value → Option Value) {k v x : Value} (h : x ≠ k) : put f k v x = f x := by unfold put; rw [if_neg h]
theorem FnL.two {l : List Jn} {f : Value → Option Value} (h : FnL l f) (j : Jn) (ha : j.a ∉ portsL l) (hb : j.b ∉ portsL l) (hab : j.a ≠ j.b) : FnL (l ++ [j]) (put (put f j.a.v j.b.v) j.b.v j.a.v) := by
  intro x
  rw [nextL_snoc]
  by_cases e2 : x = j.b
  · subst e2
    rw [put_self, nextL_none l _ hb, if_neg hab]; simp
  · rw [put_else _ (fun e => e2 (prtv_inj e))]
    by_cases e1 : x = j.a
    · subst e1
      rw [put_self, nextL_none l _ ha]; simp
    · rw [put_else _ (fun e => e1 (prtv_inj e)), h x, if_neg (fun e => e1 e.symm), if_neg (fun e => e2 e.symm)]
      cases nextL l x <;> rfl
end Go.Proofs.YtgjnlgcdpbilfaaDoor
namespace Go.Proofs.YtgjnlgcdpbilfaaDoor
open Go.ChangeShapes Go.WideShapes Go.ChangeAt Go.RowKit
set_option linter.unusedVariables false
set_option linter.unusedSimpArgs false
theorem strs_at {w : World} {A : List ByteArray} {a : Option Addr} {c : Nat} (h : IsVals w (.slice a A.length c) (A.map Value.string)) (k : Nat) (hk : k < A.length) :
    ∃ b o, a = some ⟨b, o, none⟩ ∧ b < w.heap.size ∧ w.cell? ⟨b, o + k, none⟩ = some (.string A[k]) := by
  obtain ⟨a', c', e, _, hx⟩ := h
  simp only [Value.slice.injEq] at e
  obtain ⟨rfl, -, rfl⟩ := e
  rcases hx with hx | ⟨b, o, rfl, hb, hc⟩
  · exfalso
    have := congrArg List.length hx
    simp at this
    rw [this] at hk
    simp at hk
  · exact ⟨b, o, rfl, hb, hc k _ (by rw [List.getElem?_map, List.getElem?_eq_getElem hk]; rfl)⟩
theorem bytes_eq {a b : ByteArray} (h : ¬ a = b) : (a.toList == b.toList) = false := by
  rw [beq_eq_false_iff_ne]
  intro e
  rw [ByteArray.toList_eq, ByteArray.toList_eq] at e
  exact h (ByteArray.ext (Array.toList_inj.1 e))
theorem twice_yes {l : List ByteArray} {i k : Nat} (hi : i < l.length) (hk : k < i) (h : l[i] = l[k]'(by omega)) : twiceB l = true := by
  unfold twiceB
  simp only [Bool.not_eq_true', decide_eq_false_iff_not]
  intro hn
  have := List.pairwise_iff_getElem.1 hn k i (by omega) hi hk
  exact this h.symm
theorem twice_no {l : List ByteArray} (h : ∀ i k (hi : i < l.length) (hk : k < i), l[i] ≠ l[k]'(by omega)) : twiceB l = false := by
  unfold twiceB
  simp only [Bool.not_eq_false', decide_eq_true_eq]
  exact List.pairwise_iff_getElem.2 fun i j hi hj hij e => h j i hj hij e.symm
set_option maxRecDepth 100000 in
theorem refTwice_any (v : Value) (L : List ByteArray) (w : World) (hv : IsVals w v (L.map Value.string)) :
    Calls Tryd.prog 36 #[v] w fun e w' => e = .returned (.bool (twiceB L)) ∧ Gr w w' := by
  have hv' := hv
  obtain ⟨a, c, rfl, hm, -⟩ := hv
  simp only [List.length_map] at hv' hm ⊢
  unfold maxLen at hm
  have HV := Lib.hid hv'
  clear hv'
  go_enter Tryd.func36, Tryd.ntmps36
  go_wp2_with fail
  go_loopg [2, 3, 4] L.length (fun gh _ x2 _ wr => ∃ i : Nat, i + gh = L.length ∧ x2 = .int .i64 i ∧ Hid (∀ p q (hp : p < L.length) (hq : q < p), p < i → L[p] ≠ L[q]'(by omega)) ∧ Gr w wr)
  case atStart => exact ⟨0, by omega, rfl, fun p q _ _ h => by omega, Gr.refl _⟩
  case round =>
    obtain ⟨i, hig, rfl, HA, g⟩ := hrel
    have HIG := Lib.hid hig
    clear hig
    by_cases hlt : i < L.length
    · have i1 : (i : Int) < (L.length : Int) := by omega
      go_wp2_with fail
      go_loopg [4] i (fun g2 x3 wy => ∃ k : Nat, k + g2 = i ∧ x3 = .int .i64 k ∧ Hid (∀ q (hq : q < i), q < k → L[i] ≠ L[q]'(by omega)) ∧ Gr w wy)
      case atStart => exact ⟨0, by omega, rfl, fun q _ h => by omega, g⟩
      case round =>
        obtain ⟨k, hkg, rfl, HB, g3⟩ := hrel
        have HKG := Lib.hid hkg
        clear hkg
        by_cases hk : k < i
        · have k1 : (k : Int) < (i : Int) := by omega
          obtain ⟨b1, o1, rfl, z1, c1⟩ := strs_at (HV.out.gr g3) i hlt
          obtain ⟨b2, o2, e2, z2, c2⟩ := strs_at (HV.out.gr g3) k (by omega)
          simp only [Option.some.injEq, Addr.mk.injEq, and_true] at e2
          obtain ⟨rfl, rfl⟩ := e2
          by_cases he : L[i] = L[k]
          · have HR := Lib.hid (twice_yes hlt hk he)
            rw [he] at c1
            clear he HA HB
            generalize L[k] = y at *
            go_wp2_with fail
            go_quiet (fail)
            go_wp2
            try rw [Exit.noGoto_ret]
            go_ret
            exact ⟨ret_bool HR.out.symm, by first | exact g3.drewN _ | exact g3⟩
          · have hs := bytes_eq he
            have HB' : Hid (∀ q (hq : q < i), q < k + 1 → L[i] ≠ L[q]'(by omega)) := by
              intro q hq h
              by_cases e : q = k
              · subst e; exact he
              · exact HB.out q hq (by omega)
            clear he HB
            obtain ⟨x, hx⟩ : ∃ x, x = L[i] := ⟨_, rfl⟩
            obtain ⟨y, hy⟩ : ∃ y, y = L[k] := ⟨_, rfl⟩
            rw [← hx] at c1 hs
            rw [← hy] at c2 hs
            clear hx hy
            go_wp2_with fail
            go_quiet (fail)
            go_wp2
            go_roundg (i - (k + 1))
            case measure => have := HKG.out; omega
            case rel => exact ⟨k + 1, by have := HKG.out; omega, by go_num, HB'.out, by first | exact g3.drewN _ | exact g3⟩
        · have HA' : Hid (∀ p q (hp : p < L.length) (hq : q < p), p < i + 1 → L[p] ≠ L[q]'(by omega)) := by
            intro p q hp hq h
            by_cases e : p = i
            · subst e; exact HB.out q hq (by omega)
            · exact HA.out p q hp hq (by omega)
          clear HA HB
          go_wp2
          go_roundg (L.length - (i + 1))
          case measure => have := HIG.out; omega
          case rel => exact ⟨i + 1, by have := HIG.out; omega, by go_num, HA'.out, g3⟩
    · have HR := Lib.hid (twice_no fun p q hp hq => HA.out p q hp hq (by omega))
      clear HA
      go_wp2
      go_ret
      exact ⟨ret_bool HR.out.symm, g⟩
end Go.Proofs.YtgjnlgcdpbilfaaDoor
namespace Go.Proofs.YtgjnlgcdpbilfaaDoor
open Go.ChangeShapes Go.WideShapes Go.ChangeAt Go.RowKit
set_option linter.unusedVariables false
set_option linter.unusedSimpArgs false
theorem ints_at {w : World} {A : List Int} {a : Option Addr} {c : Nat} (h : IsVals w (.slice a A.length c) (A.map (Value.int .i64))) (k : Nat) (hk : k < A.length) :
    ∃ b o, a = some ⟨b, o, none⟩ ∧ b < w.heap.size ∧ w.cell? ⟨b, o + k, none⟩ = some (.int .i64 A[k]) := by
  obtain ⟨a', c', e, _, hx⟩ := h
  simp only [Value.slice.injEq] at e
  obtain ⟨rfl, -, rfl⟩ := e
  rcases hx with hx | ⟨b, o, rfl, hb, hc⟩
  · exfalso
    have := congrArg List.length hx
    simp at this
    rw [this] at hk
    simp at hk
  · exact ⟨b, o, rfl, hb, hc k _ (by rw [List.getElem?_map, List.getElem?_eq_getElem hk]; rfl)⟩
theorem refWithin_any (n lo hi : Int) (w : World) : Calls Tryd.prog 57 #[.int .i64 n, .int .i64 lo, .int .i64 hi] w fun e w' => e = .returned (.bool (inB n lo hi)) ∧ w' = w := by
  by_cases h : lo ≤ n
  · have HN : Hid (inB n lo hi = decide (n ≤ hi)) := by unfold Hid inB; simp [h]
    go_enter Tryd.func57, Tryd.ntmps57
    go_wp2
    go_ret
    exact ⟨ret_bool (by rw [HN.out]), rfl⟩
  · have HN : Hid (inB n lo hi = false) := by unfold Hid inB; simp [h]
    go_enter Tryd.func57, Tryd.ntmps57
    go_wp2
    go_ret
    exact ⟨ret_bool (by rw [HN.out]), rfl⟩
theorem refIn_any (v : Value) (L : List Int) (n : Int) (w : World) (hv : IsVals w v (L.map (Value.int .i64))) :
    Calls Tryd.prog 60 #[v, .int .i64 n] w fun e w' => e = .returned (.bool (decide (n ∈ L))) ∧ Gr w w' := by
  have hv' := hv
  obtain ⟨a, c, rfl, hm, -⟩ := hv
  simp only [List.length_map] at hv' hm ⊢
  unfold maxLen at hm
  have HV := Lib.hid hv'
  clear hv'
  go_enter Tryd.func60, Tryd.ntmps60
  go_wp2_with fail
  go_loopg [4, 5] L.length (fun gh _ x wr => ∃ i : Nat, i + gh = L.length ∧ x = .int .i64 i ∧ Hid (∀ p (hp : p < L.length), p < i → L[p] ≠ n) ∧ Gr w wr)
  case atStart => exact ⟨0, by omega, rfl, fun p _ h => by omega, Gr.refl _⟩
  case round =>
    obtain ⟨i, hig, rfl, HA, g⟩ := hrel
    have HIG := Lib.hid hig
    clear hig
    by_cases hlt : i < L.length
    · have i1 : (i : Int) < (L.length : Int) := by omega
      obtain ⟨b, o, rfl, z, cx⟩ := ints_at (HV.out.gr g) i hlt
      by_cases he : L[i] = n
      · have HR : Hid (decide (n ∈ L) = true) := by unfold Hid; simp only [decide_eq_true_eq]; rw [← he]; exact List.getElem_mem hlt
        have t1 : (L[i] == n) = true := by simpa using he
        clear he HA
        go_wp2
        go_ret
        exact ⟨ret_bool HR.out.symm, g⟩
      · have t1 : (L[i] == n) = false := by simpa using he
        have HA' : Hid (∀ p (hp : p < L.length), p < i + 1 → L[p] ≠ n) := by
          intro p hp h
          by_cases e : p = i
          · subst e; exact he
          · exact HA.out p hp (by omega)
        clear he HA
        go_wp2
        go_roundg (L.length - (i + 1))
        case measure => have := HIG.out; omega
        case rel => exact ⟨i + 1, by have := HIG.out; omega, by go_num, HA'.out, g⟩
    · have HR : Hid (decide (n ∈ L) = false) := by
        unfold Hid
        simp only [decide_eq_false_iff_not]
        intro hm
        obtain ⟨p, hp, e⟩ := List.mem_iff_getElem.1 hm
        exact HA.out p hp (by omega) e
      clear HA
      go_wp2
      go_ret
      exact ⟨ret_bool HR.out.symm, g⟩
end Go.Proofs.YtgjnlgcdpbilfaaDoor
namespace Go.Proofs.YtgjnlgcdpbilfaaDoor
open Go.ChangeShapes Go.WideShapes Go.ChangeAt Go.RowKit
set_option linter.unusedVariables false
set_option linter.unusedSimpArgs false
def PBox (w : World) (b : Nat) (P : Pln) (e j s l : Value) : Prop :=
  b < w.heap.size ∧ w.cell? ⟨b, 0, none⟩ = some e ∧ w.cell? ⟨b, 1, none⟩ = some j ∧ w.cell? ⟨b, 2, none⟩ = some s ∧ w.cell? ⟨b, 3, none⟩ = some l ∧ w.cell? ⟨b, 4, none⟩ = some (.int .i64 P.top) ∧
    w.cell? ⟨b, 5, none⟩ = some (.int .i64 P.brake) ∧ w.cell? ⟨b, 6, none⟩ = some (.int .i64 P.margin) ∧ w.cell? ⟨b, 7, none⟩ = some (.int .i64 P.throw) ∧ w.cell? ⟨b, 8, none⟩ = some (.bool P.hard)
theorem PBox.gr {w w' : World} {b : Nat} {P : Pln} {e j s l : Value} (h : PBox w b P e j s l) (g : Gr w w') : PBox w' b P e j s l := by
  obtain ⟨hb, c0, c1, c2, c3, c4, c5, c6, c7, c8⟩ := h
  refine ⟨Nat.lt_of_lt_of_le hb g.size, ?_, ?_, ?_, ?_, ?_, ?_, ?_, ?_, ?_⟩ <;> (rw [g.cell _ _ hb]; assumption)
theorem PBox.drewN {w : World} {b : Nat} {P : Pln} {e j s l : Value} (h : PBox w b P e j s l) (n : Nat) : PBox (w.drewN n) b P e j s l := h.gr ((Gr.refl w).drewN n)
theorem PBox.drew {w : World} {b : Nat} {P : Pln} {e j s l : Value} (h : PBox w b P e j s l) : PBox w.drew b P e j s l := h.gr ((Gr.refl w).drew)
theorem PBox.load {w : World} {b : Nat} {P : Pln} {e j s l : Value} (h : PBox w b P e j s l) : (Instr.loadAt 27 (.pointer (some ⟨b, 0, none⟩))).run Tryd.prog w = .ok (plnV P e j s l) w := by
  obtain ⟨hb, c0, c1, c2, c3, c4, c5, c6, c7, c8⟩ := h
  exact run_loadAt_mid w b 0 27 [e, j, s, l, .int .i64 P.top, .int .i64 P.brake, .int .i64 P.margin, .int .i64 P.throw, .bool P.hard] _ (fun i v h => by
    match i, h with
    | 0, h => cases h; exact c0
    | 1, h => cases h; exact c1
    | 2, h => cases h; exact c2
    | 3, h => cases h; exact c3
    | 4, h => cases h; exact c4
    | 5, h => cases h; exact c5
    | 6, h => cases h; exact c6
    | 7, h => cases h; exact c7
    | 8, h => cases h; exact c8) Tryd.underlying27 rfl (by kernel_rfl)
theorem PBox.new (w : World) (P : Pln) (e j s l : Value) : PBox (w.alloc (.cells #[e, j, s, l, .int .i64 P.top, .int .i64 P.brake, .int .i64 P.margin, .int .i64 P.throw, .bool P.hard] 27)) w.heap.size P e j s l := by
  refine ⟨by simp, ?_, ?_, ?_, ?_, ?_, ?_, ?_, ?_, ?_⟩ <;> (rw [World.cell?_alloc_mark]; rfl)
def PS (w : World) (b : Nat) (P : Pln) (e j s l : Value) (w' : World) : Prop :=
  Gr w w' ∧ PBox w' b P e j s l ∧ (Instr.loadAt 27 (.pointer (some ⟨b, 0, none⟩))).run Tryd.prog w' = .ok (plnV P e j s l) w'
theorem PS.of {w w' : World} {b : Nat} {P : Pln} {e j s l : Value} (g : Gr w w') (h : PBox w' b P e j s l) : PS w b P e j s l w' := ⟨g, h, h.load⟩
theorem PS.gr {w w1 w2 : World} {b : Nat} {P : Pln} {e j s l : Value} (h : PS w b P e j s l w1) (g : Gr w1 w2) : PS w b P e j s l w2 := PS.of (h.1.trans g) (h.2.1.gr g)
theorem PS.drew {w w1 : World} {b : Nat} {P : Pln} {e j s l : Value} (h : PS w b P e j s l w1) : PS w b P e j s l w1.drew := h.gr ((Gr.refl _).drew)
theorem PBox.ps {w w' : World} {b : Nat} {P : Pln} {e j s l : Value} (h : PBox w' b P e j s l) (g : Gr w w') : PS w b P e j s l w' := PS.of g h
theorem IsPln.mk {w w' : World} {P : Pln} {a1 a2 a3 a4 : Option Addr} {c1 c2 c3 c4 : Nat} (h1 : IsEles w (.slice a1 P.es.length c1) P.es) (h2 : IsJns w (.slice a2 P.js.length c2) P.js) (h3 : IsSgs w (.slice a3 P.ss.length c3) P.ss) (h4 : IsLns w (.slice a4 P.ls.length c4) P.ls) (g : Gr w w') :
    IsPln w' (.agg #[.slice a1 P.es.length c1, .slice a2 P.js.length c2, .slice a3 P.ss.length c3, .slice a4 P.ls.length c4, .int .i64 P.top, .int .i64 P.brake, .int .i64 P.margin, .int .i64 P.throw, .bool P.hard]) P :=
  ⟨a1, c1, a2, c2, a3, c3, a4, c4, rfl, h1.gr g, h2.gr g, h3.gr g, h4.gr g⟩
end Go.Proofs.YtgjnlgcdpbilfaaDoor
namespace Go.Proofs.YtgjnlgcdpbilfaaDoor
open Go.ChangeShapes Go.WideShapes Go.ChangeAt Go.RowKit Go.Maps
set_option linter.unusedVariables false
set_option linter.unusedSimpArgs false
theorem PBox.blk {w w' : World} {b : Nat} {P : Pln} {e j s l : Value} (h : PBox w b P e j s l) (hb : w'.heap[b]? = w.heap[b]?) (hs : w.heap.size ≤ w'.heap.size) : PBox w' b P e j s l := by
  have q : ∀ o, w'.cell? ⟨b, o, none⟩ = w.cell? ⟨b, o, none⟩ := fun o => World.cell?_of_block hb
  obtain ⟨z, b0, b1, b2, b3, b4, b5, b6, b7, b8⟩ := h
  exact ⟨Nat.lt_of_lt_of_le z hs, (q _).trans b0, (q _).trans b1, (q _).trans b2, (q _).trans b3, (q _).trans b4, (q _).trans b5, (q _).trans b6, (q _).trans b7, (q _).trans b8⟩
structure NetW (w2 : World) (P : Pln) (v1 v2 v3 v4 : Value) (n1 : Nat) (f1 : Value → Option Value) (n2 : Nat) (f2 : Value → Option Value) (n3 : Nat) (f3 : Value → Option Value) (n4 : Nat) (f4 : Value → Option Value) (wr : World) : Prop where
  gr : Gr w2 wr
  net : PBox wr (w2.heap.size + 4) P v1 v2 v3 v4
  c9 : wr.cell? ⟨w2.heap.size + 4, 9, none⟩ = some (.map (some w2.heap.size))
  c10 : wr.cell? ⟨w2.heap.size + 4, 10, none⟩ = some (.map (some (w2.heap.size + 1)))
  c11 : wr.cell? ⟨w2.heap.size + 4, 11, none⟩ = some (.map (some (w2.heap.size + 2)))
  c12 : wr.cell? ⟨w2.heap.size + 4, 12, none⟩ = some (.map (some (w2.heap.size + 3)))
  nx : MapIs Tryd.prog 50 wr w2.heap.size n1 f1
  rd : MapIs Tryd.prog 50 wr (w2.heap.size + 1) n2 f2
  ln : MapIs Tryd.prog 3 wr (w2.heap.size + 2) n3 f3
  ld : MapIs Tryd.prog 3 wr (w2.heap.size + 3) n4 f4
variable {w2 : World} {P : Pln} {v1 v2 v3 v4 : Value} {n1 n2 n3 n4 : Nat} {f1 f2 f3 f4 : Value → Option Value} {wr w' : World}
theorem NetW.grow (h : NetW w2 P v1 v2 v3 v4 n1 f1 n2 f2 n3 f3 n4 f4 wr) (g : Gr wr w') : NetW w2 P v1 v2 v3 v4 n1 f1 n2 f2 n3 f3 n4 f4 w' :=
  have z := h.net.1
  ⟨h.gr.trans g, h.net.gr g, (g.cell _ _ z).trans h.c9, (g.cell _ _ z).trans h.c10, (g.cell _ _ z).trans h.c11, (g.cell _ _ z).trans h.c12, h.nx.gr g, h.rd.gr g, h.ln.gr g, h.ld.gr g⟩
theorem NetW.turn (h : NetW w2 P v1 v2 v3 v4 n1 f1 n2 f2 n3 f3 n4 f4 wr) {m : Nat} (g : wr.grownBy w' (some m)) (h1 : w2.heap.size ≤ m) (h2 : m < w2.heap.size + 4) :
    Gr w2 w' ∧ PBox w' (w2.heap.size + 4) P v1 v2 v3 v4 ∧ w'.cell? ⟨w2.heap.size + 4, 9, none⟩ = some (.map (some w2.heap.size)) ∧ w'.cell? ⟨w2.heap.size + 4, 10, none⟩ = some (.map (some (w2.heap.size + 1))) ∧ w'.cell? ⟨w2.heap.size + 4, 11, none⟩ = some (.map (some (w2.heap.size + 2))) ∧ w'.cell? ⟨w2.heap.size + 4, 12, none⟩ = some (.map (some (w2.heap.size + 3))) ∧ ∀ i, i < w2.heap.size + 4 → i ≠ m → w'.heap[i]? = wr.heap[i]? := by
  have z := h.net.1
  have hb : w'.heap[w2.heap.size + 4]? = wr.heap[w2.heap.size + 4]? := g.block _ z (fun e => by injection e; omega)
  exact ⟨h.gr.grownM g h1, h.net.blk hb g.size, (World.cell?_of_block hb).trans h.c9, (World.cell?_of_block hb).trans h.c10, (World.cell?_of_block hb).trans h.c11, (World.cell?_of_block hb).trans h.c12, fun i hi hne => g.block i (by omega) (fun e => by injection e; omega)⟩
theorem NetW.put1 (h : NetW w2 P v1 v2 v3 v4 n1 f1 n2 f2 n3 f3 n4 f4 wr) {m : Nat} {g' : Value → Option Value} (hm : MapIs Tryd.prog 50 w' w2.heap.size m g') (g : wr.grownBy w' (some w2.heap.size)) : NetW w2 P v1 v2 v3 v4 m g' n2 f2 n3 f3 n4 f4 w' := by
  obtain ⟨a, b, c, d, e, f, q⟩ := h.turn g (Nat.le_refl _) (by omega)
  exact ⟨a, b, c, d, e, f, hm, h.rd.block (q _ (by omega) (by omega)), h.ln.block (q _ (by omega) (by omega)), h.ld.block (q _ (by omega) (by omega))⟩
theorem NetW.put2 (h : NetW w2 P v1 v2 v3 v4 n1 f1 n2 f2 n3 f3 n4 f4 wr) {m : Nat} {g' : Value → Option Value} (hm : MapIs Tryd.prog 50 w' (w2.heap.size + 1) m g') (g : wr.grownBy w' (some (w2.heap.size + 1))) : NetW w2 P v1 v2 v3 v4 n1 f1 m g' n3 f3 n4 f4 w' := by
  obtain ⟨a, b, c, d, e, f, q⟩ := h.turn g (by omega) (by omega)
  exact ⟨a, b, c, d, e, f, h.nx.block (q _ (by omega) (by omega)), hm, h.ln.block (q _ (by omega) (by omega)), h.ld.block (q _ (by omega) (by omega))⟩
theorem NetW.put3 (h : NetW w2 P v1 v2 v3 v4 n1 f1 n2 f2 n3 f3 n4 f4 wr) {m : Nat} {g' : Value → Option Value} (hm : MapIs Tryd.prog 3 w' (w2.heap.size + 2) m g') (g : wr.grownBy w' (some (w2.heap.size + 2))) : NetW w2 P v1 v2 v3 v4 n1 f1 n2 f2 m g' n4 f4 w' := by
  obtain ⟨a, b, c, d, e, f, q⟩ := h.turn g (by omega) (by omega)
  exact ⟨a, b, c, d, e, f, h.nx.block (q _ (by omega) (by omega)), h.rd.block (q _ (by omega) (by omega)), hm, h.ld.block (q _ (by omega) (by omega))⟩
theorem NetW.put4 (h : NetW w2 P v1 v2 v3 v4 n1 f1 n2 f2 n3 f3 n4 f4 wr) {m : Nat} {g' : Value → Option Value} (hm : MapIs Tryd.prog 3 w' (w2.heap.size + 3) m g') (g : wr.grownBy w' (some (w2.heap.size + 3))) : NetW w2 P v1 v2 v3 v4 n1 f1 n2 f2 n3 f3 m g' w' := by
  obtain ⟨a, b, c, d, e, f, q⟩ := h.turn g (by omega) (by omega)
  exact ⟨a, b, c, d, e, f, h.nx.block (q _ (by omega) (by omega)), h.rd.block (q _ (by omega) (by omega)), h.ln.block (q _ (by omega) (by omega)), hm⟩
def FnR (l : List Sg) (f : Value → Option Value) : Prop := ∀ x : Prt, f x.v = (readsL l x).map fun i => .int .i64 (i : Int)
def NetIs (w : World) (b : Nat) (P : Pln) : Prop :=
  ∃ v1 v2 v3 v4 bn n1 f1 br n2 f2 bl n3 f3 bd n4 f4, PBox w b P v1 v2 v3 v4 ∧ IsPln w (plnV P v1 v2 v3 v4) P ∧ w.cell? ⟨b, 9, none⟩ = some (.map (some bn)) ∧ w.cell? ⟨b, 10, none⟩ = some (.map (some br)) ∧ w.cell? ⟨b, 11, none⟩ = some (.map (some bl)) ∧ w.cell? ⟨b, 12, none⟩ = some (.map (some bd)) ∧
    MapIs Tryd.prog 50 w bn n1 f1 ∧ FnL P.js f1 ∧ MapIs Tryd.prog 50 w br n2 f2 ∧ FnR P.ss f2 ∧ MapIs Tryd.prog 3 w bl n3 f3 ∧ MapIs Tryd.prog 3 w bd n4 f4
theorem NetIs.gr {w w' : World} {b : Nat} {P : Pln} (h : NetIs w b P) (g : Gr w w') : NetIs w' b P := by
  obtain ⟨v1, v2, v3, v4, bn, n1, f1, br, n2, f2, bl, n3, f3, bd, n4, f4, a, b', c, d, e, f, i, j, k, l, m, n⟩ := h
  have z := a.1
  exact ⟨v1, v2, v3, v4, bn, n1, f1, br, n2, f2, bl, n3, f3, bd, n4, f4, a.gr g, b'.gr g, (g.cell _ _ z).trans c, (g.cell _ _ z).trans d, (g.cell _ _ z).trans e, (g.cell _ _ z).trans f, i.gr g, j, k.gr g, l, m.gr g, n.gr g⟩
theorem FnR.nil : FnR [] (fun _ => none) := fun _ => rfl
theorem readsL_snoc (l : List Sg) (s : Sg) (x : Prt) : readsL (l ++ [s]) x = match readsL l x with | some i => some i | none => if s.at_ = x then some l.length else none := by
  induction l with
  | nil => simp [readsL]
  | cons a t ih =>
    simp only [List.cons_append, readsL]
    split
    · rfl
    · rw [ih]
      cases readsL t x with
      | some i => rfl
      | none =>
        by_cases h : s.at_ = x
        · simp [h]
        · simp [h]
theorem FnR.one {l : List Sg} {f : Value → Option Value} (h : FnR l f) (s : Sg) (hn : readsL l s.at_ = none) : FnR (l ++ [s]) (put f s.at_.v (.int .i64 (l.length : Int))) := by
  intro x
  rw [readsL_snoc]
  by_cases e : x = s.at_
  · subst e
    rw [put_self, hn, if_pos rfl]; rfl
  · rw [put_else _ (fun e' => e (prtv_inj e')), h x, if_neg (fun e' => e e'.symm)]
    cases readsL l x <;> rfl
theorem NetW.isNet {w2 wr : World} (h : NetW w2 P v1 v2 v3 v4 n1 f1 n2 f2 n3 f3 n4 f4 wr) (hp : IsPln w2 (plnV P v1 v2 v3 v4) P) (h1 : FnL P.js f1) (h2 : FnR P.ss f2) : NetIs wr (w2.heap.size + 4) P :=
  ⟨v1, v2, v3, v4, _, n1, f1, _, n2, f2, _, n3, f3, _, n4, f4, h.net, hp.gr h.gr, h.c9, h.c10, h.c11, h.c12, h.nx, h1, h.rd, h2, h.ln, h.ld⟩
theorem four_maps (w2 : World) : ∃ wa wb wc wd : World, (Instr.makeMap 94 none).run Tryd.prog w2 = .ok (.map (some w2.heap.size)) wa ∧ (Instr.makeMap 95 none).run Tryd.prog wa = .ok (.map (some (w2.heap.size + 1))) wb ∧ (Instr.makeMap 96 none).run Tryd.prog wb = .ok (.map (some (w2.heap.size + 2))) wc ∧ (Instr.makeMap 97 none).run Tryd.prog wc = .ok (.map (some (w2.heap.size + 3))) wd ∧
    wd.heap.size = w2.heap.size + 4 ∧ Gr w2 wd ∧ MapIs Tryd.prog 50 wd w2.heap.size 0 (fun _ => none) ∧ MapIs Tryd.prog 50 wd (w2.heap.size + 1) 0 (fun _ => none) ∧ MapIs Tryd.prog 3 wd (w2.heap.size + 2) 0 (fun _ => none) ∧ MapIs Tryd.prog 3 wd (w2.heap.size + 3) 0 (fun _ => none) := by
  have e1 : (w2.alloc (.map #[] 0)).heap.size = w2.heap.size + 1 := by simp
  have e2 : ((w2.alloc (.map #[] 0)).alloc (.map #[] 0)).heap.size = w2.heap.size + 2 := by simp
  have e3 : (((w2.alloc (.map #[] 0)).alloc (.map #[] 0)).alloc (.map #[] 0)).heap.size = w2.heap.size + 3 := by simp
  have m1 := MapIs.made w2 Tryd.prog 50
  have m2 := MapIs.made (w2.alloc (.map #[] 0)) Tryd.prog 50
  have m3 := MapIs.made ((w2.alloc (.map #[] 0)).alloc (.map #[] 0)) Tryd.prog 3
  have m4 := MapIs.made (((w2.alloc (.map #[] 0)).alloc (.map #[] 0)).alloc (.map #[] 0)) Tryd.prog 3
  rw [e1] at m2
  rw [e2] at m3
  rw [e3] at m4
  refine ⟨_, _, _, _, run_makeMap _ _, (run_makeMap _ _).trans (by rw [e1]), (run_makeMap _ _).trans (by rw [e2]), (run_makeMap _ _).trans (by rw [e3]), by simp, ((((Gr.refl _).alloc _).alloc _).alloc _).alloc _, m1.gr ((((Gr.refl _).alloc _).alloc _).alloc _), m2.gr (((Gr.refl _).alloc _).alloc _), m3.gr ((Gr.refl _).alloc _), m4⟩
theorem NetW.start {w2 wd : World} {P : Pln} {v1 v2 v3 v4 : Value} (hs : wd.heap.size = w2.heap.size + 4) (g : Gr w2 wd) (m1 : MapIs Tryd.prog 50 wd w2.heap.size 0 (fun _ => none)) (m2 : MapIs Tryd.prog 50 wd (w2.heap.size + 1) 0 (fun _ => none)) (m3 : MapIs Tryd.prog 3 wd (w2.heap.size + 2) 0 (fun _ => none)) (m4 : MapIs Tryd.prog 3 wd (w2.heap.size + 3) 0 (fun _ => none)) :
    NetW w2 P v1 v2 v3 v4 0 (fun _ => none) 0 (fun _ => none) 0 (fun _ => none) 0 (fun _ => none) (wd.alloc (.cells #[v1, v2, v3, v4, .int .i64 P.top, .int .i64 P.brake, .int .i64 P.margin, .int .i64 P.throw, .bool P.hard, .map (some w2.heap.size), .map (some (w2.heap.size + 1)), .map (some (w2.heap.size + 2)), .map (some (w2.heap.size + 3))] 99)) := by
  have ga : Gr wd (wd.alloc (.cells #[v1, v2, v3, v4, .int .i64 P.top, .int .i64 P.brake, .int .i64 P.margin, .int .i64 P.throw, .bool P.hard, .map (some w2.heap.size), .map (some (w2.heap.size + 1)), .map (some (w2.heap.size + 2)), .map (some (w2.heap.size + 3))] 99)) := (Gr.refl _).alloc _
  refine ⟨g.trans ga, ?_, ?_, ?_, ?_, ?_, m1.gr ga, m2.gr ga, m3.gr ga, m4.gr ga⟩
  · rw [← hs]
    refine ⟨by simp, ?_, ?_, ?_, ?_, ?_, ?_, ?_, ?_, ?_⟩ <;> (rw [World.cell?_alloc_mark]; rfl)
  all_goals
    rw [← hs, World.cell?_alloc_mark]; rfl
theorem gb_cell {w w' : World} {m b o : Nat} (g : w.grownBy w' (some m)) (hb : b < w.heap.size) (hne : b ≠ m) : w'.cell? ⟨b, o, none⟩ = w.cell? ⟨b, o, none⟩ := World.cell?_of_block (g.block b hb (fun e => by injection e; omega))
theorem prt_zeroA (u : World) : (zeroValue 50).run Tryd.prog u = .ok (.agg #[.int .i64 0, .int .i64 0]) u := prt_zero u
end Go.Proofs.YtgjnlgcdpbilfaaDoor
namespace Go.Proofs.YtgjnlgcdpbilfaaDoor
open Go.ChangeShapes Go.WideShapes Go.ChangeAt Go.RowKit
set_option linter.unusedVariables false
set_option linter.unusedSimpArgs false

set_option maxHeartbeats 400000 in
theorem refName_any (s : ByteArray) (hs : s.size ≤ maxLen) (w : World) :
    Calls Tryd.prog 27 #[.string s] w fun e w' => e = .returned (.bool (nmB s)) ∧ w' = w := by
  unfold maxLen at hs
  go_enter Tryd.func27, Tryd.ntmps27
  go_wp2
  go_loop [3, 4, 5] (fun i _ _ => ∃ k : Nat, i = .int .i64 k ∧ k ≤ s.size ∧ Hid (∀ j, j < k → okc j (bt s j) = true)) (fun i _ _ => s.size - (intOf i).toNat)
  case atStart => exact ⟨0, rfl, Nat.zero_le _, fun j hj => by omega⟩
  case round =>
    obtain ⟨k, rfl, hk, HA⟩ := hrel
    by_cases hlt : k < s.size
    · have HG := Lib.hid (bt_get s k hlt)
      have hk0 : ((k : Int) == 0) = true ∨ ((k : Int) == 0) = false := by cases h : ((k : Int) == 0) <;> simp
      by_cases hok : okc k (bt s k) = true
      · have HN : Hid (∀ j, j < k + 1 → okc j (bt s j) = true) := by
          intro j hj
          by_cases e : j = k
          · rw [e]; exact hok
          · exact HA.out j (by omega)
        have ho := (okc_iff k (bt s k)).1 hok
        rw [HG.out] at ho
        rw [show (k ≠ 0) = ¬ ((k : Int) == 0) = true from by simp] at ho
        clear hok HA HG
        rcases hk0 with hk0 | hk0
        all_goals go_wp2
        all_goals (first | (exfalso; simp_all; done) | (exfalso; simp_all; omega) | skip)
        all_goals go_round
        all_goals try (case rel => exact ⟨k + 1, by go_num, by omega, HN⟩)
        all_goals try (case measure => simp [intOf]; omega)
      · have HB := Lib.hid (nmB_bad s k hlt (by simpa using hok))
        have ho : ¬ ((97 ≤ bt s k ∧ bt s k ≤ 122) ∨ (65 ≤ bt s k ∧ bt s k ≤ 90) ∨ (k ≠ 0 ∧ 48 ≤ bt s k ∧ bt s k ≤ 57)) := fun h => hok ((okc_iff k (bt s k)).2 h)
        rw [HG.out] at ho
        rw [show (k ≠ 0) = ¬ ((k : Int) == 0) = true from by simp] at ho
        clear hok HA HG
        rcases hk0 with hk0 | hk0
        all_goals go_wp2
        all_goals (first | (exfalso; simp_all; done) | (exfalso; simp_all; omega) | skip)
        all_goals go_ret
        all_goals exact ⟨ret_bool HB.out.symm, rfl⟩
    · have HB := Lib.hid (nmB_good s fun i hi => HA.out i (by omega))
      clear HA
      go_wp2
      all_goals go_ret
      all_goals (refine ⟨ret_bool ?_, rfl⟩; rw [HB.out]; by_cases a1 : 1 ≤ s.size <;> by_cases a2 : s.size ≤ 8 <;> simp [a1, a2] <;> omega)
end Go.Proofs.YtgjnlgcdpbilfaaDoor
namespace Go.Proofs.YtgjnlgcdpbilfaaDoor
open Go.ChangeShapes Go.WideShapes Go.ChangeAt Go.RowKit
set_option linter.unusedVariables false
set_option linter.unusedSimpArgs false

def bxW (w : World) (P : Pln) (e j s l : Value) : World := w.alloc (.cells #[e, j, s, l, .int .i64 P.top, .int .i64 P.brake, .int .i64 P.margin, .int .i64 P.throw, .bool P.hard] 27)
theorem bxW_gr (w : World) (P : Pln) (e j s l : Value) : Gr w (bxW w P e j s l) := (Gr.refl _).alloc _
theorem bxW_box (w : World) (P : Pln) (e j s l : Value) : PBox (bxW w P e j s l) w.heap.size P e j s l := PBox.new w P e j s l
def RetN (w : World) (A B C : List ByteArray) (e : Ending) (w' : World) : Prop := ∃ va vb vc, e = .returned (.tuple #[va, vb, vc]) ∧ IsVals w' va (A.map Value.string) ∧ IsVals w' vb (B.map Value.string) ∧ IsVals w' vc (C.map Value.string) ∧ Gr w w'
theorem map_take_snoc {α β : Type} (l : List α) (f : α → β) (k : Nat) (h : k < l.length) : (l.take k).map f ++ [f l[k]] = (l.take (k + 1)).map f := by
  rw [List.take_succ_eq_append_getElem h, List.map_append]; rfl
theorem map_take_all {α β : Type} (l : List α) (f : α → β) (k : Nat) (h : l.length ≤ k) : (l.take k).map f = l.map f := by
  rw [List.take_of_length_le h]
set_option maxRecDepth 100000 in
set_option maxHeartbeats 400000 in
theorem refNames_any (v : Value) (P : Pln) (w : World) (hP : IsPln w v P) (n1 : P.es.length ≤ 1000) (n3 : P.ss.length ≤ 1000) (n4 : P.ls.length ≤ 1000) :
    Calls Tryd.prog 34 #[v] w (RetN w (P.es.map (·.n)) (P.ss.map (·.n)) (P.ls.map (·.n))) := by
  obtain ⟨a1, c1, a2, c2, a3, c3, a4, c4, rfl, h1, h2, h3, h4⟩ := hP
  have H1 := Lib.hid h1
  have H3 := Lib.hid h3
  have H4 := Lib.hid h4
  have HB := Lib.hid (bxW_box w P (.slice a1 P.es.length c1) (.slice a2 P.js.length c2) (.slice a3 P.ss.length c3) (.slice a4 P.ls.length c4))
  have hw0 := bxW_gr w P (.slice a1 P.es.length c1) (.slice a2 P.js.length c2) (.slice a3 P.ss.length c3) (.slice a4 P.ls.length c4)
  obtain ⟨wb, hwb⟩ : ∃ wb, wb = bxW w P (.slice a1 P.es.length c1) (.slice a2 P.js.length c2) (.slice a3 P.ss.length c3) (.slice a4 P.ls.length c4) := ⟨_, rfl⟩
  rw [← hwb] at HB hw0
  unfold plnV
  obtain ⟨i0, hi, hz0, hz1, hz2⟩ := info_parts Tryd.infoS
  clear h1 h2 h3 h4
  have HWB := Lib.hid hwb
  clear hwb
  go_enter Tryd.func34, Tryd.ntmps34
  go_wp2_with fail
  rw [show (w.alloc (.cells #[.slice a1 P.es.length c1, .slice a2 P.js.length c2, .slice a3 P.ss.length c3, .slice a4 P.ls.length c4, .int .i64 P.top, .int .i64 P.brake, .int .i64 P.margin, .int .i64 P.throw, .bool P.hard] 27)) = wb from HWB.out.symm]
  go_loopw [5, 8] (fun v i wr => ∃ (V : Value) (k : Nat), V = v ∧ i = .int .i64 k ∧ k ≤ P.es.length ∧ OwnS wb.heap.size wr V ((P.es.take k).map (·.n)) ∧ Gr wb wr) (fun _ i _ => P.es.length - (intOf i).toNat)
  case atStart => exact ⟨_, 0, rfl, rfl, Nat.zero_le _, OwnS.nil _ _, Gr.refl _⟩
  case round =>
    obtain ⟨v1, k, rfl, rfl, hk, ho, g⟩ := hrel
    obtain ⟨zb, b0, b1, b2, b3, b4, b5, b6, b7, b8⟩ := HB.out.gr g
    have HO : Hid (wr.ownsRow wb.heap.size 9 1 v1 ((P.es.take k).map (·.n)).length (((P.es.take k).map (·.n)).map Value.string)) := ho
    have hgw := hw0.trans g
    by_cases hlt : k < P.es.length
    · obtain ⟨b, o, hsome, zs, y0, -, -⟩ := (H1.out.gr hgw).at k hlt
      subst hsome
      have HT := Lib.hid (map_take_snoc P.es (·.n) k hlt)
      have hk1 : (k : Int) < (P.es.length : Int) := by omega
      have hkl : ((P.es.take k).map (·.n)).length ≤ 1000 := by simp; omega
      generalize P.es[k].n = nm at *
      generalize (P.es.take k).map (·.n) = L at *
      go_wp2_with (first | (at_builtin; refine wpList_append_own _ rfl _ _ 78 rfl wb.heap.size 9 i0 (.string ByteArray.empty) 1 16 Tryd.underlying78 hi hz0 hz1 hz2 rfl (by decide) _ _ _ rfl (HO.out.alloc _) ⟨wr.heap.size, 0, none⟩ 1 1 [.string nm] rfl rfl ?c1 ?c2 ?c3 ?c4 ?c5 ?_))
      case c1 => exact cell_one_new _ _ _
      case c2 => simp [Value.oneCell']
      case c3 => unfold maxLen; omega
      case c4 => omega
      case c5 => have := g.size; simp; omega
      intro v' w1 hown' hgrow _
      have hg1 : Gr wb w1 := Gr.grown (g.alloc _) hgrow HO.out
      have ho1 : OwnS wb.heap.size w1 v' (L ++ [nm]) := OwnS.snoc hown'
      rw [HT.out] at ho1
      clear hown' hgrow HO
      go_wp2
      go_roundw
      case rel => exact ⟨_, k + 1, rfl, by go_num, by omega, ho1, hg1⟩
      case measure => simp [intOf]; omega
    · have hv1 : IsVals wr v1 ((P.es.map (·.n)).map Value.string) := by
        have := ho.vals (by unfold maxLen; simp; omega)
        rwa [map_take_all _ _ _ (by omega)] at this
      have HV1 := Lib.hid hv1
      have hb1 := HB.out.gr g
      have hw1 := hw0.trans g
      clear HO ho hv1 hgw zb b0 b1 b2 b3 b4 b5 b6 b7 b8
      have hb1' := hb1
      obtain ⟨zb, b0, b1, b2, b3, b4, b5, b6, b7, b8⟩ := hb1'
      go_wp2_with fail
      clear zb b0 b1 b2 b3 b4 b5 b6 b7 b8 g hlt hk
      have HB1 := Lib.hid hb1
      clear hb1
      obtain ⟨wa, hwa⟩ : ∃ wa, wa = wr := ⟨_, rfl⟩
      subst hwa
      go_loopw [6, 9] (fun v i wr => ∃ (V : Value) (k : Nat), V = v ∧ i = .int .i64 k ∧ k ≤ P.ss.length ∧ OwnS wa.heap.size wr V ((P.ss.take k).map (·.n)) ∧ Gr wa wr) (fun _ i _ => P.ss.length - (intOf i).toNat)
      case atStart => exact ⟨_, 0, rfl, rfl, Nat.zero_le _, OwnS.nil _ _, Gr.refl _⟩
      case round =>
        obtain ⟨v2, k, rfl, rfl, hk, ho, g⟩ := hrel
        obtain ⟨zb, b0, b1, b2, b3, b4, b5, b6, b7, b8⟩ := HB1.out.gr g
        have HO : Hid (wr.ownsRow wa.heap.size 9 1 v2 ((P.ss.take k).map (·.n)).length (((P.ss.take k).map (·.n)).map Value.string)) := ho
        have hgw := hw1.trans g
        by_cases hlt : k < P.ss.length
        · obtain ⟨b, o, hsome, zs, y0, -, -, -⟩ := (H3.out.gr hgw).at k hlt
          subst hsome
          have HT := Lib.hid (map_take_snoc P.ss (·.n) k hlt)
          have hk1 : (k : Int) < (P.ss.length : Int) := by omega
          have hkl : ((P.ss.take k).map (·.n)).length ≤ 1000 := by simp; omega
          generalize P.ss[k].n = nm at *
          generalize (P.ss.take k).map (·.n) = L at *
          go_wp2_with (first | (at_builtin; refine wpList_append_own _ rfl _ _ 78 rfl wa.heap.size 9 i0 (.string ByteArray.empty) 1 16 Tryd.underlying78 hi hz0 hz1 hz2 rfl (by decide) _ _ _ rfl (HO.out.alloc _) ⟨wr.heap.size, 0, none⟩ 1 1 [.string nm] rfl rfl ?c1 ?c2 ?c3 ?c4 ?c5 ?_))
          case c1 => exact cell_one_new _ _ _
          case c2 => simp [Value.oneCell']
          case c3 => unfold maxLen; omega
          case c4 => omega
          case c5 => have := g.size; simp; omega
          intro v' w1 hown' hgrow _
          have hg1 : Gr wa w1 := Gr.grown (g.alloc _) hgrow HO.out
          have ho1 : OwnS wa.heap.size w1 v' (L ++ [nm]) := OwnS.snoc hown'
          rw [HT.out] at ho1
          clear hown' hgrow HO
          go_wp2
          go_roundw
          case rel => exact ⟨_, k + 1, rfl, by go_num, by omega, ho1, hg1⟩
          case measure => simp [intOf]; omega
        · have hv2 : IsVals wr v2 ((P.ss.map (·.n)).map Value.string) := by
            have := ho.vals (by unfold maxLen; simp; omega)
            rwa [map_take_all _ _ _ (by omega)] at this
          have HV2 := Lib.hid hv2
          have HV1' := Lib.hid (HV1.out.gr g)
          have hb1 := HB1.out.gr g
          have hw2 := hw1.trans g
          clear HO ho hv2 hgw zb b0 b1 b2 b3 b4 b5 b6 b7 b8
          have hb1' := hb1
          obtain ⟨zb, b0, b1, b2, b3, b4, b5, b6, b7, b8⟩ := hb1'
          go_wp2_with fail
          clear zb b0 b1 b2 b3 b4 b5 b6 b7 b8 g hlt hk HV1
          have HB2 := Lib.hid hb1
          clear hb1
          obtain ⟨wc, hwc⟩ : ∃ wc, wc = wr := ⟨_, rfl⟩
          subst hwc
          go_loopw [7, 10] (fun v i wr => ∃ (V : Value) (k : Nat), V = v ∧ i = .int .i64 k ∧ k ≤ P.ls.length ∧ OwnS wc.heap.size wr V ((P.ls.take k).map (·.n)) ∧ Gr wc wr) (fun _ i _ => P.ls.length - (intOf i).toNat)
          case atStart => exact ⟨_, 0, rfl, rfl, Nat.zero_le _, OwnS.nil _ _, Gr.refl _⟩
          case round =>
            obtain ⟨v3, k, rfl, rfl, hk, ho, g⟩ := hrel
            obtain ⟨zb, b0, b1, b2, b3, b4, b5, b6, b7, b8⟩ := HB2.out.gr g
            have HO : Hid (wr.ownsRow wc.heap.size 9 1 v3 ((P.ls.take k).map (·.n)).length (((P.ls.take k).map (·.n)).map Value.string)) := ho
            have hgw := hw2.trans g
            by_cases hlt : k < P.ls.length
            · obtain ⟨b, o, _, hsome, zs, y0, -, -⟩ := (H4.out.gr hgw).at k hlt
              subst hsome
              have HT := Lib.hid (map_take_snoc P.ls (·.n) k hlt)
              have hk1 : (k : Int) < (P.ls.length : Int) := by omega
              have hkl : ((P.ls.take k).map (·.n)).length ≤ 1000 := by simp; omega
              generalize P.ls[k].n = nm at *
              generalize (P.ls.take k).map (·.n) = L at *
              go_wp2_with (first | (at_builtin; refine wpList_append_own _ rfl _ _ 78 rfl wc.heap.size 9 i0 (.string ByteArray.empty) 1 16 Tryd.underlying78 hi hz0 hz1 hz2 rfl (by decide) _ _ _ rfl (HO.out.alloc _) ⟨wr.heap.size, 0, none⟩ 1 1 [.string nm] rfl rfl ?c1 ?c2 ?c3 ?c4 ?c5 ?_))
              case c1 => exact cell_one_new _ _ _
              case c2 => simp [Value.oneCell']
              case c3 => unfold maxLen; omega
              case c4 => omega
              case c5 => have := g.size; simp; omega
              intro v' w1 hown' hgrow _
              have hg1 : Gr wc w1 := Gr.grown (g.alloc _) hgrow HO.out
              have ho1 : OwnS wc.heap.size w1 v' (L ++ [nm]) := OwnS.snoc hown'
              rw [HT.out] at ho1
              clear hown' hgrow HO
              go_wp2
              go_roundw
              case rel => exact ⟨_, k + 1, rfl, by go_num, by omega, ho1, hg1⟩
              case measure => simp [intOf]; omega
            · have hv3 : IsVals wr v3 ((P.ls.map (·.n)).map Value.string) := by
                have := ho.vals (by unfold maxLen; simp; omega)
                rwa [map_take_all _ _ _ (by omega)] at this
              clear HO ho
              go_wp2
              go_ret3
              exact ⟨_, _, _, rfl, HV1'.out.gr g, HV2.out.gr g, hv3, hgw⟩
end Go.Proofs.YtgjnlgcdpbilfaaDoor
