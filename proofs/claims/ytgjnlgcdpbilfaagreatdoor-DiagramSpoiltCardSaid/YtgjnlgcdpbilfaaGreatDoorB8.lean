/- Cln: slices.Clone at the plan's element types. Printed by wip/gen_cln.py.
TwnP: net.twin: what its walk carries.
StR: half.Numbers, half.Stock, stock.read; the reference's Row.
StS: half.Stock, stock.read; the reference's Row.
StU: The reference's Row.
Tab1: What the walks need of the library's variables.
Wrd1: Lines and words: the document's Lines.
Wrd2: word.Lines.
StV: stock.read, Parse; the reference's Parse. -/
import Derived.Test.YtgjnlgcdpbilfaaGreatDoorRows
import Derived.Test.YtgjnlgcdpbilfaaGreatDoorB2
import Derived.WalkSpells
import Derived.Test.YtgjnlgcdpbilfaaGreatDoorB3
import Derived.Deep.RegionWith
import Derived.Deep.Cut
import Derived.Deep.DrawnRows
import Derived.Test.YtgjnlgcdpbilfaaGreatDoorB7
import Derived.Test.YtgjnlgcdpbilfaaGreatDoorB1
import Derived.Test.YtgjnlgcdpbilfaaGreatDoorB4
import Derived.Deep.RegionHeld3
import Derived.Test.YtgjnlgcdpbilfaaGreatDoorShelf
import Derived.ChangeAgain
import Derived.LaidMore
import Derived.Deep.DeepHandedRow
namespace Go.Proofs.YtgjnlgcdpbilfaaGreatDoor
open Go.ChangeShapes Go.WideShapes Go.ChangeAt Go.RowKit
set_option linter.unusedVariables false
set_option linter.unusedSimpArgs false
def rowL (sz n : Nat) (C : Nat → Nat → Value) : List Value := (List.range (n * sz)).map fun k => C (k / sz) (k % sz)
theorem rowL_len (sz n : Nat) (C : Nat → Nat → Value) : (rowL sz n C).length = n * sz := by unfold rowL; simp
theorem rowL_get {sz n : Nat} {C : Nat → Nat → Value} {i j : Nat} (hi : i < n) (hj : j < sz) : (rowL sz n C)[i * sz + j]? = some (C i j) := by
  unfold rowL
  have h : i * sz + j < n * sz := by
    have : (i + 1) * sz ≤ n * sz := Nat.mul_le_mul_right sz hi
    rw [Nat.succ_mul] at this
    omega
  have h0 : 0 < sz := by omega
  rw [List.getElem?_map, List.getElem?_range h]
  have e1 : (i * sz + j) / sz = i := by rw [Nat.mul_comm, Nat.mul_add_div h0, Nat.div_eq_of_lt hj, Nat.add_zero]
  have e2 : (i * sz + j) % sz = j := by rw [Nat.mul_comm, Nat.mul_add_mod, Nat.mod_eq_of_lt hj]
  simp [e1, e2]
theorem rowL_at {w : World} {sz n : Nat} {C : Nat → Nat → Value} {a : Addr} {c : Nat} (hs : 0 < sz) (h : IsRow w (.slice (some a) n c) sz n C) : ∀ j u, (rowL sz n C)[j]? = some u → w.cell? (a.add j) = some u := by
  intro j u hu
  obtain ⟨a', c', e, _, hx⟩ := h
  simp only [Value.slice.injEq] at e
  obtain ⟨rfl, -, -⟩ := e
  have hj : j < n * sz := by
    have := (List.getElem?_eq_some_iff.1 hu).1
    rwa [rowL_len] at this
  rcases hx with h0 | ⟨b, o, hb, hlt, hc⟩
  · subst h0; omega
  · cases hb
    have hi : j / sz < n := (Nat.div_lt_iff_lt_mul hs).2 hj
    have hm : j % sz < sz := Nat.mod_lt _ hs
    have := hc (j / sz) (j % sz) hi hm
    have e : o + j / sz * sz + j % sz = o + j := by have := Nat.div_add_mod j sz; rw [Nat.mul_comm] at this; omega
    rw [e] at this
    rw [Go.WideShapes.add_plain, this]
    have h2 := rowL_get (C := C) hi hm
    rw [show j / sz * sz + j % sz = j from by have := Nat.div_add_mod j sz; rw [Nat.mul_comm] at this; exact this, hu] at h2
    exact h2.symm
theorem rowL_one {sz n : Nat} {C : Nat → Nat → Value} (hC : ∀ i j, (C i j).oneCell' = true) : ∀ u ∈ rowL sz n C, u.oneCell' = true := by
  intro u hu
  unfold rowL at hu
  obtain ⟨k, _, rfl⟩ := List.mem_map.1 hu
  exact hC _ _
def RetC (w : World) (e : TypeId) (sz n : Nat) (C : Nat → Nat → Value) (en : Ending) (w' : World) : Prop := ∃ v, en = .returned v ∧ Gr w w' ∧ w'.ownsRow w.heap.size e sz v n (rowL sz n C)
theorem RetC.nil {w : World} {e : TypeId} {sz : Nat} {C : Nat → Nat → Value} : RetC w e sz 0 C (.returned (.slice none 0 0)) w :=
  ⟨_, rfl, Gr.refl _, by rw [rowL_len], .inl ⟨rfl, rfl⟩⟩
end Go.Proofs.YtgjnlgcdpbilfaaGreatDoor
namespace Go.Proofs.YtgjnlgcdpbilfaaGreatDoor
open Go.ChangeShapes Go.WideShapes Go.ChangeAt Go.RowKit
set_option linter.unusedVariables false
set_option linter.unusedSimpArgs false
attribute [local go_sem ↓] Go.wp_at_zero Go.wp_at_succ
def Free9 (w : World) (b : Nat) : Prop := ∀ o, o < 9 → w.frozen? ⟨b, o, none⟩ = false
theorem Free9.gr {w w' : World} {b : Nat} (h : Free9 w b) (g : Gr w w') (hb : b < w.heap.size) : Free9 w' b := fun o ho => by rw [g.frozen _ _ hb]; exact h o ho
theorem Free9.set {w : World} {b : Nat} (h : Free9 w b) (p : Addr) (v : Value) : Free9 (w.setCell p v) b := fun o ho => by rw [World.frozen?_setCell]; exact h o ho
theorem Free9.new (w : World) (x : Array Value) (t : TypeId) : Free9 (w.alloc (.cells x t)) w.heap.size := fun o ho => by simp
theorem own_form {w : World} {B : Nat} {e : TypeId} {sz n : Nat} {v : Value} {xs : List Value} (h : w.ownsRow B e sz v n xs) : ∃ a c, v = .slice a n c := by
  rcases h.2 with ⟨rfl, h0⟩ | ⟨g, cap, cur, rfl, _⟩
  · subst h0; exact ⟨_, _, rfl⟩
  · exact ⟨_, _, rfl⟩
def IsRowI (lo hi : Nat) (w : World) (v : Value) (sz n : Nat) (C : Nat → Nat → Value) : Prop :=
  ∃ a c, v = .slice a n c ∧ n ≤ maxLen ∧ (n = 0 ∨ ∃ b o, a = some ⟨b, o, none⟩ ∧ lo ≤ b ∧ b < hi ∧ b < w.heap.size ∧ ∀ i j, i < n → j < sz → w.cell? ⟨b, o + i * sz + j, none⟩ = some (C i j))
theorem IsRowI.row {lo hi : Nat} {w : World} {v : Value} {sz n : Nat} {C : Nat → Nat → Value} (h : IsRowI lo hi w v sz n C) : IsRow w v sz n C := by
  obtain ⟨a, c, e, hm, hx⟩ := h
  refine ⟨a, c, e, hm, ?_⟩
  rcases hx with h | ⟨b, o, h1, -, -, h2, h3⟩
  · exact .inl h
  · exact .inr ⟨b, o, h1, h2, h3⟩
theorem IsRowI.keep {lo hi : Nat} {w w' : World} {v : Value} {sz n : Nat} {C : Nat → Nat → Value} (h : IsRowI lo hi w v sz n C) (hs : w.heap.size ≤ w'.heap.size) (hc : ∀ b o, lo ≤ b → b < hi → b < w.heap.size → w'.cell? ⟨b, o, none⟩ = w.cell? ⟨b, o, none⟩) : IsRowI lo hi w' v sz n C := by
  obtain ⟨a, c, e, hm, hx⟩ := h
  refine ⟨a, c, e, hm, ?_⟩
  rcases hx with h | ⟨b, o, h1, h2, h3, h4, h5⟩
  · exact .inl h
  · exact .inr ⟨b, o, h1, h2, h3, Nat.lt_of_lt_of_le h4 hs, fun i j hi hj => by rw [hc _ _ h2 h3 h4]; exact h5 i j hi hj⟩
theorem own_base_le {w : World} {B B' : Nat} {e : TypeId} {sz n : Nat} {v : Value} {xs : List Value} (h : w.ownsRow B e sz v n xs) (hb : B' ≤ B) : w.ownsRow B' e sz v n xs := by
  refine ⟨h.1, ?_⟩
  rcases h.2 with h | ⟨g, cap, cur, hv, hg, rest⟩
  · exact .inl h
  · exact .inr ⟨g, cap, cur, hv, Nat.le_trans hb hg, rest⟩
def Far (r : Nat) (w w' : World) : Prop := w'.heap.size = w.heap.size ∧ (∀ b o, b ≠ r → w'.cell? ⟨b, o, none⟩ = w.cell? ⟨b, o, none⟩) ∧ ∀ p, w'.frozen? p = w.frozen? p
theorem Far.refl (r : Nat) (w : World) : Far r w w := ⟨rfl, fun _ _ _ => rfl, fun _ => rfl⟩
theorem Far.set {r : Nat} {w w' : World} (h : Far r w w') (o : Nat) (v : Value) : Far r w (w'.setCell ⟨r, o, none⟩ v) :=
  ⟨by simpa using h.1, fun b o' hb => (World.cell?_setCell_other _ _ _ _ (by intro e; injection e with e2 _; exact hb e2.symm)).trans (h.2.1 b o' hb), fun p => by rw [World.frozen?_setCell]; exact h.2.2 p⟩
def IsValsA (g r : Nat) (w : World) (u : Value) (xs : List Value) : Prop :=
  ∃ (a : Option Addr) (cap : Nat), u = .slice a xs.length cap ∧ xs.length ≤ maxLen ∧ (xs = [] ∨ ∃ b off, a = some ⟨b, off, none⟩ ∧ b ≠ g ∧ b ≠ r ∧ b < w.heap.size ∧ ∀ i x, xs[i]? = some x → w.cell? ⟨b, off + i, none⟩ = some x)
theorem IsValsA.vals {g r : Nat} {w : World} {u : Value} {xs : List Value} (h : IsValsA g r w u xs) : IsVals w u xs := by
  obtain ⟨a, cap, e, hl, hx⟩ := h
  refine ⟨a, cap, e, hl, ?_⟩
  rcases hx with h | ⟨b, o, h1, -, -, h2, h3⟩
  · exact .inl h
  · exact .inr ⟨b, o, h1, h2, h3⟩
theorem IsValsA.keep {g r : Nat} {w w' : World} {u : Value} {xs : List Value} (h : IsValsA g r w u xs) (hs : w.heap.size ≤ w'.heap.size) (hc : ∀ b o, b ≠ g → b ≠ r → b < w.heap.size → w'.cell? ⟨b, o, none⟩ = w.cell? ⟨b, o, none⟩) : IsValsA g r w' u xs := by
  obtain ⟨a, cap, e, hl, hx⟩ := h
  refine ⟨a, cap, e, hl, ?_⟩
  rcases hx with h | ⟨b, o, h1, h4, h5, h2, h3⟩
  · exact .inl h
  · exact .inr ⟨b, o, h1, h4, h5, Nat.lt_of_lt_of_le h2 hs, fun i x hx => by rw [hc _ _ h4 h5 h2]; exact h3 i x hx⟩
structure TwL (w : World) (P : Pln) (v1 v2 v3 v4 : Value) (hi g4 : Nat) (wr : World) : Prop where
  gr : Gr w wr
  box : PBox wr w.heap.size P v1 v2 v3 v4
  rs : w.heap.size + 1 < wr.heap.size
  rc : ∀ o, o < 9 → ∃ u, wr.cell? ⟨w.heap.size + 1, o, none⟩ = some u
  rf : Free9 wr (w.heap.size + 1)
  i1 : IsRowI (w.heap.size + 2) hi wr v1 3 P.es.length (fun i j => (P.es.getD i default).c j)
  i2 : IsRowI (w.heap.size + 2) hi wr v2 4 P.js.length (fun i j => (P.js.getD i default).c j)
  i3 : IsRowI (w.heap.size + 2) hi wr v3 4 P.ss.length (fun i j => (P.ss.getD i default).c j)
  hg : w.heap.size + 2 ≤ hi ∧ hi ≤ g4
  v4 : ∃ c, P.ls.length ≤ maxLen ∧ ((P.ls.length = 0 ∧ ∃ a, v4 = .slice a 0 c) ∨ v4 = .slice (some ⟨g4, 0, none⟩) P.ls.length c)
  ln : ∀ i (h : i < P.ls.length), g4 < wr.heap.size ∧ wr.cell? ⟨g4, i * 2, none⟩ = some (.string P.ls[i].n) ∧ wr.frozen? ⟨g4, i * 2 + 1, none⟩ = false ∧ ∃ u, wr.cell? ⟨g4, i * 2 + 1, none⟩ = some u ∧ IsValsA g4 (w.heap.size + 1) wr u (P.ls[i].es.map (Value.int .i64))
theorem TwL.grow {w : World} {P : Pln} {v1 v2 v3 v4 : Value} {hi g4 : Nat} {wr w5 : World} (h : TwL w P v1 v2 v3 v4 hi g4 wr) (g : Gr wr w5) : TwL w P v1 v2 v3 v4 hi g4 w5 :=
  ⟨h.gr.trans g, h.box.gr g, Nat.lt_of_lt_of_le h.rs g.size, fun o ho => by obtain ⟨u, hu⟩ := h.rc o ho; exact ⟨u, (g.cell _ _ h.rs).trans hu⟩, h.rf.gr g h.rs,
    h.i1.keep g.size (fun b o _ _ hb => g.cell _ _ hb), h.i2.keep g.size (fun b o _ _ hb => g.cell _ _ hb), h.i3.keep g.size (fun b o _ _ hb => g.cell _ _ hb), h.hg, h.v4, fun i hi => by
      obtain ⟨a, b, c, u, d, e⟩ := h.ln i hi
      exact ⟨Nat.lt_of_lt_of_le a g.size, (g.cell _ _ a).trans b, (g.frozen _ _ a).trans c, u, (g.cell _ _ a).trans d, e.keep g.size fun b o _ _ hb => g.cell _ _ hb⟩⟩
theorem TwL.done {w : World} {P : Pln} {v1 v2 v3 v4 : Value} {hi g4 : Nat} {wr w' : World} (h : TwL w P v1 v2 v3 v4 hi g4 wr) (hf : Far (w.heap.size + 1) wr w') : IsPln w' (plnV P v1 v2 v3 v4) P := by
  have hz : wr.heap.size ≤ w'.heap.size := by rw [hf.1]; exact Nat.le_refl _
  have k1 := (h.i1.keep hz fun b o hb _ _ => hf.2.1 _ _ (by omega)).row
  have k2 := (h.i2.keep hz fun b o hb _ _ => hf.2.1 _ _ (by omega)).row
  have k3 := (h.i3.keep hz fun b o hb _ _ => hf.2.1 _ _ (by omega)).row
  obtain ⟨x1, y1, rfl, -⟩ := id h.i1
  obtain ⟨x2, y2, rfl, -⟩ := id h.i2
  obtain ⟨x3, y3, rfl, -⟩ := id h.i3
  obtain ⟨c, hm, h4⟩ := h.v4
  rcases h4 with ⟨h0, a, rfl⟩ | rfl
  · refine ⟨x1, y1, x2, y2, x3, y3, a, c, by rw [h0], k1, k2, k3, fun _ => default, ⟨a, c, rfl, hm, .inl h0⟩, fun i hi => by omega⟩
  · refine ⟨x1, y1, x2, y2, x3, y3, _, c, rfl, k1, k2, k3, fun i => (w'.cell? ⟨g4, i * 2 + 1, none⟩).getD default, ⟨_, c, rfl, hm, ?_⟩, fun i hi => ?_⟩
    · rcases Nat.eq_zero_or_pos P.ls.length with h0 | h0
      · exact .inl h0
      · refine .inr ⟨g4, 0, rfl, by rw [hf.1]; exact (h.ln 0 h0).1, fun i j hi hj => ?_⟩
        obtain ⟨_, b, _, u, d, _⟩ := h.ln i hi
        have hg := h.hg
        match j, hj with
        | 0, _ =>
          show w'.cell? ⟨g4, 0 + i * 2 + 0, none⟩ = some (.string (P.ls.getD i default).n)
          rw [Nat.add_zero, Nat.zero_add, hf.2.1 g4 _ (fun e => by omega), b, getD_at _ _ hi]
        | 1, _ =>
          show w'.cell? ⟨g4, 0 + i * 2 + 1, none⟩ = some ((w'.cell? ⟨g4, i * 2 + 1, none⟩).getD default)
          rw [Nat.zero_add, hf.2.1 g4 _ (fun e => by omega), d]; rfl
    · obtain ⟨_, b, _, u, d, e⟩ := h.ln i hi
      have hg := h.hg
      show IsVals w' ((w'.cell? ⟨g4, i * 2 + 1, none⟩).getD default) _
      rw [hf.2.1 g4 _ (fun e => by omega), d, getD_at _ _ hi]
      exact (e.keep hz fun b o _ hb _ => hf.2.1 _ _ hb).vals
theorem vals_slice {w : World} {u : Value} {xs : List Value} (h : IsVals w u xs) : u.oneCell' = true := by
  obtain ⟨a, c, rfl, _⟩ := h; rfl
theorem IsLns.one {w : World} {v : Value} {l : List Ln} (h : IsLns w v l) : ∃ S : Nat → Value, (∀ i j, (if j = 0 then Value.string (l.getD i default).n else S i).oneCell' = true) ∧ IsRow w v 2 l.length (fun i j => if j = 0 then .string (l.getD i default).n else S i) ∧ ∀ i, i < l.length → IsVals w (S i) ((l.getD i default).es.map (Value.int .i64)) := by
  obtain ⟨S, h1, h2⟩ := h
  refine ⟨fun i => if i < l.length then S i else .slice none 0 0, fun i j => ?_, ?_, fun i hi => by dsimp only; rw [if_pos hi]; exact h2 i hi⟩
  · dsimp only
    split
    · rfl
    · split
      · next hi => exact vals_slice (h2 i hi)
      · rfl
  · obtain ⟨a, c, e, hm, hx⟩ := h1
    refine ⟨a, c, e, hm, ?_⟩
    rcases hx with h | ⟨b, o, h1, h2, h3⟩
    · exact .inl h
    · refine .inr ⟨b, o, h1, h2, fun i j hi hj => ?_⟩
      dsimp only
      rw [if_pos hi]
      exact h3 i j hi hj
end Go.Proofs.YtgjnlgcdpbilfaaGreatDoor
namespace Go.Proofs.YtgjnlgcdpbilfaaGreatDoor
open Go.ChangeShapes Go.WideShapes Go.ChangeAt Go.RowKit Go.Maps
set_option linter.unusedVariables false
set_option linter.unusedSimpArgs false
def nums (l : List ByteArray) : Option (List Int) := if l.all (fun x => numB x 4) then some (l.map fun x => numN x 4) else none
theorem nums_bad {l : List ByteArray} {k : Nat} (hk : k < l.length) (h : numB l[k] 4 = false) : nums l = none := by
  unfold nums
  rw [if_neg]
  simp only [List.all_eq_true]
  intro h2
  rw [h2 _ (List.getElem_mem hk)] at h; cases h
theorem nums_good {l : List ByteArray} (h : ∀ k (hk : k < l.length), numB l[k] 4 = true) : nums l = some (l.map fun x => numN x 4) := by
  unfold nums
  rw [if_pos]
  rw [List.all_eq_true]
  intro x hx
  obtain ⟨k, hk, rfl⟩ := List.getElem_of_mem hx
  exact h k hk
def RetNm (w : World) (o : Option (List Int)) (e : Ending) (w' : World) : Prop :=
  ∃ v, e = .returned (.tuple #[v, .bool o.isSome]) ∧ IsVals w' v ((o.getD []).map (Value.int .i64)) ∧ Gr w w'
theorem RetNm.no {w w' : World} {o : Option (List Int)} (h : o = none) (g : Gr w w') : RetNm w o (.returned (.tuple #[.slice none 0 0, .bool false])) w' := by
  subst h; exact ⟨_, rfl, ⟨none, 0, rfl, by simp, .inl rfl⟩, g⟩
theorem RetNm.yes {w w' : World} {o : Option (List Int)} {L : List Int} {v : Value} (h : o = some L) (hv : IsVals w' v (L.map (Value.int .i64))) (g : Gr w w') : RetNm w o (.returned (.tuple #[v, .bool true])) w' := by
  subst h; exact ⟨_, rfl, hv, g⟩
set_option maxRecDepth 100000 in
set_option maxHeartbeats 1000000 in
theorem hnums_any (v : Value) (L : List ByteArray) (w : World) (hv : IsVals w v (L.map Value.string)) (hs : ∀ x ∈ L, x.size ≤ maxLen) (hn : L.length ≤ 1000) :
    Calls Tryz.prog 115 #[v] w (RetNm w (nums L)) := by
  have HV := Lib.hid hv
  obtain ⟨a, c, rfl, hm, -⟩ := hv
  rw [List.length_map] at HV hm ⊢
  unfold maxLen at hm
  have HS := Lib.hid hs
  have HNU := Lib.hid (fun (x : ByteArray) (h : x ∈ L) (w' : World) => number_any x 4 (hs x h) w')
  obtain ⟨i0, hi0, hi1, hi2, hi3⟩ := info_parts Tryz.infoI
  clear hs
  go_enter Tryz.func115, Tryz.ntmps115
  go_wp2_with fail
  go_loopw [4, 6, 7, 8, 11] (fun V _ _ _ x wr => ∃ k : Nat, x = .int .i64 k ∧ k ≤ L.length ∧ Gr w wr ∧ OwnI w.heap.size wr V ((L.take k).map fun x => numN x 4) ∧ Hid (∀ i (hi : i < L.length), i < k → numB L[i] 4 = true)) (fun _ _ _ _ x _ => L.length - (intOf x).toNat)
  case atStart => exact ⟨0, rfl, Nat.zero_le _, Gr.refl _, OwnI.nil _ _, fun i _ h => by omega⟩
  case round =>
    obtain ⟨k, rfl, hk, g, ho, HA⟩ := hrel
    obtain ⟨va, vc, rfl⟩ := own_form ho
    by_cases hlt : k < L.length
    · have hk1 : (k : Int) < (L.length : Int) := by omega
      obtain ⟨bb, o, hs, z, y0⟩ := vals_at (HV.out.gr g) k hlt
      subst hs
      have HNk := Lib.hid (HNU.out L[k] (List.getElem_mem hlt))
      have HBD := Lib.hid (fun (h : numB L[k] 4 = false) => nums_bad hlt h)
      have HA2 : Hid (numB L[k] 4 = true → ∀ i (hi : i < L.length), i < k + 1 → numB L[i] 4 = true) := fun h i hi hik => by
        by_cases e : i = k
        · subst e; exact h
        · exact HA.out i hi (by omega)
      have HN : Hid ((L.take (k + 1)).map (fun x => numN x 4) = (L.take k).map (fun x => numN x 4) ++ [numN L[k] 4]) := by
        show _ = _
        rw [List.take_succ_eq_append_getElem hlt, List.map_append]; rfl
      have hll : ((L.take k).map (fun x => numN x 4)).length ≤ 1000 := by simp; omega
      clear HA
      generalize (L.take k).map (fun x => numN x 4) = M at HN ho hll
      generalize numN L[k] 4 = n at HNk HN
      generalize numB L[k] 4 = q at HNk HBD HA2
      generalize L[k] = x at y0 HNk
      have HO : Hid (wr.ownsRow w.heap.size 3 1 (.slice va M.length vc) M.length (M.map (Value.int .i64))) := ho
      clear ho
      cases q
      · have HR := Lib.hid (HBD.out rfl)
        go_wp2_with (first | (go_at_call 127; (with_reducible refine (HNk.out _).mono ?_); rintro e w3 ⟨rfl, hq⟩; obtain rfl := hq.symm) | fail)
        go_ret2
        exact RetNm.no HR.out g
      · have HA3 := Lib.hid (HA2.out rfl)
        clear HA2 HBD
        go_wp2_with (first | (go_at_call 127; (with_reducible refine (HNk.out _).mono ?_); rintro e w3 ⟨rfl, hq⟩; obtain rfl := hq.symm) | (at_builtin; refine wpList_append_own _ rfl _ _ 102 rfl w.heap.size 3 i0 (.int .i64 0) 1 8 Tryz.underlying102 hi0 hi1 hi2 hi3 rfl (by decide) _ _ _ rfl (HO.out.alloc _) ⟨wr.heap.size, 0, none⟩ 1 1 [.int .i64 n] rfl rfl ?c1 ?c2 ?c3 ?c4 ?c5 ?_))
        case c1 => exact cell_one_new _ _ _
        case c2 => simp [Value.oneCell']
        case c3 => unfold maxLen; omega
        case c4 => omega
        case c5 => have := g.size; simp; omega
        intro v' w4 hown' hgrow _
        have hg1 : Gr w w4 := Gr.grown (g.alloc _) hgrow HO.out
        have ho1 := Lib.hid (OwnI.snoc hown')
        rw [← HN.out] at ho1
        clear hown' hgrow
        go_wp2_with fail
        go_roundw
        case rel => exact ⟨k + 1, by go_num, hlt, hg1, ho1.out, HA3.out⟩
        case measure => simp [intOf]; omega
    · have hk1 : ¬ (k : Int) < (L.length : Int) := by omega
      rw [List.take_of_length_le (show L.length ≤ k by omega)] at ho ⊢
      have hvv : Hid (IsVals wr (.slice va L.length vc) ((L.map fun x => numN x 4).map (Value.int .i64))) := by
        have := OwnI.vals ho (by unfold maxLen; simp; omega)
        rwa [List.length_map] at this
      have HG := Lib.hid (nums_good fun i hi => HA.out i hi (by omega))
      clear ho
      go_wp2_with fail
      go_ret2
      exact RetNm.yes HG.out hvv.out g
def stkR (o : Option Stk) : Value := .tuple #[(o.getD ⟨⟨#[]⟩, 0, 0, 0, 0⟩).v, .bool o.isSome]
theorem rowS_len {l : List ByteArray} (h : l.length ≠ 6) : rowS l = none := by
  match l with
  | [a, b, c, d, e, f] => simp at h
  | [] => rfl
  | [_] => rfl
  | [_, _] => rfl
  | [_, _, _] => rfl
  | [_, _, _, _] => rfl
  | [_, _, _, _, _] => rfl
  | _ :: _ :: _ :: _ :: _ :: _ :: _ :: _ => rfl
theorem rowS_six (a b c d e f : ByteArray) : rowS [a, b, c, d, e, f] = if a = bStock ∧ nmB b = true then (match nums [c, d, e, f] with | some _ => some ⟨b, numN c 4, numN d 4, numN e 4, numN f 4⟩ | none => none) else none := by
  show (if a = bStock ∧ nmB b = true ∧ numB c 4 = true ∧ numB d 4 = true ∧ numB e 4 = true ∧ numB f 4 = true then some (⟨b, numN c 4, numN d 4, numN e 4, numN f 4⟩ : Stk) else none) = _
  unfold nums
  simp only [List.all_cons, List.all_nil, Bool.and_true, Bool.and_eq_true]
  by_cases h1 : a = bStock
  · by_cases h2 : nmB b = true
    · by_cases h3 : numB c 4 = true ∧ numB d 4 = true ∧ numB e 4 = true ∧ numB f 4 = true
      · rw [if_pos ⟨h1, h2, h3.1, h3.2.1, h3.2.2.1, h3.2.2.2⟩, if_pos ⟨h1, h2⟩, if_pos h3]
      · rw [if_neg (fun h => h3 ⟨h.2.2.1, h.2.2.2.1, h.2.2.2.2.1, h.2.2.2.2.2⟩), if_pos ⟨h1, h2⟩, if_neg h3]
    · rw [if_neg (fun h => h2 h.2.1), if_neg (fun h => h2 h.2)]
  · rw [if_neg (fun h => h1 h.1), if_neg (fun h => h1 h.1)]
theorem list_six {α : Type} {l : List α} (h : l.length = 6) : ∃ a b c d e f, l = [a, b, c, d, e, f] := by
  match l, h with
  | [a, b, c, d, e, f], _ => exact ⟨a, b, c, d, e, f, rfl⟩
theorem slice_two (b o c : Nat) (hc : 6 ≤ c) (w' : World) : (Instr.slice 55 (.slice (some ⟨b, o, none⟩) 6 c) (some (.int .i64 2)) none none).run Tryz.prog w' = .ok (.slice (some ⟨b, o + 2, none⟩) 4 (c - 2)) w' := by
  rw [run_slice_l (w := w') (P := Tryz.prog) 55 _ 6 c (by kernel_rfl) .i64 2 (by omega) (by omega)]
  have hs : (sizeOf (Tryz.prog.elem 55)).run Tryz.prog w' = .ok 1 w' := by kernel_rfl
  rw [hs]
  simp only [Result.andThen, sliced]
  rw [show Int.toNat 2 = 2 from rfl, if_neg (by omega)]
  rfl
theorem vals_six {w : World} {bb o c : Nat} {a b d e f g : ByteArray} (h : IsVals w (.slice (some ⟨bb, o, none⟩) 6 c) ([a, b, d, e, f, g].map Value.string)) :
    bb < w.heap.size ∧ w.cell? ⟨bb, o, none⟩ = some (.string a) ∧ w.cell? ⟨bb, o + 1, none⟩ = some (.string b) ∧ IsVals w (.slice (some ⟨bb, o + 2, none⟩) 4 (c - 2)) ([d, e, f, g].map Value.string) := by
  obtain ⟨a', c', e', _, hx⟩ := h
  simp only [Value.slice.injEq] at e'
  obtain ⟨rfl, -, rfl⟩ := e'
  rcases hx with hx | ⟨b2, o2, h2, hb, hc⟩
  · cases hx
  · cases h2
    refine ⟨hb, hc 0 _ rfl, hc 1 _ rfl, ⟨_, c - 2, rfl, by simp; unfold maxLen; omega, .inr ⟨bb, o + 2, rfl, hb, fun i x hi => ?_⟩⟩⟩
    have := hc (i + 2) x (by simpa using hi)
    rw [show o + 2 + i = o + (i + 2) from by omega]
    exact this
end Go.Proofs.YtgjnlgcdpbilfaaGreatDoor
namespace Go.Proofs.YtgjnlgcdpbilfaaGreatDoor
open Go.ChangeShapes Go.WideShapes Go.ChangeAt Go.RowKit Go.Maps
set_option linter.unusedVariables false
set_option linter.unusedSimpArgs false
theorem stockL : bStock.toList = [115, 116, 111, 99, 107] := by rw [ByteArray.toList_eq]; rfl
theorem nums_val {l : List ByteArray} {N : List Int} (h : nums l = some N) : N = l.map fun x => numN x 4 := by
  unfold nums at h
  split at h
  · cases h; rfl
  · cases h
theorem stk_box {w w' : World} (g : Gr (w.alloc (.cells #[.string ⟨#[]⟩, .int .i64 0, .int .i64 0, .int .i64 0, .int .i64 0] 64)) w') : w.heap.size < w'.heap.size ∧ w'.cell? ⟨w.heap.size, 0, none⟩ = some (.string ⟨#[]⟩) ∧ w'.cell? ⟨w.heap.size, 1, none⟩ = some (.int .i64 0) ∧ w'.cell? ⟨w.heap.size, 2, none⟩ = some (.int .i64 0) ∧ w'.cell? ⟨w.heap.size, 3, none⟩ = some (.int .i64 0) ∧ w'.cell? ⟨w.heap.size, 4, none⟩ = some (.int .i64 0) ∧ w'.frozen? ⟨w.heap.size, 0, none⟩ = false ∧ w'.frozen? ⟨w.heap.size, 1, none⟩ = false ∧ w'.frozen? ⟨w.heap.size, 2, none⟩ = false ∧ w'.frozen? ⟨w.heap.size, 3, none⟩ = false ∧ w'.frozen? ⟨w.heap.size, 4, none⟩ = false := by
  have hz : w.heap.size < ((w.alloc (.cells #[.string ⟨#[]⟩, .int .i64 0, .int .i64 0, .int .i64 0, .int .i64 0] 64))).heap.size := by simp
  refine ⟨Nat.lt_of_lt_of_le hz g.size, (g.cell _ _ hz).trans ?_, (g.cell _ _ hz).trans ?_, (g.cell _ _ hz).trans ?_, (g.cell _ _ hz).trans ?_, (g.cell _ _ hz).trans ?_, (g.frozen _ _ hz).trans ?_, (g.frozen _ _ hz).trans ?_, (g.frozen _ _ hz).trans ?_, (g.frozen _ _ hz).trans ?_, (g.frozen _ _ hz).trans ?_⟩
  all_goals go_simp
theorem four_vals {w : World} {v : Value} {a b c d : Int} (h : IsVals w v ([a, b, c, d].map (Value.int .i64))) :
    ∃ bb o cc, v = .slice (some ⟨bb, o, none⟩) 4 cc ∧ bb < w.heap.size ∧ w.cell? ⟨bb, o, none⟩ = some (.int .i64 a) ∧ w.cell? ⟨bb, o + 1, none⟩ = some (.int .i64 b) ∧ w.cell? ⟨bb, o + 2, none⟩ = some (.int .i64 c) ∧ w.cell? ⟨bb, o + 3, none⟩ = some (.int .i64 d) := by
  obtain ⟨a', c', rfl, _, hx⟩ := h
  rcases hx with hx | ⟨b2, o2, rfl, hb, hc⟩
  · cases hx
  · exact ⟨b2, o2, c', rfl, hb, hc 0 _ rfl, hc 1 _ rfl, hc 2 _ rfl, hc 3 _ rfl⟩
set_option maxRecDepth 100000 in
set_option maxHeartbeats 2000000 in
theorem halfStock_any (v : Value) (L : List ByteArray) (w : World) (hv : IsVals w v (L.map Value.string)) (hc : CapOk v) (hs : ∀ x ∈ L, x.size ≤ maxLen) :
    Calls Tryz.prog 85 #[v] w fun e w' => e = .returned (stkR (rowS L)) ∧ Gr w w' := by
  have HV := Lib.hid hv
  obtain ⟨a, c, rfl, hm, -⟩ := hv
  rw [List.length_map] at HV hm hc ⊢
  unfold maxLen at hm
  have hcap := hc _ _ _ rfl
  have g0 : Gr w (w.alloc (.cells #[.string ⟨#[]⟩, .int .i64 0, .int .i64 0, .int .i64 0, .int .i64 0] 64)) := (Gr.refl _).alloc _
  by_cases h6 : L.length = 6
  · obtain ⟨x0, x1, x2, x3, x4, x5, rfl⟩ := list_six h6
    have hne := HV.out
    obtain ⟨a', c', e', _, hx⟩ := hne
    simp only [Value.slice.injEq] at e'
    obtain ⟨rfl, -, rfl⟩ := e'
    rcases hx with hx | ⟨bb, o, rfl, -, -⟩
    · cases hx
    obtain ⟨z, y0, y1, hv4⟩ := vals_six HV.out
    have HV4 := Lib.hid hv4
    have hs1 : x1.size ≤ maxLen := hs x1 (by simp)
    have HNM := Lib.hid (fun w' => name_any x1 hs1 w')
    have HNU := Lib.hid (fun (w' : World) (g : Gr w w') => hnums_any _ [x2, x3, x4, x5] w' (hv4.gr g) (fun x hx => hs x (by simp only [List.mem_cons] at hx ⊢; exact .inr (.inr hx))) (by simp))
    have HSL := slice_two bb o c hcap
    have HR0 := Lib.hid (rowS_six x0 x1 x2 x3 x4 x5)
    have y0 := (g0.cell _ _ z).trans y0
    have y1 := (g0.cell _ _ z).trans y1
    clear hv4 hs hc h6
    dsimp only [List.length] at *
    generalize rowS [x0, x1, x2, x3, x4, x5] = R at HR0 ⊢
    generalize nmB x1 = q at HNM HR0
    have hh : w.heap.size ≤ w.heap.size := Nat.le_refl _
    by_cases h0 : x0 = bStock
    · subst h0
      have t0 : (bStock.toList == [115, 116, 111, 99, 107]) = true := by rw [stockL]; rfl
      cases q
      · have HR : Hid (R = none) := by show _ = _; rw [HR0.out, if_neg (by simp)]
        clear HR0
        go_enter Tryz.func85, Tryz.ntmps85
        go_wp2_with (first | (go_at_call 72; (with_reducible refine (HNM.out _).mono ?_); rintro e w3 ⟨rfl, hq⟩; obtain rfl := hq.symm) | fail)
        (refine bodyPost_ret (v := .tuple #[.agg #[.string ⟨#[]⟩, .int .i64 0, .int .i64 0, .int .i64 0, .int .i64 0], .bool false]) (by simp [results, Tryz.results85, go_sem]) rfl ⟨by rw [HR.out]; rfl, ?_⟩)
        first | exact g0 | exact g0.trans g4 | exact (((((g0.trans g4).setCell hh _).setCell hh _).setCell hh _).setCell hh _).setCell hh _ | exact ((((g0.setCell hh _).setCell hh _).setCell hh _).setCell hh _).setCell hh _
      · cases hn : nums [x2, x3, x4, x5] with
        | none =>
          have HR : Hid (R = none) := by show _ = _; rw [HR0.out, if_pos (by simp), hn]
          have HNN : Hid (∀ w', Gr w w' → Calls Tryz.prog 115 #[.slice (some ⟨bb, o + 2, none⟩) 4 (c - 2)] w' fun e w'' => ∃ v, e = .returned (.tuple #[v, .bool false]) ∧ Gr w' w'') := fun w' g => by
            have := HNU.out w' g
            rw [hn] at this
            exact this.mono fun e w2 ⟨v, he, _, hg⟩ => ⟨v, he, hg⟩
          clear HR0 hn HNU
          go_enter Tryz.func85, Tryz.ntmps85
          go_wp2_with (first | (first | (go_at_call 72; (with_reducible refine (HNM.out _).mono ?_); rintro e w3 ⟨rfl, hq⟩; obtain rfl := hq.symm) | fail) | (go_at_call 115; (with_reducible refine (HNN.out _ g0).mono ?_); rintro e w4 ⟨v4, rfl, g4⟩; obtain ⟨z4, k0, k1, k2, k3, k4, f0, f1, f2, f3, f4⟩ := stk_box g4) | fail)
          refine bodyPost_ret (v := .tuple #[.agg #[.string ⟨#[]⟩, .int .i64 0, .int .i64 0, .int .i64 0, .int .i64 0], .bool false]) (by simp [results, Tryz.results85, go_sem, z4, k0, k1, k2, k3, k4, f0, f1, f2, f3, f4]) rfl ⟨by rw [HR.out]; rfl, ?_⟩
          first | exact g0 | exact g0.trans g4 | exact (((((g0.trans g4).setCell hh _).setCell hh _).setCell hh _).setCell hh _).setCell hh _ | exact ((((g0.setCell hh _).setCell hh _).setCell hh _).setCell hh _).setCell hh _
        | some N =>
          have HR : Hid (R = some ⟨x1, numN x2 4, numN x3 4, numN x4 4, numN x5 4⟩) := by show _ = _; rw [HR0.out, if_pos (by simp), hn]
          have hN := nums_val hn
          have HNN : Hid (∀ w', Gr w w' → Calls Tryz.prog 115 #[.slice (some ⟨bb, o + 2, none⟩) 4 (c - 2)] w' fun e w'' => ∃ v, e = .returned (.tuple #[v, .bool true]) ∧ IsVals w'' v ([numN x2 4, numN x3 4, numN x4 4, numN x5 4].map (Value.int .i64)) ∧ Gr w' w'') := fun w' g => by
            have := HNU.out w' g
            rw [hn] at this
            exact this.mono fun e w2 ⟨v, he, hv, hg⟩ => ⟨v, he, by rw [hN] at hv; exact hv, hg⟩
          clear HR0 hn HNU hN
          generalize numN x2 4 = n2 at HR HNN
          generalize numN x3 4 = n3 at HR HNN
          generalize numN x4 4 = n4 at HR HNN
          generalize numN x5 4 = n5 at HR HNN
          go_enter Tryz.func85, Tryz.ntmps85
          go_wp2_with (first | (first | (go_at_call 72; (with_reducible refine (HNM.out _).mono ?_); rintro e w3 ⟨rfl, hq⟩; obtain rfl := hq.symm) | fail) | (go_at_call 115; (with_reducible refine (HNN.out _ g0).mono ?_); rintro e w4 ⟨v4, rfl, hv4, g4⟩; obtain ⟨b4, o4, c4, rfl, z5, m0, m1, m2, m3⟩ := four_vals hv4; obtain ⟨z4, k0, k1, k2, k3, k4, f0, f1, f2, f3, f4⟩ := stk_box g4; have y1 := (g4.cell _ _ (Nat.lt_of_lt_of_le z g0.size)).trans y1) | fail)
          clear HNN hv4
          go_region
          all_goals go_wp2_with fail
          all_goals
            refine bodyPost_ret (v := .tuple #[.agg #[.string x1, .int .i64 n2, .int .i64 n3, .int .i64 n4, .int .i64 n5], .bool true]) (by simp [results, Tryz.results85, go_sem, z4, k0, k1, k2, k3, k4, f0, f1, f2, f3, f4]) rfl ⟨by rw [HR.out]; rfl, ?_⟩
            first | exact (((((g0.trans g4).drew.setCell hh _).setCell hh _).setCell hh _).setCell hh _).setCell hh _ | exact ((((((g0.trans g4).setCell hh _).setCell hh _).setCell hh _).setCell hh _).setCell hh _).drew
    · have HR : Hid (R = none) := by show _ = _; rw [HR0.out, if_neg (by simp [h0])]
      have t0 : (x0.toList == [115, 116, 111, 99, 107]) = false := by rw [← stockL]; exact str_ne h0
      clear HR0 h0
      go_enter Tryz.func85, Tryz.ntmps85
      go_wp2_with fail
      (refine bodyPost_ret (v := .tuple #[.agg #[.string ⟨#[]⟩, .int .i64 0, .int .i64 0, .int .i64 0, .int .i64 0], .bool false]) (by simp [results, Tryz.results85, go_sem]) rfl ⟨by rw [HR.out]; rfl, ?_⟩)
      first | exact g0 | exact g0.trans g4 | exact (((((g0.trans g4).setCell hh _).setCell hh _).setCell hh _).setCell hh _).setCell hh _ | exact ((((g0.setCell hh _).setCell hh _).setCell hh _).setCell hh _).setCell hh _
  · have HR : Hid (rowS L = none) := rowS_len h6
    have t6 : ((L.length : Int) != 6) = true := bneT (by omega)
    clear hc h6
    have hh : w.heap.size ≤ w.heap.size := Nat.le_refl _
    go_enter Tryz.func85, Tryz.ntmps85
    go_wp2_with fail
    (refine bodyPost_ret (v := .tuple #[.agg #[.string ⟨#[]⟩, .int .i64 0, .int .i64 0, .int .i64 0, .int .i64 0], .bool false]) (by simp [results, Tryz.results85, go_sem]) rfl ⟨by rw [HR.out]; rfl, ?_⟩)
    first | exact g0 | exact g0.trans g4 | exact (((((g0.trans g4).setCell hh _).setCell hh _).setCell hh _).setCell hh _).setCell hh _ | exact ((((g0.setCell hh _).setCell hh _).setCell hh _).setCell hh _).setCell hh _
end Go.Proofs.YtgjnlgcdpbilfaaGreatDoor
namespace Go.Proofs.YtgjnlgcdpbilfaaGreatDoor
open Go.ChangeShapes Go.WideShapes Go.ChangeAt Go.RowKit Go.Maps
set_option linter.unusedVariables false
set_option linter.unusedSimpArgs false
structure RowW (w wr : World) (m0 m1 m2 m3 : Int) : Prop where
  gr : Gr w wr
  lt : w.heap.size + 1 < wr.heap.size
  k0 : wr.cell? ⟨w.heap.size, 0, none⟩ = some (.string ⟨#[]⟩)
  k1 : wr.cell? ⟨w.heap.size, 1, none⟩ = some (.int .i64 0)
  k2 : wr.cell? ⟨w.heap.size, 2, none⟩ = some (.int .i64 0)
  k3 : wr.cell? ⟨w.heap.size, 3, none⟩ = some (.int .i64 0)
  k4 : wr.cell? ⟨w.heap.size, 4, none⟩ = some (.int .i64 0)
  f0 : wr.frozen? ⟨w.heap.size, 0, none⟩ = false
  f1 : wr.frozen? ⟨w.heap.size, 1, none⟩ = false
  f2 : wr.frozen? ⟨w.heap.size, 2, none⟩ = false
  f3 : wr.frozen? ⟨w.heap.size, 3, none⟩ = false
  f4 : wr.frozen? ⟨w.heap.size, 4, none⟩ = false
  m0 : wr.cell? ⟨w.heap.size + 1, 0, none⟩ = some (.int .i64 m0)
  m1 : wr.cell? ⟨w.heap.size + 1, 1, none⟩ = some (.int .i64 m1)
  m2 : wr.cell? ⟨w.heap.size + 1, 2, none⟩ = some (.int .i64 m2)
  m3 : wr.cell? ⟨w.heap.size + 1, 3, none⟩ = some (.int .i64 m3)
  e0 : wr.frozen? ⟨w.heap.size + 1, 0, none⟩ = false
  e1 : wr.frozen? ⟨w.heap.size + 1, 1, none⟩ = false
  e2 : wr.frozen? ⟨w.heap.size + 1, 2, none⟩ = false
  e3 : wr.frozen? ⟨w.heap.size + 1, 3, none⟩ = false
theorem RowW.start (w : World) : RowW w ((w.alloc (.cells #[.string ⟨#[]⟩, .int .i64 0, .int .i64 0, .int .i64 0, .int .i64 0] 64)).alloc (.cells #[.int .i64 0, .int .i64 0, .int .i64 0, .int .i64 0] 118)) 0 0 0 0 := by
  refine ⟨((Gr.refl _).alloc _).alloc _, by simp, ?_, ?_, ?_, ?_, ?_, ?_, ?_, ?_, ?_, ?_, ?_, ?_, ?_, ?_, ?_, ?_, ?_, ?_⟩
  all_goals go_simp
theorem RowW.put {w wr : World} {m0 m1 m2 m3 : Int} (h : RowW w wr m0 m1 m2 m3) (k : Nat) (n : Int) :
    RowW w (wr.setCell ⟨w.heap.size + 1, k, none⟩ (.int .i64 n)) (if k = 0 then n else m0) (if k = 1 then n else m1) (if k = 2 then n else m2) (if k = 3 then n else m3) := by
  have ne : ∀ j, (⟨w.heap.size + 1, k, none⟩ : Addr) ≠ ⟨w.heap.size, j, none⟩ := fun j e => by simp at e
  have key : ∀ (j : Nat) (m : Int), wr.cell? ⟨w.heap.size + 1, j, none⟩ = some (.int .i64 m) → (wr.setCell ⟨w.heap.size + 1, k, none⟩ (.int .i64 n)).cell? ⟨w.heap.size + 1, j, none⟩ = some (.int .i64 (if k = j then n else m)) := fun j m hj => by
    by_cases e : k = j
    · subst e; rw [if_pos rfl]; exact World.cell?_setCell_same _ _ _ hj
    · rw [if_neg e]; exact (World.cell?_setCell_other _ _ _ _ (fun e2 => e (by injection e2))).trans hj
  exact ⟨h.gr.setCell (Nat.le_succ _) _, (by simpa using h.lt), (World.cell?_setCell_other _ _ _ _ (ne 0)).trans h.k0, (World.cell?_setCell_other _ _ _ _ (ne 1)).trans h.k1, (World.cell?_setCell_other _ _ _ _ (ne 2)).trans h.k2, (World.cell?_setCell_other _ _ _ _ (ne 3)).trans h.k3, (World.cell?_setCell_other _ _ _ _ (ne 4)).trans h.k4,
    by simpa using h.f0, by simpa using h.f1, by simpa using h.f2, by simpa using h.f3, by simpa using h.f4, key 0 _ h.m0, key 1 _ h.m1, key 2 _ h.m2, key 3 _ h.m3, by simpa using h.e0, by simpa using h.e1, by simpa using h.e2, by simpa using h.e3⟩
theorem nums_none {l : List ByteArray} (h : ∀ k (hk : k < l.length), numB l[k] 4 = true) : nums l ≠ none := by rw [nums_good h]; simp
theorem vals_four {w : World} {bb o c : Nat} {a b d e : ByteArray} (h : IsVals w (.slice (some ⟨bb, o, none⟩) 4 c) ([a, b, d, e].map Value.string)) (k : Nat) (hk : k < 4) : w.cell? ⟨bb, o + k, none⟩ = some (.string ([a, b, d, e][k]'(by simpa using hk))) := by
  obtain ⟨a', c', e', _, hx⟩ := h
  simp only [Value.slice.injEq] at e'
  obtain ⟨rfl, -, rfl⟩ := e'
  rcases hx with hx | ⟨b2, o2, h2, hb, hc⟩
  · cases hx
  · cases h2
    exact hc k _ (by rw [List.getElem?_map, List.getElem?_eq_getElem (by simpa using hk)]; rfl)
def upTo (k i : Nat) (x : Int) : Int := if i < k then x else 0
set_option maxRecDepth 100000 in
set_option maxHeartbeats 2000000 in
theorem refRow_any (v : Value) (L : List ByteArray) (w : World) (hv : IsVals w v (L.map Value.string)) (hc : CapOk v) (hs : ∀ x ∈ L, x.size ≤ maxLen) :
    Calls Tryz.prog 56 #[v] w fun e w' => e = .returned (stkR (rowS L)) ∧ Gr w w' := by
  have HV := Lib.hid hv
  obtain ⟨a, c, rfl, hm, -⟩ := hv
  rw [List.length_map] at HV hm hc ⊢
  unfold maxLen at hm
  have hcap := hc _ _ _ rfl
  have g0 : Gr w (w.alloc (.cells #[.string ⟨#[]⟩, .int .i64 0, .int .i64 0, .int .i64 0, .int .i64 0] 64)) := (Gr.refl _).alloc _
  have hh : w.heap.size ≤ w.heap.size := Nat.le_refl _
  by_cases h6 : L.length = 6
  · obtain ⟨x0, x1, x2, x3, x4, x5, rfl⟩ := list_six h6
    have hne := HV.out
    obtain ⟨a', c', e', _, hx⟩ := hne
    simp only [Value.slice.injEq] at e'
    obtain ⟨rfl, -, rfl⟩ := e'
    rcases hx with hx | ⟨bb, o, rfl, -, -⟩
    · cases hx
    obtain ⟨z, y0, y1, hv4⟩ := vals_six HV.out
    have HV4 := Lib.hid hv4
    have hs1 : x1.size ≤ maxLen := hs x1 (by simp)
    have HNM := Lib.hid (fun w' => refName_any x1 hs1 w')
    have HS4 : Hid (∀ x ∈ [x2, x3, x4, x5], x.size ≤ maxLen) := fun x hx => hs x (by simp only [List.mem_cons] at hx ⊢; exact .inr (.inr hx))
    have HR0 := Lib.hid (rowS_six x0 x1 x2 x3 x4 x5)
    have y0 := (g0.cell _ _ z).trans y0
    have y1 := (g0.cell _ _ z).trans y1
    have Y1 := Lib.hid y1
    clear hv4 hs hc h6
    dsimp only [List.length] at *
    generalize rowS [x0, x1, x2, x3, x4, x5] = R at HR0 ⊢
    generalize nmB x1 = q at HNM HR0
    by_cases h0 : x0 = bStock
    · subst h0
      have t0 : (bStock.toList == [115, 116, 111, 99, 107]) = true := by rw [stockL]; rfl
      cases q
      · have HR : Hid (R = none) := by show _ = _; rw [HR0.out, if_neg (by simp)]
        clear HR0
        go_enter Tryz.func56, Tryz.ntmps56
        go_wp2_with (first | (go_at_call 38; (with_reducible refine (HNM.out _).mono ?_); rintro e w3 ⟨rfl, hq⟩; obtain rfl := hq.symm) | fail)
        (refine bodyPost_ret (v := .tuple #[.agg #[.string ⟨#[]⟩, .int .i64 0, .int .i64 0, .int .i64 0, .int .i64 0], .bool false]) (by simp [results, Tryz.results56, go_sem]) rfl ⟨by rw [HR.out]; rfl, ?_⟩)
        (first | exact g0 | exact ((((g0.setCell hh _).setCell hh _).setCell hh _).setCell hh _).setCell hh _)
      · have HRN : Hid (nums [x2, x3, x4, x5] = none → R = none) := fun h => by rw [HR0.out, if_pos (by simp), h]
        have HRS : Hid (nums [x2, x3, x4, x5] ≠ none → R = some ⟨x1, numN x2 4, numN x3 4, numN x4 4, numN x5 4⟩) := fun h => by
          rw [HR0.out, if_pos (by simp)]
          cases hn : nums [x2, x3, x4, x5] with
          | none => exact absurd hn h
          | some N => rfl
        have HS := Lib.hid (RowW.start w)
        clear HR0
        go_enter Tryz.func56, Tryz.ntmps56
        go_wp2_with (first | (go_at_call 38; (with_reducible refine (HNM.out _).mono ?_); rintro e w3 ⟨rfl, hq⟩; obtain rfl := hq.symm) | fail)
        go_loopw [5, 6, 7, 25] (fun _ _ _ x wr => ∃ k : Nat, x = .int .i64 k ∧ k ≤ 4 ∧ RowW w wr (upTo k 0 (numN x2 4)) (upTo k 1 (numN x3 4)) (upTo k 2 (numN x4 4)) (upTo k 3 (numN x5 4)) ∧ Hid (∀ i (hi : i < [x2, x3, x4, x5].length), i < k → numB [x2, x3, x4, x5][i] 4 = true)) (fun _ _ _ x _ => 4 - (intOf x).toNat)
        case atStart => exact ⟨0, rfl, Nat.zero_le _, HS.out, fun i _ h => by omega⟩
        case round =>
          obtain ⟨k, rfl, hk, hw, HA⟩ := hrel
          have HW := Lib.hid hw
          by_cases hlt : k < 4
          · have hk1 : (k : Int) < 4 := by omega
            have hkl : k < [x2, x3, x4, x5].length := by simpa using hlt
            have y4 := vals_four (HV4.out.gr hw.gr) k hlt
            rw [show o + 2 + k = o + (k + 2) from by omega] at y4
            have HNk := Lib.hid (fun w' => refNumber_any [x2, x3, x4, x5][k] 4 (HS4.out _ (List.getElem_mem hkl)) w')
            have HBD := Lib.hid (fun (h : numB [x2, x3, x4, x5][k] 4 = false) => nums_bad hkl h)
            have HA2 : Hid (numB [x2, x3, x4, x5][k] 4 = true → ∀ i (hi : i < [x2, x3, x4, x5].length), i < k + 1 → numB [x2, x3, x4, x5][i] 4 = true) := fun h i hi hik => by
              by_cases e : i = k
              · subst e; exact h
              · exact HA.out i hi (by omega)
            have HPT : Hid (RowW w (wr.setCell ⟨w.heap.size + 1, k, none⟩ (.int .i64 (numN [x2, x3, x4, x5][k] 4))) (upTo (k + 1) 0 (numN x2 4)) (upTo (k + 1) 1 (numN x3 4)) (upTo (k + 1) 2 (numN x4 4)) (upTo (k + 1) 3 (numN x5 4))) := by
              show RowW w _ _ _ _ _
              have := hw.put k (numN [x2, x3, x4, x5][k] 4)
              have hk' : k = 0 ∨ k = 1 ∨ k = 2 ∨ k = 3 := by omega
              rcases hk' with rfl | rfl | rfl | rfl <;> simpa [upTo] using this
            obtain ⟨mk, ck, fk⟩ : ∃ m, wr.cell? ⟨w.heap.size + 1, k, none⟩ = some (.int .i64 m) ∧ wr.frozen? ⟨w.heap.size + 1, k, none⟩ = false := by
              have hk' : k = 0 ∨ k = 1 ∨ k = 2 ∨ k = 3 := by omega
              rcases hk' with rfl | rfl | rfl | rfl
              · exact ⟨_, hw.m0, hw.e0⟩
              · exact ⟨_, hw.m1, hw.e1⟩
              · exact ⟨_, hw.m2, hw.e2⟩
              · exact ⟨_, hw.m3, hw.e3⟩
            have j0 : (0 : Int) ≤ (k : Int) + 2 := by omega
            have j1 : (k : Int) + 2 < 6 := by omega
            have tn : ((k : Int) + 2).toNat = k + 2 := by omega
            obtain ⟨gw, zw, k0, k1, k2, k3, k4, f0, f1, f2, f3, f4, -, -, -, -, -, -, -, -⟩ := hw
            have z0 : w.heap.size < wr.heap.size := by omega
            clear HA y0 y1 t0
            generalize [x2, x3, x4, x5][k] = x at y4 HNk HBD HA2 HPT
            generalize numN x 4 = n at HNk HPT
            generalize numB x 4 = q at HNk HBD HA2
            cases q
            · have HR := Lib.hid (HRN.out (HBD.out rfl))
              clear HA2 HBD HPT ck fk
              go_wp2_with (first | (go_at_call 88; (with_reducible refine (HNk.out _).mono ?_); rintro e w3 ⟨rfl, hq⟩; obtain rfl := hq.symm) | fail)
              refine bodyPost_ret (v := .tuple #[.agg #[.string ⟨#[]⟩, .int .i64 0, .int .i64 0, .int .i64 0, .int .i64 0], .bool false]) (by simp [results, Tryz.results56, go_sem, z0, k0, k1, k2, k3, k4, f0, f1, f2, f3, f4]) rfl ⟨by rw [HR.out]; rfl, ?_⟩
              first | exact gw | exact ((((gw.setCell hh _).setCell hh _).setCell hh _).setCell hh _).setCell hh _
            · have HA3 := Lib.hid (HA2.out rfl)
              clear HA2 HBD
              go_wp2_with (first | (go_at_call 88; (with_reducible refine (HNk.out _).mono ?_); rintro e w3 ⟨rfl, hq⟩; obtain rfl := hq.symm) | fail)
              go_roundw
              case rel => exact ⟨k + 1, by go_num, hlt, HPT.out, HA3.out⟩
              case measure => simp [intOf]; omega
          · have hk1 : ¬ (k : Int) < 4 := by omega
            obtain rfl : k = 4 := by omega
            have hw4 : RowW w wr (numN x2 4) (numN x3 4) (numN x4 4) (numN x5 4) := by simpa [upTo] using hw
            have HR := Lib.hid (HRS.out (nums_none fun i hi => HA.out i hi (by simpa using hi)))
            clear hw HW HA
            obtain ⟨gw, zw, k0, k1, k2, k3, k4, f0, f1, f2, f3, f4, m0, m1, m2, m3, -, -, -, -⟩ := hw4
            have z0 : w.heap.size < wr.heap.size := by omega
            generalize numN x2 4 = n2 at *
            generalize numN x3 4 = n3 at *
            generalize numN x4 4 = n4 at *
            generalize numN x5 4 = n5 at *
            have y1 := (gw.cell _ _ z).trans ((g0.cell _ _ z).symm.trans Y1.out)
            clear y0 t0
            go_wp2_with fail
            go_region
            all_goals go_wp2_with fail
            all_goals
              refine bodyPost_ret (v := .tuple #[.agg #[.string x1, .int .i64 n2, .int .i64 n3, .int .i64 n4, .int .i64 n5], .bool true]) (by simp [results, Tryz.results56, go_sem, z0, k0, k1, k2, k3, k4, f0, f1, f2, f3, f4]) rfl ⟨by rw [HR.out]; rfl, ?_⟩
              first | exact ((((gw.drew.setCell hh _).setCell hh _).setCell hh _).setCell hh _).setCell hh _ | exact (((((gw.setCell hh _).setCell hh _).setCell hh _).setCell hh _).setCell hh _).drew
    · have HR : Hid (R = none) := by show _ = _; rw [HR0.out, if_neg (by simp [h0])]
      have t0 : (x0.toList == [115, 116, 111, 99, 107]) = false := by rw [← stockL]; exact str_ne h0
      clear HR0 h0
      go_enter Tryz.func56, Tryz.ntmps56
      go_wp2_with fail
      (refine bodyPost_ret (v := .tuple #[.agg #[.string ⟨#[]⟩, .int .i64 0, .int .i64 0, .int .i64 0, .int .i64 0], .bool false]) (by simp [results, Tryz.results56, go_sem]) rfl ⟨by rw [HR.out]; rfl, ?_⟩)
      (first | exact g0 | exact ((((g0.setCell hh _).setCell hh _).setCell hh _).setCell hh _).setCell hh _)
  · have HR : Hid (rowS L = none) := rowS_len h6
    have t6 : ((L.length : Int) != 6) = true := bneT (by omega)
    clear hc h6
    go_enter Tryz.func56, Tryz.ntmps56
    go_wp2_with fail
    (refine bodyPost_ret (v := .tuple #[.agg #[.string ⟨#[]⟩, .int .i64 0, .int .i64 0, .int .i64 0, .int .i64 0], .bool false]) (by simp [results, Tryz.results56, go_sem]) rfl ⟨by rw [HR.out]; rfl, ?_⟩)
    (first | exact g0 | exact ((((g0.setCell hh _).setCell hh _).setCell hh _).setCell hh _).setCell hh _)
end Go.Proofs.YtgjnlgcdpbilfaaGreatDoor
namespace Go.Proofs.YtgjnlgcdpbilfaaGreatDoor
open Go.ChangeShapes Go.WideShapes Go.ChangeAt Go.RowKit
set_option linter.unusedVariables false
set_option linter.unusedSimpArgs false

structure Tabs (w : World) : Prop where
  pow : Lib.TabIs Tryz.prog w "internal/strconv.uint64pow10" .u64 Lib.pow10Tab
  sh : w.ShapedOpen Tryz.prog
theorem pow_named : Tryz.prog.globalNamed "internal/strconv.uint64pow10" = some 1 := by kernel_rfl
theorem Tabs.gr {w w' : World} (h : Tabs w) (g : Gr w w') : Tabs w' := by
  have hp := h.pow
  have hlt : 1 < w.heap.size := by
    unfold Lib.TabIs World.var? at hp
    rw [pow_named] at hp
    simp only [Option.bind_some] at hp
    rcases Nat.lt_or_ge 1 w.heap.size with hl | hl
    · exact hl
    · rw [Array.getElem?_eq_none hl] at hp
      cases hp
  exact ⟨var?_below g pow_named hlt hp, shp_gr h.sh g⟩
end Go.Proofs.YtgjnlgcdpbilfaaGreatDoor
namespace Go.Proofs.YtgjnlgcdpbilfaaGreatDoor
open Go.ChangeShapes Go.WideShapes Go.ChangeAt Go.RowKit
set_option linter.unusedVariables false
set_option linter.unusedSimpArgs false

set_option maxHeartbeats 400000 in
theorem refLines_any (s : ByteArray) (hs : s.size ≤ 1048576) (w : World) :
    Calls Tryz.prog 23 #[.string s] w (RetS w (lnB s)) := by
  obtain ⟨i0, hi, hz0, hz1, hz2⟩ := info_parts Tryz.infoS
  go_enter Tryz.func23, Tryz.ntmps23
  go_wp2
  go_loopw [3, 4, 5] (fun v f i wr => ∃ (V : Value) (F I : Nat) (L : List ByteArray), V = v ∧ f = .int .i64 F ∧ i = .int .i64 I ∧ F ≤ I ∧ I ≤ s.size ∧ L.length ≤ I ∧ OwnS w.heap.size wr V L ∧ Hid (L ++ lnR s F I = lnB s) ∧ Gr w wr) (fun _ _ i _ => s.size - (intOf i).toNat)
  case atStart => exact ⟨_, 0, 0, [], rfl, rfl, rfl, by omega, by omega, by simp, OwnS.nil _ _, by unfold Hid; rw [lnR_start]; rfl, Gr.refl _⟩
  case round =>
    obtain ⟨v, F, I, L, rfl, rfl, rfl, r1, r2, r3, ho, HL, g⟩ := hrel
    have hown : wr.ownsRow w.heap.size 9 1 v L.length (L.map Value.string) := ho
    have HO := Lib.hid hown
    have g' := g
    by_cases hlt : I < s.size
    · have hI : (I : Int) < (s.size : Int) := by omega
      have hF : (F : Int) ≤ (I : Int) := by omega
      by_cases hnl : s[I] = 10
      · have HN : Hid ((L ++ [s.extract F I]) ++ lnR s (I + 1) (I + 1) = lnB s) := by
          unfold Hid; rw [← HL.out, lnR_nl s F I r1 hlt hnl]; simp
        have ht : ((s[I].toNat : Int) == 10) = true := by rw [hnl]; rfl
        clear hnl HL ho hown
        go_wp2_with (first | (at_builtin; refine wpList_append_own _ rfl _ _ 55 rfl w.heap.size 9 i0 (.string ByteArray.empty) 1 16 Tryz.underlying55 hi hz0 hz1 hz2 rfl (by decide) _ _ _ rfl (HO.out.alloc _) ⟨wr.heap.size, 0, none⟩ 1 1 [.string (s.extract F I)] rfl rfl ?c1 ?c2 ?c3 ?c4 ?c5 ?_))
        case c1 => exact cell_one_new _ _ _
        case c2 => simp [Value.oneCell']
        case c3 => unfold maxLen; omega
        case c4 => omega
        case c5 => have := g.size; simp; omega
        intro v' w1 hown' hgrow _
        have hg1 : Gr w w1 := Gr.grown (g'.alloc _) hgrow HO.out
        have ho1 : OwnS w.heap.size w1 v' (L ++ [s.extract F I]) := OwnS.snoc hown'
        clear hown' hgrow HO
        go_wp2
        go_roundw
        case rel => exact ⟨_, I + 1, I + 1, L ++ [s.extract F I], rfl, by go_num, by go_num, by omega, by omega, by simp; omega, ho1, HN, hg1⟩
        case measure => simp [intOf]; omega
      · have HN : Hid (L ++ lnR s F (I + 1) = lnB s) := by
          unfold Hid; rw [← HL.out, lnR_step s F I r1 hlt hnl]
        have ht : ((s[I].toNat : Int) == 10) = false := by
          simp
          intro e
          apply hnl
          apply UInt8.toNat_inj.1
          have : (10 : UInt8).toNat = 10 := rfl
          omega
        clear hnl HL
        go_wp2
        go_roundw
        case rel => exact ⟨_, F, I + 1, L, rfl, rfl, by go_num, by omega, by omega, by omega, ho, HN, g⟩
        case measure => simp [intOf]; omega
    · obtain rfl : I = s.size := by omega
      have hE := lnR_end s F r1
      by_cases hf : F < s.size
      · have hF : (F : Int) < (s.size : Int) := by omega
        have HN : Hid (L ++ [s.extract F s.size] = lnB s) := by
          unfold Hid; rw [← HL.out, hE, if_pos hf]
        clear HL hE ho hown
        go_wp2_with (first | (at_builtin; refine wpList_append_own _ rfl _ _ 55 rfl w.heap.size 9 i0 (.string ByteArray.empty) 1 16 Tryz.underlying55 hi hz0 hz1 hz2 rfl (by decide) _ _ _ rfl (HO.out.alloc _) ⟨wr.heap.size, 0, none⟩ 1 1 [.string (s.extract F s.size)] rfl rfl ?c1 ?c2 ?c3 ?c4 ?c5 ?_))
        case c1 => exact cell_one_new _ _ _
        case c2 => simp [Value.oneCell']
        case c3 => unfold maxLen; omega
        case c4 => omega
        case c5 => have := g.size; simp; omega
        intro v' w1 hown' hgrow _
        have hg1 : Gr w w1 := Gr.grown (g'.alloc _) hgrow HO.out
        have ho1 : OwnS w.heap.size w1 v' (L ++ [s.extract F s.size]) := OwnS.snoc hown'
        have hv := ho1.vals (by unfold maxLen; simp; omega)
        clear hown' hgrow HO
        go_wp2
        go_ret
        refine ⟨v', rfl, ?_, hg1⟩
        rw [← HN.out]; exact hv
      · have HN : Hid (L = lnB s) := by
          unfold Hid; rw [← HL.out, hE, if_neg hf]; simp
        have hv := ho.vals (by unfold maxLen; omega)
        clear HL hE
        go_wp2
        go_ret
        refine ⟨v, rfl, ?_, g⟩
        rw [← HN.out]; exact hv
end Go.Proofs.YtgjnlgcdpbilfaaGreatDoor
namespace Go.Proofs.YtgjnlgcdpbilfaaGreatDoor
open Go.ChangeShapes Go.WideShapes Go.ChangeAt Go.RowKit
set_option linter.unusedVariables false
set_option linter.unusedSimpArgs false

theorem idx_none {s : ByteArray} (h : Lib.indexByte s.data.toList 10 = -1) : ∀ c ∈ s.data.toList, c ≠ 10 := by
  intro c hc e
  obtain ⟨k, hk⟩ := List.mem_iff_getElem?.1 hc
  exact Lib.indexByte_none h k (by rw [hk, e])
theorem idx_some {s : ByteArray} {i : Nat} (h : Lib.indexByte s.data.toList 10 = i) : s.data.toList[i]? = some 10 ∧ ∀ c ∈ s.data.toList.take i, c ≠ 10 := by
  obtain ⟨h1, h2⟩ := Lib.indexByte_some h
  refine ⟨h1, fun c hc e => ?_⟩
  obtain ⟨k, hk⟩ := List.mem_iff_getElem?.1 hc
  have hki : k < i := by
    have := (List.getElem?_eq_some_iff.1 hk).1
    simp at this
    omega
  rw [List.getElem?_take, if_pos hki] at hk
  exact h2 k hki (by rw [hk, e])
theorem toList_ne {s : ByteArray} : (s.toList = []) ↔ s.size = 0 := by
  rw [ByteArray.toList_eq]
  have hl : s.data.toList.length = s.size := by simp
  rw [← hl, List.length_eq_zero_iff]
set_option maxRecDepth 100000 in
set_option maxHeartbeats 400000 in
theorem lines_any (s : ByteArray) (hs : s.size ≤ 1048576) (w : World) :
    Calls Tryz.prog 51 #[.string s] w (RetS w (lnB s)) := by
  obtain ⟨i0, hi, hz0, hz1, hz2⟩ := info_parts Tryz.infoS
  go_enter Tryz.func51, Tryz.ntmps51
  go_wp2
  go_loopw [0, 3, 4] (fun x v _ wr => ∃ (V : Value) (r : ByteArray) (L : List ByteArray), V = v ∧ x = .string r ∧ L.length + r.size ≤ s.size ∧ OwnS w.heap.size wr V L ∧ Hid (L ++ lnB r = lnB s) ∧ Gr w wr) (fun x _ _ _ => match x with | .string r => r.size | _ => 0)
  case atStart => exact ⟨_, s, [], rfl, rfl, by simp, OwnS.nil _ _, rfl, Gr.refl _⟩
  case round =>
    obtain ⟨v, r, L, rfl, rfl, r1, ho, HL, g⟩ := hrel
    have HO : Hid (wr.ownsRow w.heap.size 9 1 v L.length (L.map Value.string)) := ho
    have g' := g
    by_cases he : r.size = 0
    · have hd : r.data.toList = [] := List.length_eq_zero_iff.1 (by simpa using he)
      have HN : Hid (L = lnB s) := by unfold Hid; rw [← HL.out, lnB_empty r hd]; simp
      have hv := ho.vals (by unfold maxLen; omega)
      have hl : r.toList = [] := toList_ne.2 he
      have hl2 : (!r.toList.isEmpty) = false := by rw [hl]; rfl
      have hl3 : r.toList.isEmpty = true := by rw [hl]; rfl
      clear HL ho HO hd he
      go_wp2
      go_ret
      refine ⟨v, rfl, ?_, g⟩
      rw [← HN.out]; exact hv
    · have hne : r.data.toList ≠ [] := fun e => he (by have := congrArg List.length e; simpa using this)
      have hl : ¬ r.toList = [] := fun e => he (toList_ne.1 e)
      have hl2 : (!r.toList.isEmpty) = true := by simp [List.isEmpty_iff, hl]
      have hl3 : r.toList.isEmpty = false := by simp [List.isEmpty_iff, hl]
      rcases Int.lt_or_le (Lib.indexByte r.data.toList 10) 0 with hi0 | hi0
      · have hm : Lib.indexByte r.data.toList 10 = -1 := by have := Lib.indexByte_ge r.data.toList 10; omega
        have HN : Hid (L ++ [r] = lnB s) := by unfold Hid; rw [← HL.out, lnB_none r hne (idx_none hm)]
        have HM := Lib.hid hm
        clear HL ho hne hl hm hi0
        go_wp2_with fail
        refine (Tryz.strings_IndexByte r 10 _).mono ?_
        rintro e w1 ⟨rfl, rfl⟩
        have e10 : (10 : Int).toNat.toUInt8 = 10 := rfl
        rw [e10, HM.out]
        clear e10
        go_wp2_with (first | (at_builtin; refine wpList_append_own _ rfl _ _ 55 rfl w.heap.size 9 i0 (.string ByteArray.empty) 1 16 Tryz.underlying55 hi hz0 hz1 hz2 rfl (by decide) _ _ _ rfl (HO.out.alloc _) ⟨_, 0, none⟩ 1 1 [.string r] rfl rfl ?c1 ?c2 ?c3 ?c4 ?c5 ?_))
        case c1 => exact cell_one_new _ _ _
        case c2 => simp [Value.oneCell']
        case c3 => unfold maxLen; omega
        case c4 => omega
        case c5 => have := g.size; simp; omega
        intro v' w2 hown' hgrow _
        have hg1 : Gr w w2 := Gr.grown (g'.alloc _) hgrow HO.out
        have ho1 : OwnS w.heap.size w2 v' (L ++ [r]) := OwnS.snoc hown'
        have hv := ho1.vals (by unfold maxLen; simp; omega)
        clear hown' hgrow HO
        go_wp2
        go_ret
        refine ⟨v', rfl, ?_, hg1⟩
        rw [← HN.out]; exact hv
      · obtain ⟨i, hin⟩ : ∃ i : Nat, Lib.indexByte r.data.toList 10 = i := ⟨(Lib.indexByte r.data.toList 10).toNat, by omega⟩
        obtain ⟨x1, x2⟩ := idx_some hin
        have ilt : i < r.size := by have := (List.getElem?_eq_some_iff.1 x1).1; simpa using this
        have HN : Hid ((L ++ [r.extract 0 i]) ++ lnB (r.extract (i + 1) r.size) = lnB s) := by
          unfold Hid; rw [← HL.out, lnB_at r i x1 x2]; simp
        have HM := Lib.hid hin
        have b1 : (i : Int) < (r.size : Int) := by omega
        have b2 : (i : Int) ≤ (r.size : Int) := by omega
        have b3 : (i : Int) + 1 ≤ (r.size : Int) := by omega
        have b4 : (r.size : Int) ≤ 1048576 := by omega
        clear HL ho hne hl hin hi0 x1 x2
        go_wp2_with fail
        refine (Tryz.strings_IndexByte r 10 _).mono ?_
        rintro e w1 ⟨rfl, rfl⟩
        have e10 : (10 : Int).toNat.toUInt8 = 10 := rfl
        rw [e10, HM.out]
        clear e10
        go_wp2_with (first | (at_builtin; refine wpList_append_own _ rfl _ _ 55 rfl w.heap.size 9 i0 (.string ByteArray.empty) 1 16 Tryz.underlying55 hi hz0 hz1 hz2 rfl (by decide) _ _ _ rfl (HO.out.alloc _) ⟨_, 0, none⟩ 1 1 [.string (r.extract 0 i)] rfl rfl ?c1 ?c2 ?c3 ?c4 ?c5 ?_))
        case c1 => exact cell_one_new _ _ _
        case c2 => simp [Value.oneCell']
        case c3 => unfold maxLen; omega
        case c4 => omega
        case c5 => have := g.size; simp; omega
        intro v' w2 hown' hgrow _
        have hg1 : Gr w w2 := Gr.grown (g'.alloc _) hgrow HO.out
        have ho1 : OwnS w.heap.size w2 v' (L ++ [r.extract 0 i]) := OwnS.snoc hown'
        clear hown' hgrow HO
        go_wp2
        go_roundw
        case rel => exact ⟨_, r.extract (i + 1) r.size, L ++ [r.extract 0 i], rfl, rfl, by simp; omega, ho1, HN, hg1⟩
        case measure => simp; omega
end Go.Proofs.YtgjnlgcdpbilfaaGreatDoor
namespace Go.Proofs.YtgjnlgcdpbilfaaGreatDoor
open Go.ChangeShapes Go.WideShapes Go.ChangeAt Go.RowKit Go.Maps
set_option linter.unusedVariables false
set_option linter.unusedSimpArgs false
def OwnK (B : Nat) (w : World) (v : Value) (L : List Stk) : Prop := w.ownsRow B 64 5 v L.length (L.flatMap Stk.cs)
theorem OwnK.nil (B : Nat) (w : World) : OwnK B w (.slice none 0 0) [] := ⟨rfl, .inl ⟨rfl, rfl⟩⟩
theorem OwnK.snoc {B : Nat} {w : World} {v : Value} {L : List Stk} {s : Stk} (h : w.ownsRow B 64 5 v (L.length + 1) (L.flatMap Stk.cs ++ s.cs)) : OwnK B w v (L ++ [s]) := by
  unfold OwnK
  simpa using h
theorem OwnK.stks {B : Nat} {w : World} {v : Value} {L : List Stk} (h : OwnK B w v L) (hl : L.length ≤ maxLen) : IsStks w v L := by
  refine ⟨row_of_own h hl fun i j hi hj => ?_, ?_⟩
  · rw [flat_get Stk.cs 5 (fun _ => rfl) L i j hi hj]
    rw [getD_at _ _ hi]
    match j, hj with
    | 0, _ => rfl
    | 1, _ => rfl
    | 2, _ => rfl
    | 3, _ => rfl
    | 4, _ => rfl
  · intro a n c e
    rcases h.2 with ⟨rfl, h0⟩ | ⟨g, cap, cur, rfl, _, _, hc, _⟩
    · cases e; omega
    · cases e; exact hc
theorem Tryz.infoK : (Tryz.prog.info? 64).map (fun i => (i.zero, i.size, i.bytes)) = some (some (.agg #[.string ByteArray.empty, .int .i64 0, .int .i64 0, .int .i64 0, .int .i64 0]), 5, 48) := by kernel_rfl
theorem unl_len : ∀ (L : List ByteArray), L.length ≤ (unl L).size ∧ ∀ x ∈ L, x.size ≤ (unl L).size
  | [] => ⟨by simp, fun x hx => by cases hx⟩
  | x :: t => by
    have ih := unl_len t
    have h1 : (⟨#[10]⟩ : ByteArray).size = 1 := rfl
    unfold unl
    simp only [size_app, h1, List.length_cons]
    refine ⟨by omega, fun y hy => ?_⟩
    rcases List.mem_cons.1 hy with rfl | hy
    · omega
    · have := ih.2 y hy; omega
theorem lnB_bd (s : ByteArray) : (lnB s).length ≤ s.size + 1 ∧ ∀ x ∈ lnB s, x.size ≤ s.size + 1 := by
  have h := unl_len (lnB s)
  have h1 : (⟨#[10]⟩ : ByteArray).size = 1 := rfl
  rcases unl_lnB s with e | e
  · rw [e] at h
    exact ⟨by omega, fun x hx => by have := h.2 x hx; omega⟩
  · rw [e, size_app, h1] at h
    exact ⟨h.1, h.2⟩
theorem wdS_ne {s : ByteArray} {L : List ByteArray} (h : wdB s = some L) : L ≠ [] ∧ L.length ≤ s.size + 1 ∧ ∀ x ∈ L, x.size ≤ s.size := by
  rw [wdB_pcs] at h
  split at h
  · cases h
    refine ⟨?_, ?_, fun x hx => pcs_size hx⟩
    · intro e
      have h1 := pcs_len s
      rw [e] at h1
      simp at h1
    · rw [pcs_len]
      have := Lib.countB_le blank (by rw [blank_size]; omega) s.size s (Nat.le_refl _)
      omega
  · cases h
theorem stkR_form (o : Option Stk) : ∃ kn kl kt ka kb, stkR o = .tuple #[.agg #[.string kn, .int .i64 kl, .int .i64 kt, .int .i64 ka, .int .i64 kb], .bool o.isSome] ∧ (∀ s, o = some s → s = ⟨kn, kl, kt, ka, kb⟩) := by
  cases o with
  | none => exact ⟨⟨#[]⟩, 0, 0, 0, 0, rfl, fun s h => by cases h⟩
  | some s => exact ⟨s.nm, s.l, s.t, s.a, s.b, rfl, fun s' h => by cases h; rfl⟩
end Go.Proofs.YtgjnlgcdpbilfaaGreatDoor
