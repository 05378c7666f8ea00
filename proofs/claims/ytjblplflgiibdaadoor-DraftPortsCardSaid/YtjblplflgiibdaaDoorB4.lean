/- Chk9: The document's answer: enters. -/
import Derived.Test.YtjblplflgiibdaaDoorRows
import Derived.Test.YtjblplflgiibdaaDoorB3
namespace Go.Proofs.YtjblplflgiibdaaDoor
open Go.ChangeShapes Go.WideShapes Go.ChangeAt Go.RowKit
set_option linter.unusedVariables false
set_option linter.unusedSimpArgs false

def OwnI (B : Nat) (w : World) (v : Value) (L : List Int) : Prop := w.ownsRow B 3 1 v L.length (L.map (Value.int .i64))
theorem OwnI.nil (B : Nat) (w : World) : OwnI B w (.slice none 0 0) [] := ⟨rfl, .inl ⟨rfl, rfl⟩⟩
theorem OwnI.snoc {B : Nat} {w : World} {v : Value} {L : List Int} {x : Int} (h : w.ownsRow B 3 1 v (L.length + 1) (L.map (Value.int .i64) ++ [.int .i64 x])) : OwnI B w v (L ++ [x]) := by
  unfold OwnI
  simpa using h
theorem OwnI.vals {B : Nat} {w : World} {v : Value} {L : List Int} (h : OwnI B w v L) (hl : L.length ≤ maxLen) : IsVals w v (L.map (Value.int .i64)) := by
  obtain ⟨h1, h2⟩ := h
  rcases h2 with ⟨rfl, h0⟩ | ⟨g, cap, cur, rfl, hg, hh, hn, hcap, hsz, htake⟩
  · have : L = [] := List.length_eq_zero_iff.1 h0
    subst this
    exact ⟨none, 0, rfl, by simp, .inl rfl⟩
  · refine ⟨some ⟨g, 0, none⟩, cap, by simp, by simpa using hl, .inr ⟨g, 0, rfl, ?_, ?_⟩⟩
    · rcases Nat.lt_or_ge g w.heap.size with h | h
      · exact h
      · rw [Array.getElem?_eq_none h] at hh; cases hh
    · intro i x hx
      rw [← htake] at hx
      unfold World.cell?
      simp only [hh]
      rw [List.getElem?_take] at hx
      split at hx
      · simpa using hx
      · cases hx
theorem Tryd.infoI : (Tryd.prog.info? 3).map (fun i => (i.zero, i.size, i.bytes)) = some (some (.int .i64 0), 1, 8) := by kernel_rfl
theorem OwnI.one {w : World} {x : Int} : OwnI w.heap.size (w.alloc (.cells #[.int .i64 x] 3)) (.slice (some ⟨w.heap.size, 0, none⟩) 1 1) [x] := by
  refine ⟨rfl, .inr ⟨w.heap.size, 1, #[.int .i64 x], rfl, Nat.le_refl _, heap_alloc_new w _, Nat.le_refl _, by unfold maxLen; omega, rfl, rfl⟩⟩
theorem nextL_mem : ∀ (l : List Jn) (x y : Prt), nextL l x = some y → y ∈ portsL l
  | [], _, _, h => by cases h
  | j :: t, x, y, h => by
    rw [portsL_cons]
    unfold nextL at h
    split at h
    · cases h; simp
    · split at h
      · cases h; simp
      · simp [nextL_mem t x y h]
theorem endsK_le (k : Int) : endsK k ≤ 4 := by
  unfold endsK
  split; · omega
  split; · omega
  split; · omega
  split <;> omega
theorem hasP_bd {P : Pln} {x : Prt} (h : hasP P x = true) : 0 ≤ x.e ∧ x.e < P.es.length ∧ 0 ≤ x.x ∧ x.x < 4 := by
  unfold hasP at h
  simp only [Bool.and_eq_true, decide_eq_true_eq] at h
  have := endsK_le (kindP P x.e)
  omega
theorem next_bd {P : Pln} (hj : ∀ x ∈ portsL P.js, hasP P x = true) {x y : Prt} (h : nextL P.js x = some y) : 0 ≤ y.e ∧ y.e < P.es.length ∧ 0 ≤ y.x ∧ y.x < 4 := hasP_bd (hj y (nextL_mem _ _ _ h))
def joinsTo (P : Pln) (x : Prt) (b : Int) : Bool := match nextL P.js x with | some y => decide (y.e = b) | none => false
theorem joinsTo_none {P : Pln} {x : Prt} {b : Int} (h : nextL P.js x = none) : joinsTo P x b = false := by unfold joinsTo; rw [h]
theorem joinsTo_some {P : Pln} {x y : Prt} {b : Int} (h : nextL P.js x = some y) : joinsTo P x b = decide (y.e = b) := by unfold joinsTo; rw [h]
theorem outOf_eq (P : Pln) (a b : Int) : outOf P a b = if joinsTo P ⟨a, 0⟩ b then 0 else if joinsTo P ⟨a, 1⟩ b then 1 else -1 := rfl
def entF (P : Pln) : List Int → Int → List Int
  | a :: b :: t, out => match nextL P.js ⟨a, out⟩ with | some y => y.x :: entF P (b :: t) (1 - y.x) | none => []
  | _, _ => []
def entL (P : Pln) : List Int → List Int
  | a :: b :: t => (1 - outOf P a b) :: entF P (a :: b :: t) (outOf P a b)
  | [_] => [0]
  | [] => []
def entB (P : Pln) (L : List Int) : Bool := !decide (L.length = 0) && L.all (fun e => decide (kindP P e = 1)) && rowB P L
theorem entB_nil (P : Pln) : entB P [] = false := rfl
theorem entB_kind {P : Pln} {L : List Int} {i : Nat} (hi : i < L.length) (h : kindP P L[i] ≠ 1) : entB P L = false := by
  unfold entB
  rw [all_false_of L _ i hi (by simpa using h)]; simp
theorem entB_all {P : Pln} {L : List Int} (h0 : 0 < L.length) (h : ∀ i (hi : i < L.length), kindP P L[i] = 1) : entB P L = rowB P L := by
  unfold entB
  rw [all_true_of L _ fun i hi => by simpa using h i hi, decide_eq_false (by omega)]; rfl
theorem rowB_two {P : Pln} {L : List Int} (h : 2 ≤ L.length) : rowB P L = (!decide (outOf P (L[0]'(by omega)) (L[1]'(by omega)) < 0) && chainB P L (outOf P (L[0]'(by omega)) (L[1]'(by omega)))) := by
  match L, h with
  | a :: b :: t, _ => rfl
theorem chain_drop {P : Pln} {L : List Int} {i : Nat} (h : i + 1 < L.length) (o : Int) : chainB P (L.drop i) o = match nextL P.js ⟨L[i], o⟩ with | some y => decide (y.e = L[i + 1]) && chainB P (L.drop (i + 1)) (1 - y.x) | none => false := by
  rw [List.drop_eq_getElem_cons (by omega), List.drop_eq_getElem_cons h]; rfl
theorem chain_end {P : Pln} {L : List Int} {i : Nat} (h : L.length ≤ i + 1) (o : Int) : chainB P (L.drop i) o = true ∧ entF P (L.drop i) o = [] := by
  match hd : L.drop i with
  | [] => exact ⟨rfl, rfl⟩
  | [x] => exact ⟨rfl, rfl⟩
  | x :: y :: t =>
    have := congrArg List.length hd
    simp at this
    omega
end Go.Proofs.YtjblplflgiibdaaDoor
