/- Lists of kinds of trains, their texts: plain. -/
import Derived.Test.YtaanepadgoefhaaGreatDoorRows
import Derived.Test.YtaanepadgoefhaaGreatDoorRTxtP
import Derived.Test.YtaanepadgoefhaaGreatDoorRPacM
import Derived.Test.YtaanepadgoefhaaGreatDoorB2
import Derived.Test.YtaanepadgoefhaaGreatDoorB3
import Derived.Test.YtaanepadgoefhaaGreatDoorRWrd4
import Derived.Test.YtaanepadgoefhaaGreatDoorRFstP
import Derived.Test.YtaanepadgoefhaaGreatDoorRSeeP
namespace Go.Proofs.YtaanepadgoefhaaGreatDoor
open Go.ChangeShapes Go.WideShapes Go.ChangeAt Go.RowKit Go.Maps
set_option linter.unusedVariables false
set_option linter.unusedSimpArgs false
instance : Inhabited Stk := ⟨⟨ByteArray.empty, 0, 0, 0, 0⟩⟩
def Stk.v (s : Stk) : Value := .agg #[.string s.nm, .int .i64 s.l, .int .i64 s.t, .int .i64 s.a, .int .i64 s.b]
def Stk.cs (s : Stk) : List Value := [.string s.nm, .int .i64 s.l, .int .i64 s.t, .int .i64 s.a, .int .i64 s.b]
def Stk.c (s : Stk) (j : Nat) : Value := if j = 0 then .string s.nm else if j = 1 then .int .i64 s.l else if j = 2 then .int .i64 s.t else if j = 3 then .int .i64 s.a else .int .i64 s.b
/-- v is a slice of these kinds -/
def IsStks (w : World) (v : Value) (l : List Stk) : Prop := IsRow w v 5 l.length (fun i j => (l.getD i default).c j) ∧ CapOk v
theorem IsStks.gr {w w' : World} {v : Value} {l : List Stk} (h : IsStks w v l) (g : Gr w w') : IsStks w' v l := ⟨IsRow.gr h.1 g, h.2⟩
theorem IsStks.form {w : World} {v : Value} {l : List Stk} (h : IsStks w v l) : ∃ a c, v = .slice a l.length c ∧ l.length ≤ maxLen ∧ l.length ≤ c := by
  obtain ⟨⟨a, c, rfl, hm, -⟩, hc⟩ := h
  exact ⟨a, c, rfl, hm, hc _ _ _ rfl⟩
theorem IsStks.at {w : World} {a : Option Addr} {c m : Nat} {l : List Stk} (h : IsStks w (.slice a m c) l) (i : Nat) (hi : i < l.length) :
    ∃ b o, a = some ⟨b, o, none⟩ ∧ b < w.heap.size ∧ w.cell? ⟨b, o + i * 5, none⟩ = some (.string l[i].nm) ∧ w.cell? ⟨b, o + i * 5 + 1, none⟩ = some (.int .i64 l[i].l) ∧ w.cell? ⟨b, o + i * 5 + 2, none⟩ = some (.int .i64 l[i].t) ∧ w.cell? ⟨b, o + i * 5 + 3, none⟩ = some (.int .i64 l[i].a) ∧ w.cell? ⟨b, o + i * 5 + 4, none⟩ = some (.int .i64 l[i].b) := by
  obtain ⟨b, o, rfl, hb, hc⟩ := IsRow.at h.1 i hi
  simp only [getD_at l i hi] at hc
  exact ⟨b, o, rfl, hb, hc 0 (by omega), hc 1 (by omega), hc 2 (by omega), hc 3 (by omega), hc 4 (by omega)⟩
theorem IsStks.nil (w : World) : IsStks w (.slice none 0 0) [] := ⟨⟨none, 0, rfl, by simp, .inl rfl⟩, fun a n c e => by cases e; omega⟩
/-- a kind that a Go value can be -/
def StkOk (s : Stk) : Prop := s.nm.size ≤ maxLen ∧ I64 s.l ∧ I64 s.t ∧ I64 s.a ∧ I64 s.b
def mayS (s : Stk) : Bool := mayB s.nm s.l s.t s.a s.b
/-- the first of a name -/
def findS (l : List Stk) (n : ByteArray) : Option Nat := fstB (fun s => decide (s.nm = n)) l
def findN (l : List Stk) (n : ByteArray) : Int := fstN (fun s => decide (s.nm = n)) l
/-- what is wrong with some kinds by themselves -/
def plainE (l : List Stk) : Int := if 4 < l.length then 3 else if l.all mayS = false then 1 else if twiceB (l.map (·.nm)) then 4 else 0
theorem nodup_iff_lt {α : Type} : ∀ (l : List α), l.Nodup ↔ ∀ i k (hi : i < l.length) (hk : k < i), l[i] ≠ l[k]'(by omega)
  | l => by
    rw [List.nodup_iff_pairwise_ne, List.pairwise_iff_getElem]
    exact ⟨fun h i k hi hk e => h k i (by omega) hi hk e.symm, fun h i j hi hj hij e => h j i hj hij e.symm⟩
theorem twiceS_yes {l : List Stk} {i k : Nat} (hi : i < l.length) (hk : k < i) (h : l[k].nm = l[i].nm) : twiceB (l.map (·.nm)) = true := by
  unfold twiceB
  simp only [Bool.not_eq_true', decide_eq_false_iff_not]
  intro hn
  rw [nodup_iff_lt] at hn
  exact hn i k (by simpa using hi) hk (by simpa using h.symm)
theorem twiceS_no {l : List Stk} (h : ∀ i k (hi : i < l.length) (hk : k < i), l[k].nm ≠ l[i].nm) : twiceB (l.map (·.nm)) = false := by
  unfold twiceB
  simp only [Bool.not_eq_false', decide_eq_true_eq]
  rw [nodup_iff_lt]
  intro i k hi hk e
  exact h i k (by simpa using hi) hk (by simpa using e.symm)
theorem allS_bad {l : List Stk} {k : Nat} (hk : k < l.length) (h : mayS l[k] = false) : l.all mayS = false := by
  rw [List.all_eq_false]
  exact ⟨_, List.getElem_mem hk, by rw [h]; decide⟩
theorem allS_good {l : List Stk} (h : ∀ k (hk : k < l.length), mayS l[k] = true) : l.all mayS = true := by
  rw [List.all_eq_true]
  intro x hx
  obtain ⟨k, hk, rfl⟩ := List.getElem_of_mem hx
  exact h k hk
/-- is one too fast or too slow to brake for a plan with these numbers -/
def shortS (top brake : Int) (s : Stk) : Bool := decide (top < s.t) || decide (s.b < brake)
def checkS (top brake : Int) (l : List Stk) : Int := if plainE l ≠ 0 then plainE l else if l.any (shortS top brake) then 9 else 0
def fitsS (k len l margin : Int) : Bool := decide (k = 4) || (decide (k = 1) && decide (l + margin ≤ len))
theorem plain_ok {l : List Stk} (h : plainE l = 0) : l.length ≤ 4 ∧ (∀ s ∈ l, mayS s = true) ∧ twiceB (l.map (·.nm)) = false := by
  unfold plainE at h
  split at h
  · omega
  split at h
  · omega
  split at h
  · omega
  rename_i h1 h2 h3
  exact ⟨by omega, by simpa using h2, by simpa using h3⟩
theorem plain_bd (l : List Stk) : 0 ≤ plainE l ∧ plainE l ≤ 4 := by
  unfold plainE
  split
  · omega
  split
  · omega
  split <;> omega
/-- the words of a kind -/
def bStock : ByteArray := ⟨#[115, 116, 111, 99, 107]⟩
def wordsS (s : Stk) : List ByteArray := [bStock, s.nm, dgs s.l, dgs s.t, dgs s.a, dgs s.b]
def lineS (s : Stk) : ByteArray := jnW (wordsS s)
def printS : List Stk → ByteArray
  | [] => ⟨#[]⟩
  | s :: t => lineS s ++ ⟨#[10]⟩ ++ printS t
def rowS : List ByteArray → Option Stk
  | [a, b, c, d, e, f] => if a = bStock ∧ nmB b = true ∧ numB c 4 = true ∧ numB d 4 = true ∧ numB e 4 = true ∧ numB f 4 = true then some ⟨b, numN c 4, numN d 4, numN e 4, numN f 4⟩ else none
  | _ => none
def readS (s : ByteArray) : Option Stk := match wdB s with | none => none | some l => rowS l
def rdS : List ByteArray → Nat → Nat ⊕ List Stk
  | [], _ => .inr []
  | x :: t, i => match readS x with | none => .inl i | some k => match rdS t (i + 1) with | .inl j => .inl j | .inr l => .inr (k :: l)
def parS (s : ByteArray) : List Stk × Int × Int :=
  if 32768 < s.size then ([], 0, 3) else match rdS (lnB s) 0 with
    | .inl i => ([], (i : Int) + 1, 2)
    | .inr l => if plainE l = 0 then (l, (lnB s).length, 0) else ([], (lnB s).length, plainE l)
theorem rdS_bad : ∀ (l : List ByteArray) (i k : Nat) (hk : k < l.length), (∀ j (hj : j < l.length), j < k → readS l[j] ≠ none) → readS l[k] = none → rdS l i = .inl (i + k)
  | [], _, k, hk, _, _ => absurd hk (by simp)
  | x :: t, i, 0, _, _, h => by unfold rdS; rw [show readS x = none from h]; rfl
  | x :: t, i, k + 1, hk, hg, h => by
    unfold rdS
    have h0 := hg 0 (by simp) (by omega)
    cases hx : readS x with
    | none => exact absurd hx h0
    | some s =>
      rw [rdS_bad t (i + 1) k (by simpa using hk) (fun j hj hjk => by have := hg (j + 1) (by simpa using hj) (by omega); simpa using this) (by simpa using h)]
      dsimp only
      congr 1; omega
theorem rdS_good : ∀ (l : List ByteArray) (i : Nat) (L : List Stk), l.map readS = L.map some → rdS l i = .inr L
  | [], _, L, h => by cases L with | nil => rfl | cons a t => cases h
  | x :: t, i, L, h => by
    cases L with
    | nil => cases h
    | cons a T =>
      simp only [List.map_cons, List.cons.injEq] at h
      unfold rdS
      rw [h.1, rdS_good t (i + 1) T h.2]
theorem readS_take {l : List ByteArray} {L : List Stk} {k : Nat} (hk : k < l.length) {s : Stk} (h : (l.take k).map readS = L.map some) (hs : readS l[k] = some s) : (l.take (k + 1)).map readS = (L ++ [s]).map some := by
  rw [List.take_succ_eq_append_getElem hk, List.map_append, List.map_append, h]
  simp [hs]
theorem readS_ok {l : List ByteArray} {L : List Stk} {k : Nat} (hk : k ≤ l.length) (h : (l.take k).map readS = L.map some) : ∀ j (hj : j < l.length), j < k → readS l[j] ≠ none := by
  intro j hj hjk e
  have h1 : ((l.take k).map readS)[j]? = (L.map some)[j]? := by rw [h]
  rw [List.getElem?_map, List.getElem?_take, if_pos hjk, List.getElem?_eq_getElem hj, Option.map_some, e, List.getElem?_map] at h1
  cases hL : L[j]? <;> rw [hL] at h1 <;> cases h1
theorem parS_long {s : ByteArray} (h : 32768 < s.size) : parS s = ([], 0, 3) := by unfold parS; rw [if_pos h]
theorem parS_bad {s : ByteArray} (h : ¬ 32768 < s.size) {k : Nat} {L : List Stk} (hk : k < (lnB s).length) (hg : ((lnB s).take k).map readS = L.map some) (hb : readS (lnB s)[k] = none) : parS s = ([], (k : Int) + 1, 2) := by
  unfold parS
  rw [if_neg h, rdS_bad (lnB s) 0 k hk (readS_ok (by omega) hg) hb]
  simp
theorem parS_good {s : ByteArray} (h : ¬ 32768 < s.size) {L : List Stk} (hg : (lnB s).map readS = L.map some) : parS s = if plainE L = 0 then (L, ((lnB s).length : Int), 0) else ([], ((lnB s).length : Int), plainE L) := by
  unfold parS
  rw [if_neg h, rdS_good (lnB s) 0 L hg]
end Go.Proofs.YtaanepadgoefhaaGreatDoor
