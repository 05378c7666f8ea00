/- Words: the split at blanks is the words, or there are none. No program. -/
import Derived.Test.YtaanepadgoefhaaGreatDoorB3
import Derived.Lib.SplitLaws
import Derived.Lib.IndexLaws
import Derived.Lib.IndexBytes
namespace Go.Proofs.YtaanepadgoefhaaGreatDoor
open Go.ChangeShapes Go.WideShapes Go.ChangeAt Go.RowKit
set_option linter.unusedVariables false
set_option linter.unusedSimpArgs false

/-- cut at blanks, so much of the first piece read already -/
def splA (acc : List UInt8) : List UInt8 → List (List UInt8)
  | [] => [acc]
  | c :: t => if c = 32 then acc :: splA [] t else splA (acc ++ [c]) t
theorem splA_pre (t : List UInt8) : ∀ (p acc : List UInt8), (∀ c ∈ p, c ≠ 32) → splA acc (p ++ t) = splA (acc ++ p) t
  | [], acc, _ => by simp
  | c :: p, acc, h => by
    have hc : c ≠ 32 := h c (by simp)
    simp only [List.cons_append, splA, if_neg hc]
    rw [splA_pre t p _ fun d hd => h d (by simp [hd])]
    simp
/-- a word: not empty, each byte a word's -/
def okW (x : List UInt8) : Bool := !x.isEmpty && x.all wrdB

theorem splA_bad : ∀ (l acc : List UInt8), acc.all wrdB = false → (splA acc l).all okW = false
  | [], acc, h => by simp [splA, okW, h]
  | c :: t, acc, h => by
    unfold splA
    split
    · simp [okW, h]
    · exact splA_bad t (acc ++ [c]) (by simp [List.all_append, h])
theorem wdsA_splA : ∀ (l acc : List UInt8), acc.all wrdB = true → wdsA acc l = if (splA acc l).all okW then some (splA acc l) else none
  | [], acc, h => by
    unfold wdsA splA
    by_cases e : acc = []
    · subst e; rfl
    · have : okW acc = true := by unfold okW; rw [h]; simp [List.isEmpty_iff, e]
      simp [e, this]
  | c :: t, acc, h => by
    unfold wdsA splA
    by_cases hw : wrdB c = true
    · have hc : c ≠ 32 := by rintro rfl; revert hw; decide
      rw [if_pos hw, if_neg hc]
      exact wdsA_splA t (acc ++ [c]) (by rw [List.all_append, h]; simp [hw])
    · rw [if_neg hw]
      by_cases hc : c = 32
      · rw [if_pos hc]
        by_cases e : acc = []
        · subst e; simp [okW]
        · have ho : okW acc = true := by unfold okW; rw [h]; simp [List.isEmpty_iff, e]
          rw [if_pos ⟨hc, e⟩, wdsA_splA t [] rfl]
          simp only [List.all_cons, ho, Bool.true_and]
          split <;> rfl
      · rw [if_neg hc, if_neg (fun h => hc h.1)]
        rw [splA_bad t (acc ++ [c]) (by simp [List.all_append, hw])]
        rfl

def blank : ByteArray := ⟨#[32]⟩
theorem blank_size : blank.size = 1 := rfl
theorem indexB_blank (s : ByteArray) : Lib.indexB s blank = Lib.indexByte s.data.toList 32 := Lib.index_one s.data.toList 32

theorem split_law : ∀ (n : Nat) (s : ByteArray), s.size ≤ n → Lib.splitB blank 0 (Lib.countB s blank) s = (splA [] s.data.toList).map toB
  | n, s, hn => by
    rcases Lib.indexB_cases s blank with h | ⟨i, h, hi⟩
    · rw [Lib.countB_miss s blank h, Lib.splitB_zero]
      rw [indexB_blank] at h
      have hno : ∀ c ∈ s.data.toList, c ≠ 32 := by
        intro c hc e
        obtain ⟨k, hk⟩ := List.mem_iff_getElem?.1 hc
        exact Lib.indexByte_none h k (by rw [hk, e])
      have := splA_pre [] s.data.toList [] hno
      rw [List.append_nil] at this
      rw [this]
      simp [splA, toB_data]
    · rw [blank_size] at hi
      rw [Lib.countB_hit s blank i (by rw [blank_size]; omega) h, Nat.add_comm 1, Lib.splitB_hit blank 0 _ s i h, blank_size, Nat.add_zero]
      rw [indexB_blank] at h
      obtain ⟨h1, h2⟩ := Lib.indexByte_some h
      have hno : ∀ c ∈ s.data.toList.take i, c ≠ 32 := by
        intro c hc e
        obtain ⟨k, hk⟩ := List.mem_iff_getElem?.1 hc
        have hki : k < i := by
          have := (List.getElem?_eq_some_iff.1 hk).1
          simp at this
          omega
        rw [List.getElem?_take, if_pos hki] at hk
        exact h2 k hki (by rw [hk, e])
      have e1 : (s.extract 0 i).data.toList = s.data.toList.take i := by rw [data_extract]; simp
      have e2 : (s.extract (i + 1) s.size).data.toList = s.data.toList.drop (i + 1) := by
        rw [data_extract]
        exact List.take_of_length_le (by simp)
      match n, hn with
      | 0, hn => omega
      | n + 1, hn =>
        rw [split_law n (s.extract (i + 1) s.size) (by simp; omega), e2]
        conv => rhs; rw [take_drop_at h1]
        rw [splA_pre _ _ _ hno]
        simp only [List.nil_append, splA, if_pos, List.map_cons]
        rw [← e1, toB_data]

/-- the pieces between blanks -/
def pcs (s : ByteArray) : List ByteArray := (splA [] s.data.toList).map toB
theorem splA_size : ∀ (l acc x : List UInt8), x ∈ splA acc l → x.length ≤ acc.length + l.length
  | [], acc, x, h => by simp [splA] at h; subst h; simp
  | c :: t, acc, x, h => by
    unfold splA at h
    split at h
    · rcases List.mem_cons.1 h with h | h
      · subst h; simp
      · have := splA_size t [] x h
        simp at this ⊢; omega
    · have := splA_size t (acc ++ [c]) x h
      simp at this ⊢; omega
theorem pcs_size {s x : ByteArray} (h : x ∈ pcs s) : x.size ≤ s.size := by
  unfold pcs at h
  obtain ⟨l, hl, rfl⟩ := List.mem_map.1 h
  have := splA_size _ _ _ hl
  have hl2 : s.data.toList.length = s.size := by simp
  rw [hl2] at this
  show l.toArray.size ≤ s.size
  rw [List.size_toArray]
  simpa using this
def okB (x : ByteArray) : Bool := okW x.data.toList
theorem wdB_pcs (s : ByteArray) : wdB s = if (pcs s).all okB then some (pcs s) else none := by
  unfold wdB pcs
  rw [wdsA_splA _ _ rfl]
  have e : ((splA [] s.data.toList).map toB).all okB = (splA [] s.data.toList).all okW := by
    rw [List.all_map]; rfl
  rw [e]
  split <;> rfl
theorem pcs_split (s : ByteArray) : Lib.splitB blank 0 (Lib.countB s blank) s = pcs s := split_law s.size s (Nat.le_refl _)
theorem pcs_len (s : ByteArray) : (pcs s).length = Lib.countB s blank + 1 := by
  rw [← pcs_split, Lib.splitB_all blank (by rw [blank_size]; omega) 0 _ s rfl]
theorem okB_iff (x : ByteArray) : okB x = true ↔ 0 < x.size ∧ ∀ (i : Nat) (h : i < x.size), 33 ≤ ((x[i]).toNat : Int) ∧ ((x[i]).toNat : Int) ≤ 126 := by
  have hl : x.data.toList.length = x.size := by simp
  unfold okB okW
  rw [Bool.and_eq_true, List.all_eq_true]
  constructor
  · rintro ⟨h1, h2⟩
    refine ⟨?_, fun i h => ?_⟩
    · rcases Nat.eq_zero_or_pos x.size with h | h
      · have e : x.data.toList = [] := List.length_eq_zero_iff.1 (hl.trans h)
        rw [e] at h1; simp at h1
      · exact h
    · have := h2 x[i] (by rw [List.mem_iff_getElem]; exact ⟨i, by omega, rfl⟩)
      unfold wrdB at this
      simpa using this
  · rintro ⟨h1, h2⟩
    refine ⟨?_, fun c hc => ?_⟩
    · cases h : x.data.toList with
      | nil => rw [h] at hl; simp at hl; omega
      | cons => rfl
    · obtain ⟨i, hi, rfl⟩ := List.mem_iff_getElem.1 hc
      have := h2 i (by omega)
      unfold wrdB
      rw [Bool.and_eq_true, decide_eq_true_eq, decide_eq_true_eq]
      exact this
end Go.Proofs.YtaanepadgoefhaaGreatDoor
