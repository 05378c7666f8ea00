/- Lines and words: plain. No program. -/
import Derived.Test.YthhakjckbnoefaaDoorUtil
namespace Go.Proofs.YthhakjckbnoefaaDoor
open Go.ChangeShapes Go.WideShapes Go.ChangeAt Go.RowKit
set_option linter.unusedVariables false
set_option linter.unusedSimpArgs false

def toB (l : List UInt8) : ByteArray := ⟨l.toArray⟩
theorem toB_data (s : ByteArray) : toB s.data.toList = s := by
  apply ByteArray.ext; simp [toB]
theorem toB_inj {a b : List UInt8} (h : toB a = toB b) : a = b := by
  have := congrArg (fun x : ByteArray => x.data.toList) h
  simpa [toB] using this

theorem data_extract (s : ByteArray) (a b : Nat) : (s.extract a b).data.toList = (s.data.toList.drop a).take (b - a) := by
  simp [ByteArray.data_extract, List.extract_eq_take_drop]

/-- the lines of a text, so much of the first one read already -/
def lnsA (acc : List UInt8) : List UInt8 → List (List UInt8)
  | [] => if acc = [] then [] else [acc]
  | c :: t => if c = 10 then acc :: lnsA [] t else lnsA (acc ++ [c]) t
theorem lnsA_pre (t : List UInt8) : ∀ (p acc : List UInt8), (∀ c ∈ p, c ≠ 10) → lnsA acc (p ++ t) = lnsA (acc ++ p) t
  | [], acc, _ => by simp
  | c :: p, acc, h => by
    have hc : c ≠ 10 := h c (by simp)
    simp only [List.cons_append, lnsA, if_neg hc]
    rw [lnsA_pre t p _ fun d hd => h d (by simp [hd])]
    simp
/-- the lines of a text -/
def lnB (s : ByteArray) : List ByteArray := (lnsA [] s.data.toList).map toB

theorem lnB_empty (s : ByteArray) (h : s.data.toList = []) : lnB s = [] := by unfold lnB; rw [h]; rfl
/-- no line feed: one line -/
theorem lnB_none (s : ByteArray) (h : s.data.toList ≠ []) (hn : ∀ c ∈ s.data.toList, c ≠ 10) : lnB s = [s] := by
  unfold lnB
  have := lnsA_pre [] s.data.toList [] hn
  rw [List.append_nil] at this
  rw [this]
  simp only [List.nil_append, lnsA, if_neg h, List.map_cons, List.map_nil, toB_data]
theorem take_drop_at {l : List UInt8} {i : Nat} {c : UInt8} (h : l[i]? = some c) : l = l.take i ++ c :: l.drop (i + 1) := by
  have hi : i < l.length := (List.getElem?_eq_some_iff.1 h).1
  have e := List.drop_eq_getElem_cons hi
  rw [List.getElem?_eq_getElem hi] at h
  rw [Option.some.inj h] at e
  rw [← e, List.take_append_drop]
/-- a line feed at i, none ahead of it -/
theorem lnB_at (s : ByteArray) (i : Nat) (h : s.data.toList[i]? = some 10) (hn : ∀ c ∈ s.data.toList.take i, c ≠ 10) :
    lnB s = s.extract 0 i :: lnB (s.extract (i + 1) s.size) := by
  have hi : i < s.data.toList.length := (List.getElem?_eq_some_iff.1 h).1
  have e1 : (s.extract 0 i).data.toList = s.data.toList.take i := by rw [data_extract]; simp
  have e2 : (s.extract (i + 1) s.size).data.toList = s.data.toList.drop (i + 1) := by
    rw [data_extract]
    exact List.take_of_length_le (by simp)
  unfold lnB
  rw [e2]
  conv => lhs; rw [take_drop_at h]
  rw [lnsA_pre _ _ _ hn]
  simp only [List.nil_append, lnsA, if_pos, List.map_cons]
  rw [← e1, toB_data]

/-- from f on a line is open, i is the next byte -/
def lnR (s : ByteArray) (f i : Nat) : List ByteArray := (lnsA (s.extract f i).data.toList (s.data.toList.drop i)).map toB
theorem seg_snoc (s : ByteArray) (f i : Nat) (hf : f ≤ i) (hi : i < s.size) : (s.extract f (i + 1)).data.toList = (s.extract f i).data.toList ++ [s[i]] := by
  have hl : s.data.toList.length = s.size := by simp
  rw [data_extract, data_extract, show i + 1 - f = (i - f) + 1 from by omega, List.take_add_one]
  congr 1
  rw [List.getElem?_drop, show f + (i - f) = i from by omega, List.getElem?_eq_getElem (by omega)]
  rfl
theorem drop_at (s : ByteArray) (i : Nat) (hi : i < s.size) : s.data.toList.drop i = s[i] :: s.data.toList.drop (i + 1) := by
  have hl : s.data.toList.length = s.size := by simp
  rw [List.drop_eq_getElem_cons (by omega)]
  rfl
theorem seg_nil (s : ByteArray) (f : Nat) : (s.extract f f).data.toList = [] := by rw [data_extract]; simp
theorem lnR_start (s : ByteArray) : lnR s 0 0 = lnB s := by unfold lnR lnB; rw [seg_nil]; rfl
theorem lnR_nl (s : ByteArray) (f i : Nat) (hf : f ≤ i) (hi : i < s.size) (h : s[i] = 10) : lnR s f i = s.extract f i :: lnR s (i + 1) (i + 1) := by
  unfold lnR
  rw [drop_at s i hi, seg_nil]
  simp only [lnsA, h, if_pos, List.map_cons, toB_data]
theorem lnR_step (s : ByteArray) (f i : Nat) (hf : f ≤ i) (hi : i < s.size) (h : s[i] ≠ 10) : lnR s f i = lnR s f (i + 1) := by
  unfold lnR
  rw [drop_at s i hi, seg_snoc s f i hf hi]
  simp only [lnsA, if_neg h]
theorem lnR_end (s : ByteArray) (f : Nat) (hf : f ≤ s.size) : lnR s f s.size = if f < s.size then [s.extract f s.size] else [] := by
  have hl : s.data.toList.length = s.size := by simp
  unfold lnR
  rw [List.drop_of_length_le (by omega)]
  by_cases h : f < s.size
  · have hne : (s.extract f s.size).data.toList ≠ [] := by
      intro e
      have := congrArg List.length e
      rw [data_extract] at this
      simp at this
      omega
    rw [if_pos h]
    simp only [lnsA, if_neg hne, List.map_cons, List.map_nil, toB_data]
  · rw [if_neg h, show f = s.size from by omega, seg_nil]; rfl

/-- a byte of a word -/
def wrdB (c : UInt8) : Bool := decide (33 ≤ (c.toNat : Int)) && decide ((c.toNat : Int) ≤ 126)
/-- the words of a line, so much of the first one read already; none: it has none -/
def wdsA (acc : List UInt8) : List UInt8 → Option (List (List UInt8))
  | [] => if acc = [] then none else some [acc]
  | c :: t => if wrdB c then wdsA (acc ++ [c]) t else if c = 32 ∧ acc ≠ [] then (wdsA [] t).map (acc :: ·) else none
def wdB (s : ByteArray) : Option (List ByteArray) := (wdsA [] s.data.toList).map (·.map toB)
def wdR (s : ByteArray) (f i : Nat) : Option (List ByteArray) := (wdsA (s.extract f i).data.toList (s.data.toList.drop i)).map (·.map toB)
theorem wdR_start (s : ByteArray) : wdR s 0 0 = wdB s := by unfold wdR wdB; rw [seg_nil]; rfl
theorem wdR_step (s : ByteArray) (f i : Nat) (hf : f ≤ i) (hi : i < s.size) (h : wrdB s[i] = true) : wdR s f i = wdR s f (i + 1) := by
  unfold wdR
  rw [drop_at s i hi, seg_snoc s f i hf hi]
  simp only [wdsA, h, if_pos]
theorem seg_ne (s : ByteArray) (f i : Nat) (hf : f < i) (hi : i ≤ s.size) : (s.extract f i).data.toList ≠ [] := by
  intro e
  have hl : s.data.toList.length = s.size := by simp
  have := congrArg List.length e
  rw [data_extract] at this
  simp at this
  omega
theorem wdR_blank (s : ByteArray) (f i : Nat) (hf : f < i) (hi : i < s.size) (h : s[i] = 32) : wdR s f i = (wdR s (i + 1) (i + 1)).map (s.extract f i :: ·) := by
  unfold wdR
  rw [drop_at s i hi, seg_nil]
  have hne := seg_ne s f i hf (by omega)
  have hw : wrdB 32 = false := by decide
  simp only [wdsA, h, hw, if_pos, hne, ne_eq, not_false_eq_true, and_self, Bool.false_eq_true, if_false]
  cases wdsA [] (s.data.toList.drop (i + 1)) with
  | none => rfl
  | some l => simp only [Option.map_some, List.map_cons, toB_data]
theorem wdR_bad (s : ByteArray) (f i : Nat) (hf : f ≤ i) (hi : i < s.size) (h : wrdB s[i] = false) (hb : f = i ∨ s[i] ≠ 32) : wdR s f i = none := by
  unfold wdR
  rw [drop_at s i hi]
  simp only [wdsA, h, Bool.false_eq_true, if_false]
  rw [if_neg]
  · rfl
  · rintro ⟨h1, h2⟩
    rcases hb with hb | hb
    · subst hb; exact h2 (seg_nil s f)
    · exact hb h1
theorem wdR_end (s : ByteArray) (f : Nat) (hf : f ≤ s.size) : wdR s f s.size = if f < s.size then some [s.extract f s.size] else none := by
  have hl : s.data.toList.length = s.size := by simp
  unfold wdR
  rw [List.drop_of_length_le (by omega)]
  by_cases h : f < s.size
  · rw [if_pos h]
    simp only [wdsA, if_neg (seg_ne s f s.size h (by omega)), Option.map_some, List.map_cons, List.map_nil, toB_data]
  · rw [if_neg h, show f = s.size from by omega, seg_nil]; rfl
end Go.Proofs.YthhakjckbnoefaaDoor
