/- WrdP: Lines and words: plain. No program.
WrdQ: Words: the split at blanks is the words, or there are none. No program.
DgsP: Digits: plain. No program.
TxtP: Numbers and words as texts, there and back: plain. No program.
PacM: Pace: the reference's May.
Vls: Slices of strings: their cells; strings that differ.
Wrd4: Words: the walks. -/
import Derived.Test.YtjblplflgiibdaaDoorB1
import Derived.Lib.SplitLaws
import Derived.Lib.IndexLaws
import Derived.Lib.IndexBytes
import Derived.Lib.ItoaNum
import Derived.Lib.Join
import Derived.Test.YtjblplflgiibdaaDoorB8
import Derived.Test.YtjblplflgiibdaaDoorB3
import Derived.Test.YtjblplflgiibdaaDoorB2
namespace Go.Proofs.YtjblplflgiibdaaDoor
open Go.ChangeShapes Go.WideShapes Go.ChangeAt Go.RowKit
set_option linter.unusedVariables false
set_option linter.unusedSimpArgs false

def toB (l : List UInt8) : ByteArray := ⟨l.toArray⟩
theorem toB_data (s : ByteArray) : toB s.data.toList = s := by
  apply ByteArray.ext; simp [toB]
theorem data_extract (s : ByteArray) (a b : Nat) : (s.extract a b).data.toList = (s.data.toList.drop a).take (b - a) := by
  simp [ByteArray.data_extract, List.extract_eq_take_drop]
def lnsA (acc : List UInt8) : List UInt8 → List (List UInt8)
  | [] => if acc = [] then [] else [acc]
  | c :: t => if c = 10 then acc :: lnsA [] t else lnsA (acc ++ [c]) t
theorem lnsA_pre (t : List UInt8) : ∀ (p acc : List UInt8), (∀ c ∈ p, c ≠ 10) → lnsA acc (p ++ t) = lnsA (acc ++ p) t
  | [], acc, _ => by simp
  | c :: p, acc, h => by
    have hc : c ≠ 10 := h c (by simp)
    simp only [List.cons_append, lnsA, if_neg hc]
    rw [lnsA_pre t p _ fun d hd => h d (by simp [hd])]
    simp
def lnB (s : ByteArray) : List ByteArray := (lnsA [] s.data.toList).map toB
theorem lnB_empty (s : ByteArray) (h : s.data.toList = []) : lnB s = [] := by unfold lnB; rw [h]; rfl
theorem lnB_none (s : ByteArray) (h : s.data.toList ≠ []) (hn : ∀ c ∈ s.data.toList, c ≠ 10) : lnB s = [s] := by
  unfold lnB
  have := lnsA_pre [] s.data.toList [] hn
  rw [List.append_nil] at this
  rw [this]
  simp only [List.nil_append, lnsA, if_neg h, List.map_cons, List.map_nil, toB_data]
theorem take_drop_at {l : List UInt8} {i : Nat} {c : UInt8} (h : l[i]? = some c) : l = l.take i ++ c :: l.drop (i + 1) := by
  have hi : i < l.length := (List.getElem?_eq_some_iff.1 h).1
  have e := List.drop_eq_getElem_cons hi
  rw [List.getElem?_eq_getElem hi] at h
  rw [Option.some.inj h] at e
  rw [← e, List.take_append_drop]
theorem lnB_at (s : ByteArray) (i : Nat) (h : s.data.toList[i]? = some 10) (hn : ∀ c ∈ s.data.toList.take i, c ≠ 10) :
    lnB s = s.extract 0 i :: lnB (s.extract (i + 1) s.size) := by
  have hi : i < s.data.toList.length := (List.getElem?_eq_some_iff.1 h).1
  have e1 : (s.extract 0 i).data.toList = s.data.toList.take i := by rw [data_extract]; simp
  have e2 : (s.extract (i + 1) s.size).data.toList = s.data.toList.drop (i + 1) := by
    rw [data_extract]
    exact List.take_of_length_le (by simp)
  unfold lnB
  rw [e2]
  conv => lhs; rw [take_drop_at h]
  rw [lnsA_pre _ _ _ hn]
  simp only [List.nil_append, lnsA, if_pos, List.map_cons]
  rw [← e1, toB_data]
def wrdB (c : UInt8) : Bool := decide (33 ≤ (c.toNat : Int)) && decide ((c.toNat : Int) ≤ 126)
def wdsA (acc : List UInt8) : List UInt8 → Option (List (List UInt8))
  | [] => if acc = [] then none else some [acc]
  | c :: t => if wrdB c then wdsA (acc ++ [c]) t else if c = 32 ∧ acc ≠ [] then (wdsA [] t).map (acc :: ·) else none
def wdB (s : ByteArray) : Option (List ByteArray) := (wdsA [] s.data.toList).map (·.map toB)
end Go.Proofs.YtjblplflgiibdaaDoor
namespace Go.Proofs.YtjblplflgiibdaaDoor
open Go.ChangeShapes Go.WideShapes Go.ChangeAt Go.RowKit
set_option linter.unusedVariables false
set_option linter.unusedSimpArgs false

def splA (acc : List UInt8) : List UInt8 → List (List UInt8)
  | [] => [acc]
  | c :: t => if c = 32 then acc :: splA [] t else splA (acc ++ [c]) t
theorem splA_pre (t : List UInt8) : ∀ (p acc : List UInt8), (∀ c ∈ p, c ≠ 32) → splA acc (p ++ t) = splA (acc ++ p) t
  | [], acc, _ => by simp
  | c :: p, acc, h => by
    have hc : c ≠ 32 := h c (by simp)
    simp only [List.cons_append, splA, if_neg hc]
    rw [splA_pre t p _ fun d hd => h d (by simp [hd])]
    simp
def okW (x : List UInt8) : Bool := !x.isEmpty && x.all wrdB
theorem splA_bad : ∀ (l acc : List UInt8), acc.all wrdB = false → (splA acc l).all okW = false
  | [], acc, h => by simp [splA, okW, h]
  | c :: t, acc, h => by
    unfold splA
    split
    · simp [okW, h]
    · exact splA_bad t (acc ++ [c]) (by simp [List.all_append, h])
theorem wdsA_splA : ∀ (l acc : List UInt8), acc.all wrdB = true → wdsA acc l = if (splA acc l).all okW then some (splA acc l) else none
  | [], acc, h => by
    unfold wdsA splA
    by_cases e : acc = []
    · subst e; rfl
    · have : okW acc = true := by unfold okW; rw [h]; simp [List.isEmpty_iff, e]
      simp [e, this]
  | c :: t, acc, h => by
    unfold wdsA splA
    by_cases hw : wrdB c = true
    · have hc : c ≠ 32 := by rintro rfl; revert hw; decide
      rw [if_pos hw, if_neg hc]
      exact wdsA_splA t (acc ++ [c]) (by rw [List.all_append, h]; simp [hw])
    · rw [if_neg hw]
      by_cases hc : c = 32
      · rw [if_pos hc]
        by_cases e : acc = []
        · subst e; simp [okW]
        · have ho : okW acc = true := by unfold okW; rw [h]; simp [List.isEmpty_iff, e]
          rw [if_pos ⟨hc, e⟩, wdsA_splA t [] rfl]
          simp only [List.all_cons, ho, Bool.true_and]
          split <;> rfl
      · rw [if_neg hc, if_neg (fun h => hc h.1)]
        rw [splA_bad t (acc ++ [c]) (by simp [List.all_append, hw])]
        rfl
def blank : ByteArray := ⟨#[32]⟩
theorem blank_size : blank.size = 1 := rfl
theorem indexB_blank (s : ByteArray) : Lib.indexB s blank = Lib.indexByte s.data.toList 32 := Lib.index_one s.data.toList 32
theorem split_law : ∀ (n : Nat) (s : ByteArray), s.size ≤ n → Lib.splitB blank 0 (Lib.countB s blank) s = (splA [] s.data.toList).map toB
  | n, s, hn => by
    rcases Lib.indexB_cases s blank with h | ⟨i, h, hi⟩
    · rw [Lib.countB_miss s blank h, Lib.splitB_zero]
      rw [indexB_blank] at h
      have hno : ∀ c ∈ s.data.toList, c ≠ 32 := by
        intro c hc e
        obtain ⟨k, hk⟩ := List.mem_iff_getElem?.1 hc
        exact Lib.indexByte_none h k (by rw [hk, e])
      have := splA_pre [] s.data.toList [] hno
      rw [List.append_nil] at this
      rw [this]
      simp [splA, toB_data]
    · rw [blank_size] at hi
      rw [Lib.countB_hit s blank i (by rw [blank_size]; omega) h, Nat.add_comm 1, Lib.splitB_hit blank 0 _ s i h, blank_size, Nat.add_zero]
      rw [indexB_blank] at h
      obtain ⟨h1, h2⟩ := Lib.indexByte_some h
      have hno : ∀ c ∈ s.data.toList.take i, c ≠ 32 := by
        intro c hc e
        obtain ⟨k, hk⟩ := List.mem_iff_getElem?.1 hc
        have hki : k < i := by
          have := (List.getElem?_eq_some_iff.1 hk).1
          simp at this
          omega
        rw [List.getElem?_take, if_pos hki] at hk
        exact h2 k hki (by rw [hk, e])
      have e1 : (s.extract 0 i).data.toList = s.data.toList.take i := by rw [data_extract]; simp
      have e2 : (s.extract (i + 1) s.size).data.toList = s.data.toList.drop (i + 1) := by
        rw [data_extract]
        exact List.take_of_length_le (by simp)
      match n, hn with
      | 0, hn => omega
      | n + 1, hn =>
        rw [split_law n (s.extract (i + 1) s.size) (by simp; omega), e2]
        conv => rhs; rw [take_drop_at h1]
        rw [splA_pre _ _ _ hno]
        simp only [List.nil_append, splA, if_pos, List.map_cons]
        rw [← e1, toB_data]
def pcs (s : ByteArray) : List ByteArray := (splA [] s.data.toList).map toB
theorem splA_size : ∀ (l acc x : List UInt8), x ∈ splA acc l → x.length ≤ acc.length + l.length
  | [], acc, x, h => by simp [splA] at h; subst h; simp
  | c :: t, acc, x, h => by
    unfold splA at h
    split at h
    · rcases List.mem_cons.1 h with h | h
      · subst h; simp
      · have := splA_size t [] x h
        simp at this ⊢; omega
    · have := splA_size t (acc ++ [c]) x h
      simp at this ⊢; omega
theorem pcs_size {s x : ByteArray} (h : x ∈ pcs s) : x.size ≤ s.size := by
  unfold pcs at h
  obtain ⟨l, hl, rfl⟩ := List.mem_map.1 h
  have := splA_size _ _ _ hl
  have hl2 : s.data.toList.length = s.size := by simp
  rw [hl2] at this
  show l.toArray.size ≤ s.size
  rw [List.size_toArray]
  simpa using this
def okB (x : ByteArray) : Bool := okW x.data.toList
theorem wdB_pcs (s : ByteArray) : wdB s = if (pcs s).all okB then some (pcs s) else none := by
  unfold wdB pcs
  rw [wdsA_splA _ _ rfl]
  have e : ((splA [] s.data.toList).map toB).all okB = (splA [] s.data.toList).all okW := by
    rw [List.all_map]; rfl
  rw [e]
  split <;> rfl
theorem pcs_split (s : ByteArray) : Lib.splitB blank 0 (Lib.countB s blank) s = pcs s := split_law s.size s (Nat.le_refl _)
theorem pcs_len (s : ByteArray) : (pcs s).length = Lib.countB s blank + 1 := by
  rw [← pcs_split, Lib.splitB_all blank (by rw [blank_size]; omega) 0 _ s rfl]
theorem okB_iff (x : ByteArray) : okB x = true ↔ 0 < x.size ∧ ∀ (i : Nat) (h : i < x.size), 33 ≤ ((x[i]).toNat : Int) ∧ ((x[i]).toNat : Int) ≤ 126 := by
  have hl : x.data.toList.length = x.size := by simp
  unfold okB okW
  rw [Bool.and_eq_true, List.all_eq_true]
  constructor
  · rintro ⟨h1, h2⟩
    refine ⟨?_, fun i h => ?_⟩
    · rcases Nat.eq_zero_or_pos x.size with h | h
      · have e : x.data.toList = [] := List.length_eq_zero_iff.1 (hl.trans h)
        rw [e] at h1; simp at h1
      · exact h
    · have := h2 x[i] (by rw [List.mem_iff_getElem]; exact ⟨i, by omega, rfl⟩)
      unfold wrdB at this
      simpa using this
  · rintro ⟨h1, h2⟩
    refine ⟨?_, fun c hc => ?_⟩
    · cases h : x.data.toList with
      | nil => rw [h] at hl; simp at hl; omega
      | cons => rfl
    · obtain ⟨i, hi, rfl⟩ := List.mem_iff_getElem.1 hc
      have := h2 i (by omega)
      unfold wrdB
      rw [Bool.and_eq_true, decide_eq_true_eq, decide_eq_true_eq]
      exact this
end Go.Proofs.YtjblplflgiibdaaDoor
namespace Go.Proofs.YtjblplflgiibdaaDoor
open Go.ChangeShapes Go.WideShapes Go.ChangeAt Go.RowKit
set_option linter.unusedVariables false
set_option linter.unusedSimpArgs false

def dgs (n : Int) : ByteArray := ⟨(Lib.itoa n).toArray⟩
theorem itoa_small {n : Int} (h0 : 0 ≤ n) (h1 : n < 10) : dgs n = ⟨#[UInt8.ofNat (48 + n).toNat]⟩ := by
  unfold dgs Lib.itoa
  rw [if_neg (by omega), Lib.decDigits, dif_pos (by omega)]
  rw [show (48 + n).toNat = 48 + n.toNat from by omega]
theorem itoa_big {n : Int} (h : 10 ≤ n) : dgs n = dgs (n / 10) ++ ⟨#[UInt8.ofNat (48 + n % 10).toNat]⟩ := by
  unfold dgs Lib.itoa
  rw [if_neg (by omega), if_neg (by omega), Lib.decDigits, dif_neg (by omega)]
  rw [show (48 + n % 10).toNat = 48 + n.toNat % 10 from by omega, show (n / 10).toNat = n.toNat / 10 from by omega]
  apply ByteArray.ext
  simp
theorem itoa_nsmall {n : Int} (h0 : n < 0) (h1 : -10 < n) : dgs n = ⟨#[45]⟩ ++ ⟨#[UInt8.ofNat (48 + -n).toNat]⟩ := by
  unfold dgs Lib.itoa
  rw [if_pos h0, Lib.decDigits, dif_pos (by omega)]
  rw [show (48 + -n).toNat = 48 + n.natAbs from by omega]
  apply ByteArray.ext
  simp
theorem itoa_nbig {n : Int} (h : n ≤ -10) : dgs n = dgs (n.tdiv 10) ++ ⟨#[UInt8.ofNat (48 + -(n.tmod 10)).toNat]⟩ := by
  have e1 : n.tdiv 10 = -((-n) / 10) := by
    have : n = -(-n) := by omega
    rw [this, Int.neg_tdiv, Int.tdiv_eq_ediv_of_nonneg (by omega)]
    omega
  have e2 : n.tmod 10 = -((-n) % 10) := by
    have : n = -(-n) := by omega
    rw [this, Int.neg_tmod, Int.tmod_eq_emod_of_nonneg (by omega)]
    omega
  rw [e1, e2]
  unfold dgs Lib.itoa
  rw [if_pos (by omega), if_pos (by omega), Lib.decDigits, dif_neg (by omega)]
  rw [show (48 + - -((-n) % 10)).toNat = 48 + n.natAbs % 10 from by omega, show (-((-n) / 10)).natAbs = n.natAbs / 10 from by omega]
  apply ByteArray.ext
  simp
theorem tdiv_neg_bd {n : Int} (h : n ≤ -10) : n.tdiv 10 = -((-n) / 10) ∧ n.tmod 10 = -((-n) % 10) := by
  constructor
  · have : n = -(-n) := by omega
    rw [this, Int.neg_tdiv, Int.tdiv_eq_ediv_of_nonneg (by omega)]
    omega
  · have : n = -(-n) := by omega
    rw [this, Int.neg_tmod, Int.tmod_eq_emod_of_nonneg (by omega)]
    omega
theorem tmod_nsmall {n : Int} (h0 : n < 0) (h1 : -10 < n) : n.tmod 10 = n := by
  have : n = -(-n) := by omega
  rw [this, Int.neg_tmod, Int.tmod_eq_emod_of_nonneg (by omega)]
  omega
theorem decDigits_len : ∀ (k u : Nat), u ≤ k → (Lib.decDigits u).length ≤ u + 1
  | 0, u, h => by
    obtain rfl : u = 0 := by omega
    rw [Lib.decDigits, dif_pos (by omega)]; simp
  | k + 1, u, h => by
    rw [Lib.decDigits]
    split
    · simp
    · have := decDigits_len k (u / 10) (by omega)
      simp; omega
theorem dgs_len (n : Int) : (dgs n).size ≤ n.natAbs + 2 := by
  unfold dgs Lib.itoa
  have h1 := decDigits_len n.natAbs n.natAbs (Nat.le_refl _)
  have h2 := decDigits_len n.toNat n.toNat (Nat.le_refl _)
  show ((if n < 0 then 45 :: Lib.decDigits n.natAbs else Lib.decDigits n.toNat).toArray).size ≤ _
  split
  · simp; omega
  · simp; omega
end Go.Proofs.YtjblplflgiibdaaDoor
namespace Go.Proofs.YtjblplflgiibdaaDoor
open Go.ChangeShapes Go.WideShapes Go.ChangeAt Go.RowKit
set_option linter.unusedVariables false
set_option linter.unusedSimpArgs false

theorem bt_app (a b : ByteArray) (i : Nat) : bt (a ++ b) i = if i < a.size then bt a i else bt b (i - a.size) := by
  unfold bt
  have e : (a ++ b).data.toList = a.data.toList ++ b.data.toList := by simp [ByteArray.data_append]
  have hl : a.data.toList.length = a.size := by simp
  rw [e, List.getD_eq_getElem?_getD, List.getElem?_append, hl]
  by_cases h : i < a.size
  · rw [if_pos h, if_pos h, List.getD_eq_getElem?_getD]
  · rw [if_neg h, if_neg h, List.getD_eq_getElem?_getD]
theorem size_app (a b : ByteArray) : (a ++ b).size = a.size + b.size := ByteArray.size_append
theorem bt_one (x : UInt8) : bt ⟨#[x]⟩ 0 = (x.toNat : Int) := rfl
theorem nvB_app (a b : ByteArray) : ∀ k, k ≤ a.size → nvB (a ++ b) k = nvB a k
  | 0, _ => rfl
  | k + 1, h => by
    simp only [nvB]
    rw [nvB_app a b k (by omega), bt_app, if_pos (by omega)]
theorem dg_byte (d : Int) (h0 : 0 ≤ d) (h1 : d < 10) : ((UInt8.ofNat (48 + d).toNat).toNat : Int) = 48 + d := by
  rw [UInt8.toNat_ofNat_of_lt' (by show (48 + d).toNat < 256; omega)]
  omega
theorem dgs_spec : ∀ (k : Nat) (n : Int), 0 ≤ n → n < 10 ^ (k + 1) →
    1 ≤ (dgs n).size ∧ (dgs n).size ≤ k + 1 ∧ (∀ i, i < (dgs n).size → 48 ≤ bt (dgs n) i ∧ bt (dgs n) i ≤ 57) ∧ nvB (dgs n) (dgs n).size = n ∧ (n < 10 → (dgs n).size = 1) ∧ (0 < n → bt (dgs n) 0 ≠ 48) := by
  intro k
  induction k with
  | zero =>
    intro n h0 h1
    have h1' : n < 10 := by simpa using h1
    have hd := dg_byte n h0 h1'
    have hs : (⟨#[UInt8.ofNat (48 + n).toNat]⟩ : ByteArray).size = 1 := rfl
    rw [itoa_small h0 h1']
    refine ⟨by rw [hs]; omega, by rw [hs]; omega, ?_, ?_, fun _ => hs, ?_⟩
    · intro i hi
      rw [hs] at hi
      obtain rfl : i = 0 := by omega
      rw [bt_one, hd]; omega
    · rw [hs]
      simp only [nvB]
      rw [bt_one, hd]; omega
    · intro hn
      rw [bt_one, hd]; omega
  | succ k ih =>
    intro n h0 h1
    by_cases hs : n < 10
    · have hd := dg_byte n h0 hs
      have hz : (⟨#[UInt8.ofNat (48 + n).toNat]⟩ : ByteArray).size = 1 := rfl
      rw [itoa_small h0 hs]
      refine ⟨by rw [hz]; omega, by rw [hz]; omega, ?_, ?_, fun _ => hz, ?_⟩
      · intro i hi
        rw [hz] at hi
        obtain rfl : i = 0 := by omega
        rw [bt_one, hd]; omega
      · rw [hz]
        simp only [nvB]
        rw [bt_one, hd]; omega
      · intro hn
        rw [bt_one, hd]; omega
    · have e : (10 : Int) ^ (k + 1 + 1) = 10 * 10 ^ (k + 1) := by rw [Int.pow_succ, Int.mul_comm]
      obtain ⟨a1, a2, a3, a4, a5, a6⟩ := ih (n / 10) (by omega) (by omega)
      have hd := dg_byte (n % 10) (by omega) (by omega)
      have hz : (⟨#[UInt8.ofNat (48 + n % 10).toNat]⟩ : ByteArray).size = 1 := rfl
      rw [itoa_big (by omega)]
      have hsz : (dgs (n / 10) ++ ⟨#[UInt8.ofNat (48 + n % 10).toNat]⟩).size = (dgs (n / 10)).size + 1 := by rw [size_app, hz]
      refine ⟨by rw [hsz]; omega, by rw [hsz]; omega, ?_, ?_, fun h => absurd h hs, ?_⟩
      · intro i hi
        rw [hsz] at hi
        rw [bt_app]
        by_cases hj : i < (dgs (n / 10)).size
        · rw [if_pos hj]; exact a3 i hj
        · rw [if_neg hj, show i - (dgs (n / 10)).size = 0 from by omega, bt_one, hd]; omega
      · rw [hsz]
        simp only [nvB]
        rw [nvB_app _ _ _ (Nat.le_refl _), a4, bt_app, if_neg (by omega), Nat.sub_self, bt_one, hd]; omega
      · intro hn
        rw [bt_app, if_pos (by omega)]
        exact a6 (by omega)
def wordB (x : ByteArray) : Prop := x.data.toList ≠ [] ∧ ∀ c ∈ x.data.toList, wrdB c = true
theorem wordB_of {x : ByteArray} (h0 : x.size ≠ 0) (h : ∀ j, j < x.size → 33 ≤ bt x j ∧ bt x j ≤ 126) : wordB x := by
  refine ⟨fun e => h0 (by have := congrArg List.length e; rw [show ∀ x : ByteArray, x.data.toList.length = x.size from fun x => by simp] at this; exact this), ?_⟩
  intro c hc
  obtain ⟨i, hi, he⟩ := List.mem_iff_getElem.1 hc
  have hi' : i < x.size := by simpa using hi
  have hb := h i hi'
  rw [bt_get x i hi'] at hb
  have : x[i] = c := he
  rw [this] at hb
  unfold wrdB
  simp only [Bool.and_eq_true, decide_eq_true_eq]
  exact hb
theorem wdsA_pre (t : List UInt8) : ∀ (p acc : List UInt8), (∀ c ∈ p, wrdB c = true) → wdsA acc (p ++ t) = wdsA (acc ++ p) t
  | [], acc, _ => by simp
  | c :: p, acc, h => by
    have hc : wrdB c = true := h c (by simp)
    rw [List.cons_append, wdsA, if_pos hc, wdsA_pre t p _ fun d hd => h d (by simp [hd])]
    simp
theorem w32 : wrdB 32 = false := by decide
theorem wdsA_blank (acc t : List UInt8) (h : acc ≠ []) : wdsA acc (32 :: t) = (wdsA [] t).map (acc :: ·) := by
  rw [wdsA, if_neg (by rw [w32]; exact Bool.false_ne_true), if_pos ⟨rfl, h⟩]
def jnW (L : List ByteArray) : ByteArray := ⟨(Lib.join (L.map (·.data.toList)) [32]).toArray⟩
theorem join_cons (a : List UInt8) (r : List (List UInt8)) (sep : List UInt8) (h : r ≠ []) : Lib.join (a :: r) sep = a ++ sep ++ Lib.join r sep := by
  unfold Lib.join
  cases r with
  | nil => exact absurd rfl h
  | cons b t => simp [List.intercalate, List.intersperse]
theorem wdsA_join : ∀ (L : List ByteArray) (b : ByteArray), wordB b → (∀ x ∈ L, wordB x) → wdsA [] (Lib.join ((b :: L).map (·.data.toList)) [32]) = some ((b :: L).map (·.data.toList))
  | [], b, hb, _ => by
    show wdsA [] (Lib.join [b.data.toList] [32]) = some [b.data.toList]
    rw [Lib.join_one]
    have := wdsA_pre [] b.data.toList [] hb.2
    rw [List.append_nil, List.nil_append] at this
    rw [this, wdsA, if_neg hb.1]
  | a :: t, b, hb, h => by
    have ih := wdsA_join t a (h a (List.mem_cons_self ..)) (fun x hx => h x (List.mem_cons_of_mem _ hx))
    show wdsA [] (Lib.join (b.data.toList :: ((a :: t).map (·.data.toList))) [32]) = _
    rw [join_cons _ _ _ (by simp), List.append_assoc, wdsA_pre _ _ _ hb.2, List.nil_append]
    show wdsA b.data.toList (32 :: Lib.join ((a :: t).map (·.data.toList)) [32]) = _
    rw [wdsA_blank _ _ hb.1, ih]; rfl
theorem wdB_jnW (L : List ByteArray) (hL : L ≠ []) (h : ∀ x ∈ L, wordB x) : wdB (jnW L) = some L := by
  cases L with
  | nil => exact absurd rfl hL
  | cons b t =>
    unfold wdB jnW
    show (wdsA [] (Lib.join ((b :: t).map (·.data.toList)) [32])).map (·.map toB) = _
    rw [wdsA_join t b (h b (List.mem_cons_self ..)) (fun x hx => h x (List.mem_cons_of_mem _ hx))]
    show some (((b :: t).map (·.data.toList)).map toB) = _
    rw [List.map_map]
    have : (toB ∘ fun x : ByteArray => x.data.toList) = id := by funext x; exact toB_data x
    rw [this, List.map_id]
theorem jnW_cons (b a : ByteArray) (t : List ByteArray) : jnW (b :: a :: t) = b ++ ⟨#[32]⟩ ++ jnW (a :: t) := by
  apply ByteArray.ext
  apply Array.toList_inj.1
  show (Lib.join (b.data.toList :: ((a :: t).map (·.data.toList))) [32]) = _
  rw [join_cons _ _ _ (by simp)]
  simp [ByteArray.data_append, jnW]
theorem num_dgs (k : Nat) (n : Int) (h0 : 0 ≤ n) (h1 : n < 10 ^ (k + 1)) (hk : k + 1 ≤ 9) : numB (dgs n) ((k : Int) + 1) = true ∧ numN (dgs n) ((k : Int) + 1) = n := by
  obtain ⟨a1, a2, a3, a4, a5, a6⟩ := dgs_spec k n h0 h1
  have hb : numB (dgs n) ((k : Int) + 1) = true := by
    refine (numB_iff _ _).2 ⟨by omega, by omega, by omega, by omega, ?_, a3⟩
    rintro ⟨p, q⟩
    by_cases hv : n < 10
    · have := a5 hv; omega
    · exact a6 (by omega) q
  exact ⟨hb, by unfold numN; rw [hb, if_pos rfl]; exact a4⟩
theorem dgs_word (n : Int) (h0 : 0 ≤ n) (h1 : n < 1000000000) : wordB (dgs n) := by
  obtain ⟨a1, a2, a3, -⟩ := dgs_spec 8 n h0 (by simpa using h1)
  exact wordB_of (by omega) fun j hj => by have := a3 j hj; omega
end Go.Proofs.YtjblplflgiibdaaDoor
namespace Go.Proofs.YtjblplflgiibdaaDoor
open Go.ChangeShapes Go.WideShapes Go.ChangeAt Go.RowKit
set_option linter.unusedVariables false
set_option linter.unusedSimpArgs false

def winB (n lo hi : Int) : Bool := decide (lo ≤ n) && decide (n ≤ hi)
def mayB (nm : ByteArray) (l t a b : Int) : Bool := nmB nm && winB l 1 4000 && winB t 1 60 && winB a 1 10 && winB b 1 10
end Go.Proofs.YtjblplflgiibdaaDoor
namespace Go.Proofs.YtjblplflgiibdaaDoor
open Go.ChangeShapes Go.WideShapes Go.ChangeAt Go.RowKit
set_option linter.unusedVariables false
set_option linter.unusedSimpArgs false

theorem vals_at {w : World} {A : List ByteArray} {a : Option Addr} {c : Nat} (h : IsVals w (.slice a A.length c) (A.map Value.string)) (k : Nat) (hk : k < A.length) :
    ∃ b o, a = some ⟨b, o, none⟩ ∧ b < w.heap.size ∧ w.cell? ⟨b, o + k, none⟩ = some (.string A[k]) := by
  obtain ⟨a', c', e, _, hx⟩ := h
  simp only [Value.slice.injEq] at e
  obtain ⟨rfl, -, rfl⟩ := e
  rcases hx with hx | ⟨b, o, rfl, hb, hc⟩
  · exfalso
    have := congrArg List.length hx
    simp at this
    rw [this] at hk
    simp at hk
  · exact ⟨b, o, rfl, hb, hc k _ (by rw [List.getElem?_map, List.getElem?_eq_getElem hk]; rfl)⟩
theorem str_ne {a b : ByteArray} (h : ¬ a = b) : (a.toList == b.toList) = false := by
  rw [beq_eq_false_iff_ne]
  intro e
  rw [ByteArray.toList_eq, ByteArray.toList_eq] at e
  exact h (ByteArray.ext (Array.toList_inj.1 e))
end Go.Proofs.YtjblplflgiibdaaDoor
namespace Go.Proofs.YtjblplflgiibdaaDoor
open Go.ChangeShapes Go.WideShapes Go.ChangeAt Go.RowKit
set_option linter.unusedVariables false
set_option linter.unusedSimpArgs false

def RetW (w : World) (o : Option (List ByteArray)) (e : Ending) (w' : World) : Prop :=
  ∃ v, e = .returned (.tuple #[v, .bool o.isSome]) ∧ IsVals w' v ((o.getD []).map Value.string) ∧ Gr w w'
theorem RetW.no {w w' : World} {o : Option (List ByteArray)} (h : o = none) (g : Gr w w') : RetW w o (.returned (.tuple #[.slice none 0 0, .bool false])) w' := by
  subst h
  exact ⟨_, rfl, ⟨none, 0, rfl, by simp, .inl rfl⟩, g⟩
theorem RetW.yes {w w' : World} {o : Option (List ByteArray)} {L : List ByteArray} {v : Value} (h : o = some L) (hv : IsVals w' v (L.map Value.string)) (g : Gr w w') : RetW w o (.returned (.tuple #[v, .bool true])) w' := by
  subst h
  exact ⟨_, rfl, hv, g⟩
def CapOk (v : Value) : Prop := ∀ a n c, v = .slice a n c → n ≤ c
theorem OwnS.cap {B : Nat} {w : World} {v : Value} {L : List ByteArray} (h : OwnS B w v L) : CapOk v := by
  intro a n c e
  obtain ⟨-, h⟩ := h
  rcases h with ⟨rfl, -⟩ | ⟨g, cap, cur, rfl, -, -, hc, -⟩
  · cases e; omega
  · cases e; exact hc
def RetWc (w : World) (o : Option (List ByteArray)) (e : Ending) (w' : World) : Prop :=
  ∃ v, e = .returned (.tuple #[v, .bool o.isSome]) ∧ IsVals w' v ((o.getD []).map Value.string) ∧ CapOk v ∧ Gr w w'
theorem RetWc.no {w w' : World} {o : Option (List ByteArray)} (h : o = none) (g : Gr w w') : RetWc w o (.returned (.tuple #[.slice none 0 0, .bool false])) w' := by
  subst h
  exact ⟨_, rfl, ⟨none, 0, rfl, by simp, .inl rfl⟩, fun a n c e => by cases e; omega, g⟩
theorem RetWc.yes {w w' : World} {o : Option (List ByteArray)} {L : List ByteArray} {v : Value} (h : o = some L) (hv : IsVals w' v (L.map Value.string)) (hc : CapOk v) (g : Gr w w') : RetWc w o (.returned (.tuple #[v, .bool true])) w' := by
  subst h
  exact ⟨_, rfl, hv, hc, g⟩
theorem RetWc.drop {w w' : World} {o : Option (List ByteArray)} {e : Ending} (h : RetWc w o e w') : RetW w o e w' := by
  obtain ⟨v, h1, h2, -, h3⟩ := h
  exact ⟨v, h1, h2, h3⟩
end Go.Proofs.YtjblplflgiibdaaDoor
