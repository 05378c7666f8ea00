/- WrdQ: Words: the split at blanks is the words, or there are none. No program.
DgsP: Digits: plain. No program.
TxtP: Numbers and words as texts, there and back: plain. No program.
PacM: Pace: the reference's May.
Vls: Slices of strings: their cells; strings that differ.
Wrd4: Words: the walks.
StQ: Lists of kinds of trains, their texts: plain.
Nms: Names of a plan that may be: each is there once. Plain.
Fnd: The signal, the element of a name. Plain. -/
import Derived.Test.YtknmngejjoohdaaGreatDoorB16
import Derived.Lib.SplitLaws
import Derived.Lib.IndexLaws
import Derived.Lib.IndexBytes
import Derived.Lib.ItoaNum
import Derived.Lib.Join
import Derived.Test.YtknmngejjoohdaaGreatDoorB12
import Derived.Test.YtknmngejjoohdaaGreatDoorB3
import Derived.Test.YtknmngejjoohdaaGreatDoorB11
import Derived.Test.YtknmngejjoohdaaGreatDoorB2
import Derived.Test.YtknmngejjoohdaaGreatDoorRows
import Derived.Test.YtknmngejjoohdaaGreatDoorB1
namespace Go.Proofs.YtknmngejjoohdaaGreatDoor
open Go.ChangeShapes Go.WideShapes Go.ChangeAt Go.RowKit
set_option linter.unusedVariables false
set_option linter.unusedSimpArgs false

def splA (acc : List UInt8) : List UInt8 → List (List UInt8)
  | [] => [acc]
  | c :: t => if c = 32 then acc :: splA [] t else splA (acc ++ [c]) t
theorem splA_pre (t : List UInt8) : ∀ (p acc : List UInt8), (∀ c ∈ p, c ≠ 32) → splA acc (p ++ t) = splA (acc ++ p) t
  | [], acc, _ => by simp
  | c :: p, acc, h => by
    have hc : c ≠ 32 := h c (by simp)
    simp only [List.cons_append, splA, if_neg hc]
    rw [splA_pre t p _ fun d hd => h d (by simp [hd])]
    simp
def okW (x : List UInt8) : Bool := !x.isEmpty && x.all wrdB
theorem splA_bad : ∀ (l acc : List UInt8), acc.all wrdB = false → (splA acc l).all okW = false
  | [], acc, h => by simp [splA, okW, h]
  | c :: t, acc, h => by
    unfold splA
    split
    · simp [okW, h]
    · exact splA_bad t (acc ++ [c]) (by simp [List.all_append, h])
theorem wdsA_splA : ∀ (l acc : List UInt8), acc.all wrdB = true → wdsA acc l = if (splA acc l).all okW then some (splA acc l) else none
  | [], acc, h => by
    unfold wdsA splA
    by_cases e : acc = []
    · subst e; rfl
    · have : okW acc = true := by unfold okW; rw [h]; simp [List.isEmpty_iff, e]
      simp [e, this]
  | c :: t, acc, h => by
    unfold wdsA splA
    by_cases hw : wrdB c = true
    · have hc : c ≠ 32 := by rintro rfl; revert hw; decide
      rw [if_pos hw, if_neg hc]
      exact wdsA_splA t (acc ++ [c]) (by rw [List.all_append, h]; simp [hw])
    · rw [if_neg hw]
      by_cases hc : c = 32
      · rw [if_pos hc]
        by_cases e : acc = []
        · subst e; simp [okW]
        · have ho : okW acc = true := by unfold okW; rw [h]; simp [List.isEmpty_iff, e]
          rw [if_pos ⟨hc, e⟩, wdsA_splA t [] rfl]
          simp only [List.all_cons, ho, Bool.true_and]
          split <;> rfl
      · rw [if_neg hc, if_neg (fun h => hc h.1)]
        rw [splA_bad t (acc ++ [c]) (by simp [List.all_append, hw])]
        rfl
def blank : ByteArray := ⟨#[32]⟩
theorem blank_size : blank.size = 1 := rfl
theorem indexB_blank (s : ByteArray) : Lib.indexB s blank = Lib.indexByte s.data.toList 32 := Lib.index_one s.data.toList 32
theorem split_law : ∀ (n : Nat) (s : ByteArray), s.size ≤ n → Lib.splitB blank 0 (Lib.countB s blank) s = (splA [] s.data.toList).map toB
  | n, s, hn => by
    rcases Lib.indexB_cases s blank with h | ⟨i, h, hi⟩
    · rw [Lib.countB_miss s blank h, Lib.splitB_zero]
      rw [indexB_blank] at h
      have hno : ∀ c ∈ s.data.toList, c ≠ 32 := by
        intro c hc e
        obtain ⟨k, hk⟩ := List.mem_iff_getElem?.1 hc
        exact Lib.indexByte_none h k (by rw [hk, e])
      have := splA_pre [] s.data.toList [] hno
      rw [List.append_nil] at this
      rw [this]
      simp [splA, toB_data]
    · rw [blank_size] at hi
      rw [Lib.countB_hit s blank i (by rw [blank_size]; omega) h, Nat.add_comm 1, Lib.splitB_hit blank 0 _ s i h, blank_size, Nat.add_zero]
      rw [indexB_blank] at h
      obtain ⟨h1, h2⟩ := Lib.indexByte_some h
      have hno : ∀ c ∈ s.data.toList.take i, c ≠ 32 := by
        intro c hc e
        obtain ⟨k, hk⟩ := List.mem_iff_getElem?.1 hc
        have hki : k < i := by
          have := (List.getElem?_eq_some_iff.1 hk).1
          simp at this
          omega
        rw [List.getElem?_take, if_pos hki] at hk
        exact h2 k hki (by rw [hk, e])
      have e1 : (s.extract 0 i).data.toList = s.data.toList.take i := by rw [data_extract]; simp
      have e2 : (s.extract (i + 1) s.size).data.toList = s.data.toList.drop (i + 1) := by
        rw [data_extract]
        exact List.take_of_length_le (by simp)
      match n, hn with
      | 0, hn => omega
      | n + 1, hn =>
        rw [split_law n (s.extract (i + 1) s.size) (by simp; omega), e2]
        conv => rhs; rw [take_drop_at h1]
        rw [splA_pre _ _ _ hno]
        simp only [List.nil_append, splA, if_pos, List.map_cons]
        rw [← e1, toB_data]
def pcs (s : ByteArray) : List ByteArray := (splA [] s.data.toList).map toB
theorem splA_size : ∀ (l acc x : List UInt8), x ∈ splA acc l → x.length ≤ acc.length + l.length
  | [], acc, x, h => by simp [splA] at h; subst h; simp
  | c :: t, acc, x, h => by
    unfold splA at h
    split at h
    · rcases List.mem_cons.1 h with h | h
      · subst h; simp
      · have := splA_size t [] x h
        simp at this ⊢; omega
    · have := splA_size t (acc ++ [c]) x h
      simp at this ⊢; omega
theorem pcs_size {s x : ByteArray} (h : x ∈ pcs s) : x.size ≤ s.size := by
  unfold pcs at h
  obtain ⟨l, hl, rfl⟩ := List.mem_map.1 h
  have := splA_size _ _ _ hl
  have hl2 : s.data.toList.length = s.size := by simp
  rw [hl2] at this
  show l.toArray.size ≤ s.size
  rw [List.size_toArray]
  simpa using this
def okB (x : ByteArray) : Bool := okW x.data.toList
theorem wdB_pcs (s : ByteArray) : wdB s = if (pcs s).all okB then some (pcs s) else none := by
  unfold wdB pcs
  rw [wdsA_splA _ _ rfl]
  have e : ((splA [] s.data.toList).map toB).all okB = (splA [] s.data.toList).all okW := by
    rw [List.all_map]; rfl
  rw [e]
  split <;> rfl
theorem pcs_split (s : ByteArray) : Lib.splitB blank 0 (Lib.countB s blank) s = pcs s := split_law s.size s (Nat.le_refl _)
theorem pcs_len (s : ByteArray) : (pcs s).length = Lib.countB s blank + 1 := by
  rw [← pcs_split, Lib.splitB_all blank (by rw [blank_size]; omega) 0 _ s rfl]
theorem okB_iff (x : ByteArray) : okB x = true ↔ 0 < x.size ∧ ∀ (i : Nat) (h : i < x.size), 33 ≤ ((x[i]).toNat : Int) ∧ ((x[i]).toNat : Int) ≤ 126 := by
  have hl : x.data.toList.length = x.size := by simp
  unfold okB okW
  rw [Bool.and_eq_true, List.all_eq_true]
  constructor
  · rintro ⟨h1, h2⟩
    refine ⟨?_, fun i h => ?_⟩
    · rcases Nat.eq_zero_or_pos x.size with h | h
      · have e : x.data.toList = [] := List.length_eq_zero_iff.1 (hl.trans h)
        rw [e] at h1; simp at h1
      · exact h
    · have := h2 x[i] (by rw [List.mem_iff_getElem]; exact ⟨i, by omega, rfl⟩)
      unfold wrdB at this
      simpa using this
  · rintro ⟨h1, h2⟩
    refine ⟨?_, fun c hc => ?_⟩
    · cases h : x.data.toList with
      | nil => rw [h] at hl; simp at hl; omega
      | cons => rfl
    · obtain ⟨i, hi, rfl⟩ := List.mem_iff_getElem.1 hc
      have := h2 i (by omega)
      unfold wrdB
      rw [Bool.and_eq_true, decide_eq_true_eq, decide_eq_true_eq]
      exact this
end Go.Proofs.YtknmngejjoohdaaGreatDoor
namespace Go.Proofs.YtknmngejjoohdaaGreatDoor
open Go.ChangeShapes Go.WideShapes Go.ChangeAt Go.RowKit
set_option linter.unusedVariables false
set_option linter.unusedSimpArgs false

def dgs (n : Int) : ByteArray := ⟨(Lib.itoa n).toArray⟩
theorem itoa_small {n : Int} (h0 : 0 ≤ n) (h1 : n < 10) : dgs n = ⟨#[UInt8.ofNat (48 + n).toNat]⟩ := by
  unfold dgs Lib.itoa
  rw [if_neg (by omega), Lib.decDigits, dif_pos (by omega)]
  rw [show (48 + n).toNat = 48 + n.toNat from by omega]
theorem itoa_big {n : Int} (h : 10 ≤ n) : dgs n = dgs (n / 10) ++ ⟨#[UInt8.ofNat (48 + n % 10).toNat]⟩ := by
  unfold dgs Lib.itoa
  rw [if_neg (by omega), if_neg (by omega), Lib.decDigits, dif_neg (by omega)]
  rw [show (48 + n % 10).toNat = 48 + n.toNat % 10 from by omega, show (n / 10).toNat = n.toNat / 10 from by omega]
  apply ByteArray.ext
  simp
end Go.Proofs.YtknmngejjoohdaaGreatDoor
namespace Go.Proofs.YtknmngejjoohdaaGreatDoor
open Go.ChangeShapes Go.WideShapes Go.ChangeAt Go.RowKit
set_option linter.unusedVariables false
set_option linter.unusedSimpArgs false

theorem bt_app (a b : ByteArray) (i : Nat) : bt (a ++ b) i = if i < a.size then bt a i else bt b (i - a.size) := by
  unfold bt
  have e : (a ++ b).data.toList = a.data.toList ++ b.data.toList := by simp [ByteArray.data_append]
  have hl : a.data.toList.length = a.size := by simp
  rw [e, List.getD_eq_getElem?_getD, List.getElem?_append, hl]
  by_cases h : i < a.size
  · rw [if_pos h, if_pos h, List.getD_eq_getElem?_getD]
  · rw [if_neg h, if_neg h, List.getD_eq_getElem?_getD]
theorem size_app (a b : ByteArray) : (a ++ b).size = a.size + b.size := ByteArray.size_append
theorem bt_one (x : UInt8) : bt ⟨#[x]⟩ 0 = (x.toNat : Int) := rfl
theorem nvB_app (a b : ByteArray) : ∀ k, k ≤ a.size → nvB (a ++ b) k = nvB a k
  | 0, _ => rfl
  | k + 1, h => by
    simp only [nvB]
    rw [nvB_app a b k (by omega), bt_app, if_pos (by omega)]
theorem dg_byte (d : Int) (h0 : 0 ≤ d) (h1 : d < 10) : ((UInt8.ofNat (48 + d).toNat).toNat : Int) = 48 + d := by
  rw [UInt8.toNat_ofNat_of_lt' (by show (48 + d).toNat < 256; omega)]
  omega
theorem dgs_spec : ∀ (k : Nat) (n : Int), 0 ≤ n → n < 10 ^ (k + 1) →
    1 ≤ (dgs n).size ∧ (dgs n).size ≤ k + 1 ∧ (∀ i, i < (dgs n).size → 48 ≤ bt (dgs n) i ∧ bt (dgs n) i ≤ 57) ∧ nvB (dgs n) (dgs n).size = n ∧ (n < 10 → (dgs n).size = 1) ∧ (0 < n → bt (dgs n) 0 ≠ 48) := by
  intro k
  induction k with
  | zero =>
    intro n h0 h1
    have h1' : n < 10 := by simpa using h1
    have hd := dg_byte n h0 h1'
    have hs : (⟨#[UInt8.ofNat (48 + n).toNat]⟩ : ByteArray).size = 1 := rfl
    rw [itoa_small h0 h1']
    refine ⟨by rw [hs]; omega, by rw [hs]; omega, ?_, ?_, fun _ => hs, ?_⟩
    · intro i hi
      rw [hs] at hi
      obtain rfl : i = 0 := by omega
      rw [bt_one, hd]; omega
    · rw [hs]
      simp only [nvB]
      rw [bt_one, hd]; omega
    · intro hn
      rw [bt_one, hd]; omega
  | succ k ih =>
    intro n h0 h1
    by_cases hs : n < 10
    · have hd := dg_byte n h0 hs
      have hz : (⟨#[UInt8.ofNat (48 + n).toNat]⟩ : ByteArray).size = 1 := rfl
      rw [itoa_small h0 hs]
      refine ⟨by rw [hz]; omega, by rw [hz]; omega, ?_, ?_, fun _ => hz, ?_⟩
      · intro i hi
        rw [hz] at hi
        obtain rfl : i = 0 := by omega
        rw [bt_one, hd]; omega
      · rw [hz]
        simp only [nvB]
        rw [bt_one, hd]; omega
      · intro hn
        rw [bt_one, hd]; omega
    · have e : (10 : Int) ^ (k + 1 + 1) = 10 * 10 ^ (k + 1) := by rw [Int.pow_succ, Int.mul_comm]
      obtain ⟨a1, a2, a3, a4, a5, a6⟩ := ih (n / 10) (by omega) (by omega)
      have hd := dg_byte (n % 10) (by omega) (by omega)
      have hz : (⟨#[UInt8.ofNat (48 + n % 10).toNat]⟩ : ByteArray).size = 1 := rfl
      rw [itoa_big (by omega)]
      have hsz : (dgs (n / 10) ++ ⟨#[UInt8.ofNat (48 + n % 10).toNat]⟩).size = (dgs (n / 10)).size + 1 := by rw [size_app, hz]
      refine ⟨by rw [hsz]; omega, by rw [hsz]; omega, ?_, ?_, fun h => absurd h hs, ?_⟩
      · intro i hi
        rw [hsz] at hi
        rw [bt_app]
        by_cases hj : i < (dgs (n / 10)).size
        · rw [if_pos hj]; exact a3 i hj
        · rw [if_neg hj, show i - (dgs (n / 10)).size = 0 from by omega, bt_one, hd]; omega
      · rw [hsz]
        simp only [nvB]
        rw [nvB_app _ _ _ (Nat.le_refl _), a4, bt_app, if_neg (by omega), Nat.sub_self, bt_one, hd]; omega
      · intro hn
        rw [bt_app, if_pos (by omega)]
        exact a6 (by omega)
def wordB (x : ByteArray) : Prop := x.data.toList ≠ [] ∧ ∀ c ∈ x.data.toList, wrdB c = true
theorem wordB_of {x : ByteArray} (h0 : x.size ≠ 0) (h : ∀ j, j < x.size → 33 ≤ bt x j ∧ bt x j ≤ 126) : wordB x := by
  refine ⟨fun e => h0 (by have := congrArg List.length e; rw [show ∀ x : ByteArray, x.data.toList.length = x.size from fun x => by simp] at this; exact this), ?_⟩
  intro c hc
  obtain ⟨i, hi, he⟩ := List.mem_iff_getElem.1 hc
  have hi' : i < x.size := by simpa using hi
  have hb := h i hi'
  rw [bt_get x i hi'] at hb
  have : x[i] = c := he
  rw [this] at hb
  unfold wrdB
  simp only [Bool.and_eq_true, decide_eq_true_eq]
  exact hb
theorem wdsA_pre (t : List UInt8) : ∀ (p acc : List UInt8), (∀ c ∈ p, wrdB c = true) → wdsA acc (p ++ t) = wdsA (acc ++ p) t
  | [], acc, _ => by simp
  | c :: p, acc, h => by
    have hc : wrdB c = true := h c (by simp)
    rw [List.cons_append, wdsA, if_pos hc, wdsA_pre t p _ fun d hd => h d (by simp [hd])]
    simp
theorem w32 : wrdB 32 = false := by decide
theorem wdsA_blank (acc t : List UInt8) (h : acc ≠ []) : wdsA acc (32 :: t) = (wdsA [] t).map (acc :: ·) := by
  rw [wdsA, if_neg (by rw [w32]; exact Bool.false_ne_true), if_pos ⟨rfl, h⟩]
def jnW (L : List ByteArray) : ByteArray := ⟨(Lib.join (L.map (·.data.toList)) [32]).toArray⟩
theorem join_cons (a : List UInt8) (r : List (List UInt8)) (sep : List UInt8) (h : r ≠ []) : Lib.join (a :: r) sep = a ++ sep ++ Lib.join r sep := by
  unfold Lib.join
  cases r with
  | nil => exact absurd rfl h
  | cons b t => simp [List.intercalate, List.intersperse]
theorem wdsA_join : ∀ (L : List ByteArray) (b : ByteArray), wordB b → (∀ x ∈ L, wordB x) → wdsA [] (Lib.join ((b :: L).map (·.data.toList)) [32]) = some ((b :: L).map (·.data.toList))
  | [], b, hb, _ => by
    show wdsA [] (Lib.join [b.data.toList] [32]) = some [b.data.toList]
    rw [Lib.join_one]
    have := wdsA_pre [] b.data.toList [] hb.2
    rw [List.append_nil, List.nil_append] at this
    rw [this, wdsA, if_neg hb.1]
  | a :: t, b, hb, h => by
    have ih := wdsA_join t a (h a (List.mem_cons_self ..)) (fun x hx => h x (List.mem_cons_of_mem _ hx))
    show wdsA [] (Lib.join (b.data.toList :: ((a :: t).map (·.data.toList))) [32]) = _
    rw [join_cons _ _ _ (by simp), List.append_assoc, wdsA_pre _ _ _ hb.2, List.nil_append]
    show wdsA b.data.toList (32 :: Lib.join ((a :: t).map (·.data.toList)) [32]) = _
    rw [wdsA_blank _ _ hb.1, ih]; rfl
theorem wdB_jnW (L : List ByteArray) (hL : L ≠ []) (h : ∀ x ∈ L, wordB x) : wdB (jnW L) = some L := by
  cases L with
  | nil => exact absurd rfl hL
  | cons b t =>
    unfold wdB jnW
    show (wdsA [] (Lib.join ((b :: t).map (·.data.toList)) [32])).map (·.map toB) = _
    rw [wdsA_join t b (h b (List.mem_cons_self ..)) (fun x hx => h x (List.mem_cons_of_mem _ hx))]
    show some (((b :: t).map (·.data.toList)).map toB) = _
    rw [List.map_map]
    have : (toB ∘ fun x : ByteArray => x.data.toList) = id := by funext x; exact toB_data x
    rw [this, List.map_id]
theorem jnW_cons (b a : ByteArray) (t : List ByteArray) : jnW (b :: a :: t) = b ++ ⟨#[32]⟩ ++ jnW (a :: t) := by
  apply ByteArray.ext
  apply Array.toList_inj.1
  show (Lib.join (b.data.toList :: ((a :: t).map (·.data.toList))) [32]) = _
  rw [join_cons _ _ _ (by simp)]
  simp [ByteArray.data_append, jnW]
theorem num_dgs (k : Nat) (n : Int) (h0 : 0 ≤ n) (h1 : n < 10 ^ (k + 1)) (hk : k + 1 ≤ 9) : numB (dgs n) ((k : Int) + 1) = true ∧ numN (dgs n) ((k : Int) + 1) = n := by
  obtain ⟨a1, a2, a3, a4, a5, a6⟩ := dgs_spec k n h0 h1
  have hb : numB (dgs n) ((k : Int) + 1) = true := by
    refine (numB_iff _ _).2 ⟨by omega, by omega, by omega, by omega, ?_, a3⟩
    rintro ⟨p, q⟩
    by_cases hv : n < 10
    · have := a5 hv; omega
    · exact a6 (by omega) q
  exact ⟨hb, by unfold numN; rw [hb, if_pos rfl]; exact a4⟩
theorem dgs_word (n : Int) (h0 : 0 ≤ n) (h1 : n < 1000000000) : wordB (dgs n) := by
  obtain ⟨a1, a2, a3, -⟩ := dgs_spec 8 n h0 (by simpa using h1)
  exact wordB_of (by omega) fun j hj => by have := a3 j hj; omega
end Go.Proofs.YtknmngejjoohdaaGreatDoor
namespace Go.Proofs.YtknmngejjoohdaaGreatDoor
open Go.ChangeShapes Go.WideShapes Go.ChangeAt Go.RowKit
set_option linter.unusedVariables false
set_option linter.unusedSimpArgs false

def winB (n lo hi : Int) : Bool := decide (lo ≤ n) && decide (n ≤ hi)
def mayB (nm : ByteArray) (l t a b : Int) : Bool := nmB nm && winB l 1 4000 && winB t 1 60 && winB a 1 10 && winB b 1 10
end Go.Proofs.YtknmngejjoohdaaGreatDoor
namespace Go.Proofs.YtknmngejjoohdaaGreatDoor
open Go.ChangeShapes Go.WideShapes Go.ChangeAt Go.RowKit
set_option linter.unusedVariables false
set_option linter.unusedSimpArgs false

theorem vals_at {w : World} {A : List ByteArray} {a : Option Addr} {c : Nat} (h : IsVals w (.slice a A.length c) (A.map Value.string)) (k : Nat) (hk : k < A.length) :
    ∃ b o, a = some ⟨b, o, none⟩ ∧ b < w.heap.size ∧ w.cell? ⟨b, o + k, none⟩ = some (.string A[k]) := by
  obtain ⟨a', c', e, _, hx⟩ := h
  simp only [Value.slice.injEq] at e
  obtain ⟨rfl, -, rfl⟩ := e
  rcases hx with hx | ⟨b, o, rfl, hb, hc⟩
  · exfalso
    have := congrArg List.length hx
    simp at this
    rw [this] at hk
    simp at hk
  · exact ⟨b, o, rfl, hb, hc k _ (by rw [List.getElem?_map, List.getElem?_eq_getElem hk]; rfl)⟩
theorem str_ne {a b : ByteArray} (h : ¬ a = b) : (a.toList == b.toList) = false := by
  rw [beq_eq_false_iff_ne]
  intro e
  rw [ByteArray.toList_eq, ByteArray.toList_eq] at e
  exact h (ByteArray.ext (Array.toList_inj.1 e))
end Go.Proofs.YtknmngejjoohdaaGreatDoor
namespace Go.Proofs.YtknmngejjoohdaaGreatDoor
open Go.ChangeShapes Go.WideShapes Go.ChangeAt Go.RowKit
set_option linter.unusedVariables false
set_option linter.unusedSimpArgs false

def RetW (w : World) (o : Option (List ByteArray)) (e : Ending) (w' : World) : Prop :=
  ∃ v, e = .returned (.tuple #[v, .bool o.isSome]) ∧ IsVals w' v ((o.getD []).map Value.string) ∧ Gr w w'
theorem RetW.no {w w' : World} {o : Option (List ByteArray)} (h : o = none) (g : Gr w w') : RetW w o (.returned (.tuple #[.slice none 0 0, .bool false])) w' := by
  subst h
  exact ⟨_, rfl, ⟨none, 0, rfl, by simp, .inl rfl⟩, g⟩
theorem RetW.yes {w w' : World} {o : Option (List ByteArray)} {L : List ByteArray} {v : Value} (h : o = some L) (hv : IsVals w' v (L.map Value.string)) (g : Gr w w') : RetW w o (.returned (.tuple #[v, .bool true])) w' := by
  subst h
  exact ⟨_, rfl, hv, g⟩
def CapOk (v : Value) : Prop := ∀ a n c, v = .slice a n c → n ≤ c
theorem OwnS.cap {B : Nat} {w : World} {v : Value} {L : List ByteArray} (h : OwnS B w v L) : CapOk v := by
  intro a n c e
  obtain ⟨-, h⟩ := h
  rcases h with ⟨rfl, -⟩ | ⟨g, cap, cur, rfl, -, -, hc, -⟩
  · cases e; omega
  · cases e; exact hc
def RetWc (w : World) (o : Option (List ByteArray)) (e : Ending) (w' : World) : Prop :=
  ∃ v, e = .returned (.tuple #[v, .bool o.isSome]) ∧ IsVals w' v ((o.getD []).map Value.string) ∧ CapOk v ∧ Gr w w'
theorem RetWc.no {w w' : World} {o : Option (List ByteArray)} (h : o = none) (g : Gr w w') : RetWc w o (.returned (.tuple #[.slice none 0 0, .bool false])) w' := by
  subst h
  exact ⟨_, rfl, ⟨none, 0, rfl, by simp, .inl rfl⟩, fun a n c e => by cases e; omega, g⟩
theorem RetWc.yes {w w' : World} {o : Option (List ByteArray)} {L : List ByteArray} {v : Value} (h : o = some L) (hv : IsVals w' v (L.map Value.string)) (hc : CapOk v) (g : Gr w w') : RetWc w o (.returned (.tuple #[v, .bool true])) w' := by
  subst h
  exact ⟨_, rfl, hv, hc, g⟩
theorem RetWc.drop {w w' : World} {o : Option (List ByteArray)} {e : Ending} (h : RetWc w o e w') : RetW w o e w' := by
  obtain ⟨v, h1, h2, -, h3⟩ := h
  exact ⟨v, h1, h2, h3⟩
theorem wrdB_of {c : UInt8} (h1 : 33 ≤ (c.toNat : Int)) (h2 : (c.toNat : Int) ≤ 126) : wrdB c = true := by unfold wrdB; simp; omega
theorem wrdB_no {c : UInt8} (h : ¬ (33 ≤ (c.toNat : Int) ∧ (c.toNat : Int) ≤ 126)) : wrdB c = false := by unfold wrdB; simp; omega
set_option maxRecDepth 100000 in
set_option maxHeartbeats 800000 in
theorem refWords_cap (s : ByteArray) (hs : s.size ≤ 1048576) (w : World) :
    Calls Tryz.prog 29 #[.string s] w (RetWc w (wdB s)) := by
  obtain ⟨i0, hi, hz0, hz1, hz2⟩ := info_parts Tryz.infoS
  go_enter Tryz.func29, Tryz.ntmps29
  go_wp2
  go_loopw [4, 5, 6] (fun v f i wr => ∃ (V : Value) (F I : Nat) (L : List ByteArray), V = v ∧ f = .int .i64 F ∧ i = .int .i64 I ∧ F ≤ I ∧ I ≤ s.size + 1 ∧ L.length ≤ I ∧ OwnS w.heap.size wr V L ∧ Hid ((I ≤ s.size ∧ (wdR s F I).map (L ++ ·) = wdB s) ∨ (I = s.size + 1 ∧ wdB s = some L)) ∧ Gr w wr) (fun _ _ i _ => s.size + 1 - (intOf i).toNat)
  case atStart => exact ⟨_, 0, 0, [], rfl, rfl, rfl, by omega, by omega, by simp, OwnS.nil _ _, .inl ⟨by omega, by rw [wdR_start]; cases wdB s <;> rfl⟩, Gr.refl _⟩
  case round =>
    obtain ⟨v, F, I, L, rfl, rfl, rfl, r1, r2, r3, ho, HL, g⟩ := hrel
    have HO : Hid (wr.ownsRow w.heap.size 9 1 v L.length (L.map Value.string)) := ho
    have g' := g
    have hF : (F : Int) ≤ (I : Int) := by omega
    by_cases hlt : I < s.size
    · have hI : (I : Int) < (s.size : Int) := by omega
      have HW : Hid ((wdR s F I).map (L ++ ·) = wdB s) := by
        rcases HL.out with h | h
        · exact h.2
        · exfalso; omega
      clear HL
      by_cases hw : 33 ≤ (s[I].toNat : Int) ∧ (s[I].toNat : Int) ≤ 126
      · have HN : Hid ((I + 1 ≤ s.size ∧ (wdR s F (I + 1)).map (L ++ ·) = wdB s) ∨ (I + 1 = s.size + 1 ∧ wdB s = some L)) := by
          left
          refine ⟨by omega, ?_⟩
          rw [← HW.out, wdR_step s F I r1 hlt (wrdB_of hw.1 hw.2)]
        obtain ⟨hw1, hw2⟩ := hw
        clear HW ho
        go_wp2
        go_roundw
        case rel => exact ⟨_, F, I + 1, L, rfl, rfl, by go_num, by omega, by omega, by omega, HO.out, HN, g⟩
        case measure => simp [intOf]; omega
      · by_cases hb : F = I ∨ s[I] ≠ 32
        · have HN : Hid (wdB s = none) := by
            unfold Hid
            rw [← HW.out, wdR_bad s F I r1 hlt (wrdB_no hw) hb]; rfl
          have ht : ((I : Int) == (F : Int)) = true ∨ (((I : Int) == (F : Int)) = false ∧ ((s[I].toNat : Int) != 32) = true) := by
            rcases Classical.em (F = I) with e | e
            · left; simp [e]
            · right
              refine ⟨by simp; omega, ?_⟩
              rcases hb with hb | hb
              · exact absurd hb e
              · rw [bne_iff_ne]
                intro h
                apply hb
                apply UInt8.toNat_inj.1
                have : (32 : UInt8).toNat = 32 := rfl
                omega
          have hw' : ¬ 33 ≤ (s[I].toNat : Int) ∨ ¬ (s[I].toNat : Int) ≤ 126 := by
            rcases Classical.em (33 ≤ (s[I].toNat : Int)) with h | h
            · right; intro h2; exact hw ⟨h, h2⟩
            · exact .inl h
          clear HW ho hb hw
          rcases hw' with hw' | hw'
          all_goals
            rcases ht with ht | ⟨ht, ht2⟩
            all_goals
              go_wp2
              all_goals go_ret2
              all_goals exact RetWc.no HN.out g
        · have hFI : F < I := by
            have : F ≠ I := fun e => hb (.inl e)
            omega
          have h32 : s[I] = 32 := Classical.byContradiction fun e => hb (.inr e)
          have HN : Hid ((I + 1 ≤ s.size ∧ (wdR s (I + 1) (I + 1)).map ((L ++ [s.extract F I]) ++ ·) = wdB s) ∨ (I + 1 = s.size + 1 ∧ wdB s = some (L ++ [s.extract F I]))) := by
            left
            refine ⟨by omega, ?_⟩
            rw [← HW.out, wdR_blank s F I hFI hlt h32]
            cases wdR s (I + 1) (I + 1) <;> simp
          have t1 : ((I : Int) == (F : Int)) = false := by simp; omega
          have t2 : ((s[I].toNat : Int) != 32) = false := by rw [h32]; rfl
          have t3 : ¬ 33 ≤ (s[I].toNat : Int) := by rw [h32]; decide
          clear HW ho hb hw h32
          go_wp2_with (first | (at_builtin; refine wpList_append_own _ rfl _ _ 57 rfl w.heap.size 9 i0 (.string ByteArray.empty) 1 16 Tryz.underlying57 hi hz0 hz1 hz2 rfl (by decide) _ _ _ rfl (HO.out.alloc _) ⟨wr.heap.size, 0, none⟩ 1 1 [.string (s.extract F I)] rfl rfl ?c1 ?c2 ?c3 ?c4 ?c5 ?_))
          all_goals try (case c1 => exact cell_one_new _ _ _)
          case c2 => simp [Value.oneCell']
          case c3 => unfold maxLen; omega
          case c4 => omega
          case c5 => have := g.size; simp; omega
          intro v' w1 hown' hgrow _
          have hg1 : Gr w w1 := Gr.grown (g'.alloc _) hgrow HO.out
          have ho1 : OwnS w.heap.size w1 v' (L ++ [s.extract F I]) := OwnS.snoc hown'
          clear hown' hgrow HO
          go_wp2
          go_roundw
          case rel => exact ⟨_, I + 1, I + 1, L ++ [s.extract F I], rfl, by go_num, by go_num, by omega, by omega, by simp; omega, ho1, HN, hg1⟩
          case measure => simp [intOf]; omega
    · by_cases hie : I = s.size
      · subst hie
        have HW : Hid ((wdR s F s.size).map (L ++ ·) = wdB s) := by
          rcases HL.out with h | h
          · exact h.2
          · exfalso; omega
        have hE := wdR_end s F r1
        clear HL
        by_cases hf : F < s.size
        · have HN : Hid (wdB s = some (L ++ [s.extract F s.size])) := by
            unfold Hid
            rw [← HW.out, hE, if_pos hf]; rfl
          have t1 : ((s.size : Int) == (F : Int)) = false := by simp; omega
          clear HW hE ho
          go_wp2_with (first | (at_builtin; refine wpList_append_own _ rfl _ _ 57 rfl w.heap.size 9 i0 (.string ByteArray.empty) 1 16 Tryz.underlying57 hi hz0 hz1 hz2 rfl (by decide) _ _ _ rfl (HO.out.alloc _) ⟨wr.heap.size, 0, none⟩ 1 1 [.string (s.extract F s.size)] rfl rfl ?d1 ?d2 ?d3 ?d4 ?d5 ?_))
          all_goals try (case d1 => exact cell_one_new _ _ _)
          case d2 => simp [Value.oneCell']
          case d3 => unfold maxLen; omega
          case d4 => omega
          case d5 => have := g.size; simp; omega
          intro v' w1 hown' hgrow _
          have hg1 : Gr w w1 := Gr.grown (g'.alloc _) hgrow HO.out
          have ho1 : OwnS w.heap.size w1 v' (L ++ [s.extract F s.size]) := OwnS.snoc hown'
          clear hown' hgrow HO
          go_wp2
          go_roundw
          case rel => exact ⟨_, s.size + 1, s.size + 1, L ++ [s.extract F s.size], rfl, by go_num, by go_num, by omega, by omega, by simp; omega, ho1, .inr ⟨rfl, HN.out⟩, hg1⟩
          case measure => simp [intOf]
        · have HN : Hid (wdB s = none) := by
            unfold Hid
            rw [← HW.out, hE, if_neg hf]; rfl
          have t1 : ((s.size : Int) == (F : Int)) = true := by simp; omega
          clear HW hE ho
          go_wp2
          go_ret2
          exact RetWc.no HN.out g
      · have HN : Hid (wdB s = some L) := by
          rcases HL.out with h | h
          · exfalso; omega
          · exact h.2
        have hv := ho.vals (by unfold maxLen; omega)
        have HCap := Lib.hid ho.cap
        clear HL ho
        go_wp2
        go_ret2
        exact RetWc.yes HN.out hv HCap.out g
theorem refWords_any (s : ByteArray) (hs : s.size ≤ 1048576) (w : World) :
    Calls Tryz.prog 29 #[.string s] w (RetW w (wdB s)) := (refWords_cap s hs w).mono fun _ _ h => h.drop
end Go.Proofs.YtknmngejjoohdaaGreatDoor
namespace Go.Proofs.YtknmngejjoohdaaGreatDoor
open Go.ChangeShapes Go.WideShapes Go.ChangeAt Go.RowKit Go.Maps
set_option linter.unusedVariables false
set_option linter.unusedSimpArgs false
instance : Inhabited Stk := ⟨⟨ByteArray.empty, 0, 0, 0, 0⟩⟩
def Stk.v (s : Stk) : Value := .agg #[.string s.nm, .int .i64 s.l, .int .i64 s.t, .int .i64 s.a, .int .i64 s.b]
def Stk.cs (s : Stk) : List Value := [.string s.nm, .int .i64 s.l, .int .i64 s.t, .int .i64 s.a, .int .i64 s.b]
def Stk.c (s : Stk) (j : Nat) : Value := if j = 0 then .string s.nm else if j = 1 then .int .i64 s.l else if j = 2 then .int .i64 s.t else if j = 3 then .int .i64 s.a else .int .i64 s.b
def IsStks (w : World) (v : Value) (l : List Stk) : Prop := IsRow w v 5 l.length (fun i j => (l.getD i default).c j) ∧ CapOk v
theorem IsStks.gr {w w' : World} {v : Value} {l : List Stk} (h : IsStks w v l) (g : Gr w w') : IsStks w' v l := ⟨IsRow.gr h.1 g, h.2⟩
theorem IsStks.at {w : World} {a : Option Addr} {c m : Nat} {l : List Stk} (h : IsStks w (.slice a m c) l) (i : Nat) (hi : i < l.length) :
    ∃ b o, a = some ⟨b, o, none⟩ ∧ b < w.heap.size ∧ w.cell? ⟨b, o + i * 5, none⟩ = some (.string l[i].nm) ∧ w.cell? ⟨b, o + i * 5 + 1, none⟩ = some (.int .i64 l[i].l) ∧ w.cell? ⟨b, o + i * 5 + 2, none⟩ = some (.int .i64 l[i].t) ∧ w.cell? ⟨b, o + i * 5 + 3, none⟩ = some (.int .i64 l[i].a) ∧ w.cell? ⟨b, o + i * 5 + 4, none⟩ = some (.int .i64 l[i].b) := by
  obtain ⟨b, o, rfl, hb, hc⟩ := IsRow.at h.1 i hi
  simp only [getD_at l i hi] at hc
  exact ⟨b, o, rfl, hb, hc 0 (by omega), hc 1 (by omega), hc 2 (by omega), hc 3 (by omega), hc 4 (by omega)⟩
theorem IsStks.nil (w : World) : IsStks w (.slice none 0 0) [] := ⟨⟨none, 0, rfl, by simp, .inl rfl⟩, fun a n c e => by cases e; omega⟩
def mayS (s : Stk) : Bool := mayB s.nm s.l s.t s.a s.b
def plainE (l : List Stk) : Int := if 4 < l.length then 3 else if l.all mayS = false then 1 else if twiceB (l.map (·.nm)) then 4 else 0
theorem nodup_iff_lt {α : Type} : ∀ (l : List α), l.Nodup ↔ ∀ i k (hi : i < l.length) (hk : k < i), l[i] ≠ l[k]'(by omega)
  | l => by
    rw [List.nodup_iff_pairwise_ne, List.pairwise_iff_getElem]
    exact ⟨fun h i k hi hk e => h k i (by omega) hi hk e.symm, fun h i j hi hj hij e => h j i hj hij e.symm⟩
theorem twiceS_yes {l : List Stk} {i k : Nat} (hi : i < l.length) (hk : k < i) (h : l[k].nm = l[i].nm) : twiceB (l.map (·.nm)) = true := by
  unfold twiceB
  simp only [Bool.not_eq_true', decide_eq_false_iff_not]
  intro hn
  rw [nodup_iff_lt] at hn
  exact hn i k (by simpa using hi) hk (by simpa using h.symm)
theorem twiceS_no {l : List Stk} (h : ∀ i k (hi : i < l.length) (hk : k < i), l[k].nm ≠ l[i].nm) : twiceB (l.map (·.nm)) = false := by
  unfold twiceB
  simp only [Bool.not_eq_false', decide_eq_true_eq]
  rw [nodup_iff_lt]
  intro i k hi hk e
  exact h i k (by simpa using hi) hk (by simpa using e.symm)
theorem allS_good {l : List Stk} (h : ∀ k (hk : k < l.length), mayS l[k] = true) : l.all mayS = true := by
  rw [List.all_eq_true]
  intro x hx
  obtain ⟨k, hk, rfl⟩ := List.getElem_of_mem hx
  exact h k hk
end Go.Proofs.YtknmngejjoohdaaGreatDoor
namespace Go.Proofs.YtknmngejjoohdaaGreatDoor
open Go.ChangeShapes Go.WideShapes Go.ChangeAt Go.RowKit Go.Maps
set_option linter.unusedVariables false
theorem fst_self {α : Type} {l : List α} {f : α → ByteArray} (hn : (l.map f).Nodup) (i : Nat) (hi : i < l.length) : fstN (fun s => decide (f s = f l[i])) l = i := by
  rw [nodup_iff_lt] at hn
  refine fstN_go _ hi (by simp) fun k hk hki => ?_
  rw [decide_eq_false_iff_not]
  have := hn i k (by simpa using hi) hki
  intro e
  exact this (by simpa using e.symm)
theorem twiceB_nodup {l : List ByteArray} (h : twiceB l = false) : l.Nodup := by
  unfold twiceB at h
  simpa using h
theorem fine_names {P : Pln} (h : chk P = 0) : (P.es.map (·.n)).Nodup ∧ (P.ss.map (·.n)).Nodup ∧ (∀ s ∈ P.ss, nmB s.n = true) ∧ ∀ e ∈ P.es, nmB e.n = true := by
  have h0 := h
  unfold chk at h
  split at h
  · omega
  split at h
  · omega
  split at h
  · omega
  rename_i h1 h2 h3
  simp only [Bool.or_eq_true, not_or, Bool.not_eq_true] at h3
  refine ⟨twiceB_nodup h3.1.1, twiceB_nodup h3.1.2, ?_, fun e he => (fine_ele h0 e he).1⟩
  have ha := (fine_parts h0).1
  rw [argsB_eq] at ha
  simp only [Bool.and_eq_true, List.all_eq_true] at ha
  exact ha.1.2
end Go.Proofs.YtknmngejjoohdaaGreatDoor
namespace Go.Proofs.YtknmngejjoohdaaGreatDoor
set_option linter.unusedVariables false
def eleN (P : Pln) (n : ByteArray) : Int := fstN (fun e => decide (e.n = n)) P.es
end Go.Proofs.YtknmngejjoohdaaGreatDoor
