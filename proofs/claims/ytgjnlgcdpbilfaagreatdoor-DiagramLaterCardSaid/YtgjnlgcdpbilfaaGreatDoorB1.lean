/- Util: Small lemmas of no program: endings, bytes of a string, two-byte conversions.
WrdP: Lines and words: plain. No program.
WrdQ: Words: the split at blanks is the words, or there are none. No program.
DgsP: Digits: plain. No program.
NumP: Numbers of so many digits: plain. No program.
TxtP: Numbers and words as texts, there and back: plain. No program.
NamP: Names: plain. No program.
Nam1: The reference's Name.
PacP: Pace: the plain functions of speeds. No program.
Pac1s: Pace: held, may, Next and the reference's.
PacM: Pace: the reference's May.
OpnP: Opening a struct of five fields by value (out of the guide's page on structs). No program.
PlnP: Plans as data; what a slice of structs holds. No walk.
Pln1: The plan's small readers of the document's answer: kind, Length, has, Ends. -/
import Derived.WalkKit
import Derived.ProofKit
import Derived.OpenShut
import Derived.ShutString
import Derived.IntWalk
import Derived.Outline
import Derived.WalkSpells
import Derived.WalkLawsBesides
import Derived.Deep.QuietTactic
import Derived.BigQuiet
import Derived.Laws.IdiomStrings
import Derived.Lib.Hide
import Derived.Below
import Derived.WalkSmall
import Derived.Lib.SplitLaws
import Derived.Lib.IndexLaws
import Derived.Lib.IndexBytes
import Derived.Lib.ItoaNum
import Derived.Lib.Join
import Derived.Test.YtgjnlgcdpbilfaaGreatDoorRows
import Derived.Deep.RegionWith
import Derived.Lib.SmallJoins
import Derived.Deep.Slices
import Derived.Deep.Fields
import Derived.ChangeSame
namespace Go.Proofs.YtgjnlgcdpbilfaaGreatDoor
open Go.ChangeShapes Go.WideShapes Go.ChangeAt Go.RowKit
set_option linter.unusedVariables false
set_option linter.unusedSimpArgs false

theorem ret_int {k : IntKind} {a b : Int} (h : a = b) : Ending.returned (.int k a) = .returned (.int k b) := by rw [h]
theorem ret_bool {a b : Bool} (h : a = b) : Ending.returned (.bool a) = .returned (.bool b) := by rw [h]
theorem ret_str {a b : ByteArray} (h : a = b) : Ending.returned (.string a) = .returned (.string b) := by rw [h]
theorem ret_ib {k : IntKind} {a b : Int} {p q : Bool} (h : a = b) (g : p = q) : Ending.returned (.tuple #[.int k a, .bool p]) = .returned (.tuple #[.int k b, .bool q]) := by rw [h, g]
def Gr (w w' : World) : Prop := Below w.heap.size w w'
theorem Gr.refl (w : World) : Gr w w := Below.refl _ _
theorem Gr.trans {a b c : World} (h : Gr a b) (k : Gr b c) : Gr a c := Below.trans h (Below.mono k h.size)
theorem Gr.alloc {a w : World} (h : Gr a w) (o : Obj) : Gr a (w.alloc o) := Below.alloc h h.size o
theorem Gr.drew {a w : World} (h : Gr a w) : Gr a w.drew := Below.drew h
theorem Gr.drewN {a w : World} (h : Gr a w) (n : Nat) : Gr a (w.drewN n) := below_drewN h n
theorem Gr.setCell {a w : World} (h : Gr a w) {p : Addr} (hp : a.heap.size ≤ p.block) (u : Value) : Gr a (w.setCell p u) := Below.setCell h hp u
theorem Gr.cell {a w : World} (h : Gr a w) (b o : Nat) (hb : b < a.heap.size) : w.cell? ⟨b, o, none⟩ = a.cell? ⟨b, o, none⟩ := Below.cell (p := ⟨b, o, none⟩) h hb
theorem Gr.frozen {a w : World} (h : Gr a w) (b o : Nat) (hb : b < a.heap.size) : w.frozen? ⟨b, o, none⟩ = a.frozen? ⟨b, o, none⟩ := Below.frozen (p := ⟨b, o, none⟩) h hb
def bt (s : ByteArray) (i : Nat) : Int := ((s.data.toList.getD i 0).toNat : Int)
theorem bt_get (s : ByteArray) (i : Nat) (h : i < s.size) : bt s i = ((s[i]).toNat : Int) := by
  unfold bt
  have h' : i < s.data.toList.length := by simpa using h
  rw [List.getD_eq_getElem?_getD, List.getElem?_eq_getElem h']
  rfl
theorem bt_extract (s : ByteArray) (a b i : Nat) (h : a + i < b) (hb : b ≤ s.size) : bt (s.extract a b) i = bt s (a + i) := by
  unfold bt
  congr 2
  have e : (s.extract a b).data.toList = (s.data.toList.drop a).take (b - a) := by
    simp [ByteArray.data_extract]
  rw [e, List.getD_eq_getElem?_getD, List.getD_eq_getElem?_getD, List.getElem?_take, if_pos (by omega), List.getElem?_drop]
theorem conv2 {P : Program} (src dst e : TypeId) (hs : P.underlying src = some (.slice e)) (he : P.underlying e = some (.int .u8)) (hd : P.underlying dst = some .string) (a b : Int) (ha : 0 ≤ a ∧ a ≤ 255) (hb : 0 ≤ b ∧ b ≤ 255) (w : World) (t : TypeId) :
    (convert src dst (.slice (some ⟨w.heap.size, 0, none⟩) 2 2)).run P (w.alloc (.cells #[.int .u8 a, .int .u8 b] t)) = .ok (.string ⟨#[UInt8.ofNat a.toNat, UInt8.ofNat b.toNat]⟩) (w.alloc (.cells #[.int .u8 a, .int .u8 b] t)) := by
  have := run_convert_bytes_back (P := P) (w.alloc (.cells #[.int .u8 a, .int .u8 b] t)) src dst e ⟨w.heap.size, 0, none⟩ 2 [UInt8.ofNat a.toNat, UInt8.ofNat b.toNat] hs he hd (by
    intro j hj
    match j, hj with
    | 0, _ => rw [show (⟨w.heap.size, 0, none⟩ : Addr).add 0 = ⟨w.heap.size, 0, none⟩ from rfl, World.cell?_alloc_mark]; simp; omega
    | 1, _ => rw [show (⟨w.heap.size, 0, none⟩ : Addr).add 1 = ⟨w.heap.size, 1, none⟩ from rfl, World.cell?_alloc_mark]; simp; omega)
  simpa using this
end Go.Proofs.YtgjnlgcdpbilfaaGreatDoor
namespace Go.Proofs.YtgjnlgcdpbilfaaGreatDoor
open Go.ChangeShapes Go.WideShapes Go.ChangeAt Go.RowKit
set_option linter.unusedVariables false
set_option linter.unusedSimpArgs false

def toB (l : List UInt8) : ByteArray := ⟨l.toArray⟩
theorem toB_data (s : ByteArray) : toB s.data.toList = s := by
  apply ByteArray.ext; simp [toB]
theorem data_extract (s : ByteArray) (a b : Nat) : (s.extract a b).data.toList = (s.data.toList.drop a).take (b - a) := by
  simp [ByteArray.data_extract, List.extract_eq_take_drop]
def lnsA (acc : List UInt8) : List UInt8 → List (List UInt8)
  | [] => if acc = [] then [] else [acc]
  | c :: t => if c = 10 then acc :: lnsA [] t else lnsA (acc ++ [c]) t
theorem lnsA_pre (t : List UInt8) : ∀ (p acc : List UInt8), (∀ c ∈ p, c ≠ 10) → lnsA acc (p ++ t) = lnsA (acc ++ p) t
  | [], acc, _ => by simp
  | c :: p, acc, h => by
    have hc : c ≠ 10 := h c (by simp)
    simp only [List.cons_append, lnsA, if_neg hc]
    rw [lnsA_pre t p _ fun d hd => h d (by simp [hd])]
    simp
def lnB (s : ByteArray) : List ByteArray := (lnsA [] s.data.toList).map toB
theorem lnB_empty (s : ByteArray) (h : s.data.toList = []) : lnB s = [] := by unfold lnB; rw [h]; rfl
theorem lnB_none (s : ByteArray) (h : s.data.toList ≠ []) (hn : ∀ c ∈ s.data.toList, c ≠ 10) : lnB s = [s] := by
  unfold lnB
  have := lnsA_pre [] s.data.toList [] hn
  rw [List.append_nil] at this
  rw [this]
  simp only [List.nil_append, lnsA, if_neg h, List.map_cons, List.map_nil, toB_data]
theorem take_drop_at {l : List UInt8} {i : Nat} {c : UInt8} (h : l[i]? = some c) : l = l.take i ++ c :: l.drop (i + 1) := by
  have hi : i < l.length := (List.getElem?_eq_some_iff.1 h).1
  have e := List.drop_eq_getElem_cons hi
  rw [List.getElem?_eq_getElem hi] at h
  rw [Option.some.inj h] at e
  rw [← e, List.take_append_drop]
theorem lnB_at (s : ByteArray) (i : Nat) (h : s.data.toList[i]? = some 10) (hn : ∀ c ∈ s.data.toList.take i, c ≠ 10) :
    lnB s = s.extract 0 i :: lnB (s.extract (i + 1) s.size) := by
  have hi : i < s.data.toList.length := (List.getElem?_eq_some_iff.1 h).1
  have e1 : (s.extract 0 i).data.toList = s.data.toList.take i := by rw [data_extract]; simp
  have e2 : (s.extract (i + 1) s.size).data.toList = s.data.toList.drop (i + 1) := by
    rw [data_extract]
    exact List.take_of_length_le (by simp)
  unfold lnB
  rw [e2]
  conv => lhs; rw [take_drop_at h]
  rw [lnsA_pre _ _ _ hn]
  simp only [List.nil_append, lnsA, if_pos, List.map_cons]
  rw [← e1, toB_data]
def lnR (s : ByteArray) (f i : Nat) : List ByteArray := (lnsA (s.extract f i).data.toList (s.data.toList.drop i)).map toB
theorem seg_snoc (s : ByteArray) (f i : Nat) (hf : f ≤ i) (hi : i < s.size) : (s.extract f (i + 1)).data.toList = (s.extract f i).data.toList ++ [s[i]] := by
  have hl : s.data.toList.length = s.size := by simp
  rw [data_extract, data_extract, show i + 1 - f = (i - f) + 1 from by omega, List.take_add_one]
  congr 1
  rw [List.getElem?_drop, show f + (i - f) = i from by omega, List.getElem?_eq_getElem (by omega)]
  rfl
theorem drop_at (s : ByteArray) (i : Nat) (hi : i < s.size) : s.data.toList.drop i = s[i] :: s.data.toList.drop (i + 1) := by
  have hl : s.data.toList.length = s.size := by simp
  rw [List.drop_eq_getElem_cons (by omega)]
  rfl
theorem seg_nil (s : ByteArray) (f : Nat) : (s.extract f f).data.toList = [] := by rw [data_extract]; simp
theorem lnR_start (s : ByteArray) : lnR s 0 0 = lnB s := by unfold lnR lnB; rw [seg_nil]; rfl
theorem lnR_nl (s : ByteArray) (f i : Nat) (hf : f ≤ i) (hi : i < s.size) (h : s[i] = 10) : lnR s f i = s.extract f i :: lnR s (i + 1) (i + 1) := by
  unfold lnR
  rw [drop_at s i hi, seg_nil]
  simp only [lnsA, h, if_pos, List.map_cons, toB_data]
theorem lnR_step (s : ByteArray) (f i : Nat) (hf : f ≤ i) (hi : i < s.size) (h : s[i] ≠ 10) : lnR s f i = lnR s f (i + 1) := by
  unfold lnR
  rw [drop_at s i hi, seg_snoc s f i hf hi]
  simp only [lnsA, if_neg h]
theorem lnR_end (s : ByteArray) (f : Nat) (hf : f ≤ s.size) : lnR s f s.size = if f < s.size then [s.extract f s.size] else [] := by
  have hl : s.data.toList.length = s.size := by simp
  unfold lnR
  rw [List.drop_of_length_le (by omega)]
  by_cases h : f < s.size
  · have hne : (s.extract f s.size).data.toList ≠ [] := by
      intro e
      have := congrArg List.length e
      rw [data_extract] at this
      simp at this
      omega
    rw [if_pos h]
    simp only [lnsA, if_neg hne, List.map_cons, List.map_nil, toB_data]
  · rw [if_neg h, show f = s.size from by omega, seg_nil]; rfl
def wrdB (c : UInt8) : Bool := decide (33 ≤ (c.toNat : Int)) && decide ((c.toNat : Int) ≤ 126)
def wdsA (acc : List UInt8) : List UInt8 → Option (List (List UInt8))
  | [] => if acc = [] then none else some [acc]
  | c :: t => if wrdB c then wdsA (acc ++ [c]) t else if c = 32 ∧ acc ≠ [] then (wdsA [] t).map (acc :: ·) else none
def wdB (s : ByteArray) : Option (List ByteArray) := (wdsA [] s.data.toList).map (·.map toB)
end Go.Proofs.YtgjnlgcdpbilfaaGreatDoor
namespace Go.Proofs.YtgjnlgcdpbilfaaGreatDoor
open Go.ChangeShapes Go.WideShapes Go.ChangeAt Go.RowKit
set_option linter.unusedVariables false
set_option linter.unusedSimpArgs false

def splA (acc : List UInt8) : List UInt8 → List (List UInt8)
  | [] => [acc]
  | c :: t => if c = 32 then acc :: splA [] t else splA (acc ++ [c]) t
theorem splA_pre (t : List UInt8) : ∀ (p acc : List UInt8), (∀ c ∈ p, c ≠ 32) → splA acc (p ++ t) = splA (acc ++ p) t
  | [], acc, _ => by simp
  | c :: p, acc, h => by
    have hc : c ≠ 32 := h c (by simp)
    simp only [List.cons_append, splA, if_neg hc]
    rw [splA_pre t p _ fun d hd => h d (by simp [hd])]
    simp
def okW (x : List UInt8) : Bool := !x.isEmpty && x.all wrdB
theorem splA_bad : ∀ (l acc : List UInt8), acc.all wrdB = false → (splA acc l).all okW = false
  | [], acc, h => by simp [splA, okW, h]
  | c :: t, acc, h => by
    unfold splA
    split
    · simp [okW, h]
    · exact splA_bad t (acc ++ [c]) (by simp [List.all_append, h])
theorem wdsA_splA : ∀ (l acc : List UInt8), acc.all wrdB = true → wdsA acc l = if (splA acc l).all okW then some (splA acc l) else none
  | [], acc, h => by
    unfold wdsA splA
    by_cases e : acc = []
    · subst e; rfl
    · have : okW acc = true := by unfold okW; rw [h]; simp [List.isEmpty_iff, e]
      simp [e, this]
  | c :: t, acc, h => by
    unfold wdsA splA
    by_cases hw : wrdB c = true
    · have hc : c ≠ 32 := by rintro rfl; revert hw; decide
      rw [if_pos hw, if_neg hc]
      exact wdsA_splA t (acc ++ [c]) (by rw [List.all_append, h]; simp [hw])
    · rw [if_neg hw]
      by_cases hc : c = 32
      · rw [if_pos hc]
        by_cases e : acc = []
        · subst e; simp [okW]
        · have ho : okW acc = true := by unfold okW; rw [h]; simp [List.isEmpty_iff, e]
          rw [if_pos ⟨hc, e⟩, wdsA_splA t [] rfl]
          simp only [List.all_cons, ho, Bool.true_and]
          split <;> rfl
      · rw [if_neg hc, if_neg (fun h => hc h.1)]
        rw [splA_bad t (acc ++ [c]) (by simp [List.all_append, hw])]
        rfl
def blank : ByteArray := ⟨#[32]⟩
theorem blank_size : blank.size = 1 := rfl
theorem indexB_blank (s : ByteArray) : Lib.indexB s blank = Lib.indexByte s.data.toList 32 := Lib.index_one s.data.toList 32
theorem split_law : ∀ (n : Nat) (s : ByteArray), s.size ≤ n → Lib.splitB blank 0 (Lib.countB s blank) s = (splA [] s.data.toList).map toB
  | n, s, hn => by
    rcases Lib.indexB_cases s blank with h | ⟨i, h, hi⟩
    · rw [Lib.countB_miss s blank h, Lib.splitB_zero]
      rw [indexB_blank] at h
      have hno : ∀ c ∈ s.data.toList, c ≠ 32 := by
        intro c hc e
        obtain ⟨k, hk⟩ := List.mem_iff_getElem?.1 hc
        exact Lib.indexByte_none h k (by rw [hk, e])
      have := splA_pre [] s.data.toList [] hno
      rw [List.append_nil] at this
      rw [this]
      simp [splA, toB_data]
    · rw [blank_size] at hi
      rw [Lib.countB_hit s blank i (by rw [blank_size]; omega) h, Nat.add_comm 1, Lib.splitB_hit blank 0 _ s i h, blank_size, Nat.add_zero]
      rw [indexB_blank] at h
      obtain ⟨h1, h2⟩ := Lib.indexByte_some h
      have hno : ∀ c ∈ s.data.toList.take i, c ≠ 32 := by
        intro c hc e
        obtain ⟨k, hk⟩ := List.mem_iff_getElem?.1 hc
        have hki : k < i := by
          have := (List.getElem?_eq_some_iff.1 hk).1
          simp at this
          omega
        rw [List.getElem?_take, if_pos hki] at hk
        exact h2 k hki (by rw [hk, e])
      have e1 : (s.extract 0 i).data.toList = s.data.toList.take i := by rw [data_extract]; simp
      have e2 : (s.extract (i + 1) s.size).data.toList = s.data.toList.drop (i + 1) := by
        rw [data_extract]
        exact List.take_of_length_le (by simp)
      match n, hn with
      | 0, hn => omega
      | n + 1, hn =>
        rw [split_law n (s.extract (i + 1) s.size) (by simp; omega), e2]
        conv => rhs; rw [take_drop_at h1]
        rw [splA_pre _ _ _ hno]
        simp only [List.nil_append, splA, if_pos, List.map_cons]
        rw [← e1, toB_data]
def pcs (s : ByteArray) : List ByteArray := (splA [] s.data.toList).map toB
theorem splA_size : ∀ (l acc x : List UInt8), x ∈ splA acc l → x.length ≤ acc.length + l.length
  | [], acc, x, h => by simp [splA] at h; subst h; simp
  | c :: t, acc, x, h => by
    unfold splA at h
    split at h
    · rcases List.mem_cons.1 h with h | h
      · subst h; simp
      · have := splA_size t [] x h
        simp at this ⊢; omega
    · have := splA_size t (acc ++ [c]) x h
      simp at this ⊢; omega
theorem pcs_size {s x : ByteArray} (h : x ∈ pcs s) : x.size ≤ s.size := by
  unfold pcs at h
  obtain ⟨l, hl, rfl⟩ := List.mem_map.1 h
  have := splA_size _ _ _ hl
  have hl2 : s.data.toList.length = s.size := by simp
  rw [hl2] at this
  show l.toArray.size ≤ s.size
  rw [List.size_toArray]
  simpa using this
def okB (x : ByteArray) : Bool := okW x.data.toList
theorem wdB_pcs (s : ByteArray) : wdB s = if (pcs s).all okB then some (pcs s) else none := by
  unfold wdB pcs
  rw [wdsA_splA _ _ rfl]
  have e : ((splA [] s.data.toList).map toB).all okB = (splA [] s.data.toList).all okW := by
    rw [List.all_map]; rfl
  rw [e]
  split <;> rfl
theorem pcs_split (s : ByteArray) : Lib.splitB blank 0 (Lib.countB s blank) s = pcs s := split_law s.size s (Nat.le_refl _)
theorem pcs_len (s : ByteArray) : (pcs s).length = Lib.countB s blank + 1 := by
  rw [← pcs_split, Lib.splitB_all blank (by rw [blank_size]; omega) 0 _ s rfl]
theorem okB_iff (x : ByteArray) : okB x = true ↔ 0 < x.size ∧ ∀ (i : Nat) (h : i < x.size), 33 ≤ ((x[i]).toNat : Int) ∧ ((x[i]).toNat : Int) ≤ 126 := by
  have hl : x.data.toList.length = x.size := by simp
  unfold okB okW
  rw [Bool.and_eq_true, List.all_eq_true]
  constructor
  · rintro ⟨h1, h2⟩
    refine ⟨?_, fun i h => ?_⟩
    · rcases Nat.eq_zero_or_pos x.size with h | h
      · have e : x.data.toList = [] := List.length_eq_zero_iff.1 (hl.trans h)
        rw [e] at h1; simp at h1
      · exact h
    · have := h2 x[i] (by rw [List.mem_iff_getElem]; exact ⟨i, by omega, rfl⟩)
      unfold wrdB at this
      simpa using this
  · rintro ⟨h1, h2⟩
    refine ⟨?_, fun c hc => ?_⟩
    · cases h : x.data.toList with
      | nil => rw [h] at hl; simp at hl; omega
      | cons => rfl
    · obtain ⟨i, hi, rfl⟩ := List.mem_iff_getElem.1 hc
      have := h2 i (by omega)
      unfold wrdB
      rw [Bool.and_eq_true, decide_eq_true_eq, decide_eq_true_eq]
      exact this
end Go.Proofs.YtgjnlgcdpbilfaaGreatDoor
namespace Go.Proofs.YtgjnlgcdpbilfaaGreatDoor
open Go.ChangeShapes Go.WideShapes Go.ChangeAt Go.RowKit
set_option linter.unusedVariables false
set_option linter.unusedSimpArgs false

def dgs (n : Int) : ByteArray := ⟨(Lib.itoa n).toArray⟩
theorem itoa_small {n : Int} (h0 : 0 ≤ n) (h1 : n < 10) : dgs n = ⟨#[UInt8.ofNat (48 + n).toNat]⟩ := by
  unfold dgs Lib.itoa
  rw [if_neg (by omega), Lib.decDigits, dif_pos (by omega)]
  rw [show (48 + n).toNat = 48 + n.toNat from by omega]
theorem itoa_big {n : Int} (h : 10 ≤ n) : dgs n = dgs (n / 10) ++ ⟨#[UInt8.ofNat (48 + n % 10).toNat]⟩ := by
  unfold dgs Lib.itoa
  rw [if_neg (by omega), if_neg (by omega), Lib.decDigits, dif_neg (by omega)]
  rw [show (48 + n % 10).toNat = 48 + n.toNat % 10 from by omega, show (n / 10).toNat = n.toNat / 10 from by omega]
  apply ByteArray.ext
  simp
end Go.Proofs.YtgjnlgcdpbilfaaGreatDoor
namespace Go.Proofs.YtgjnlgcdpbilfaaGreatDoor
open Go.ChangeShapes Go.WideShapes Go.ChangeAt Go.RowKit
set_option linter.unusedVariables false
set_option linter.unusedSimpArgs false

def dgB (c : Int) : Bool := decide (48 ≤ c) && decide (c ≤ 57)
theorem dgB_iff (c : Int) : dgB c = true ↔ 48 ≤ c ∧ c ≤ 57 := by unfold dgB; simp
def nvB (s : ByteArray) : Nat → Int
  | 0 => 0
  | k + 1 => 10 * nvB s k + (bt s k - 48)
def allD (s : ByteArray) : Bool := (List.range s.size).all fun i => dgB (bt s i)
def numB (s : ByteArray) (d : Int) : Bool := decide (1 ≤ d) && decide (d ≤ 9) && decide (1 ≤ s.size) && decide ((s.size : Int) ≤ d) && !(decide (1 < s.size) && decide (bt s 0 = 48)) && allD s
def numN (s : ByteArray) (d : Int) : Int := if numB s d then nvB s s.size else 0
theorem allD_iff (s : ByteArray) : allD s = true ↔ ∀ i, i < s.size → 48 ≤ bt s i ∧ bt s i ≤ 57 := by
  unfold allD
  rw [List.all_eq_true]
  constructor
  · intro h i hi
    exact (dgB_iff _).1 (h i (List.mem_range.2 hi))
  · intro h i hi
    exact (dgB_iff _).2 (h i (List.mem_range.1 hi))
theorem numB_iff (s : ByteArray) (d : Int) : numB s d = true ↔ 1 ≤ d ∧ d ≤ 9 ∧ 1 ≤ s.size ∧ (s.size : Int) ≤ d ∧ ¬ (1 < s.size ∧ bt s 0 = 48) ∧ ∀ i, i < s.size → 48 ≤ bt s i ∧ bt s i ≤ 57 := by
  unfold numB
  rw [← allD_iff]
  simp only [Bool.and_eq_true, decide_eq_true_eq, Bool.not_eq_true', Bool.and_eq_false_iff, decide_eq_false_iff_not]
  constructor
  · rintro ⟨⟨⟨⟨⟨a, b⟩, c⟩, d⟩, e⟩, f⟩
    refine ⟨a, b, c, d, ?_, f⟩
    rintro ⟨g, h⟩
    rcases e with e | e
    · exact e g
    · exact e h
  · rintro ⟨a, b, c, d, e, f⟩
    refine ⟨⟨⟨⟨⟨a, b⟩, c⟩, d⟩, ?_⟩, f⟩
    rcases Classical.em (1 < s.size) with g | g
    · exact .inr fun h => e ⟨g, h⟩
    · exact .inl g
theorem numB_not {s : ByteArray} {d : Int} (h : ¬ (1 ≤ d ∧ d ≤ 9 ∧ 1 ≤ s.size ∧ (s.size : Int) ≤ d ∧ ¬ (1 < s.size ∧ bt s 0 = 48) ∧ ∀ i, i < s.size → 48 ≤ bt s i ∧ bt s i ≤ 57)) : numB s d = false ∧ numN s d = 0 := by
  have e : numB s d = false := by
    cases hq : numB s d with
    | false => rfl
    | true => exact absurd ((numB_iff s d).1 hq) h
  exact ⟨e, by unfold numN; rw [e]; rfl⟩
theorem nvB_bd (s : ByteArray) : ∀ k : Nat, (∀ i, i < k → 48 ≤ bt s i ∧ bt s i ≤ 57) → 0 ≤ nvB s k ∧ nvB s k < 10 ^ k
  | 0, _ => by simp [nvB]
  | k + 1, h => by
    have ih := nvB_bd s k fun i hi => h i (by omega)
    have hk := h k (by omega)
    have e : (10 : Int) ^ (k + 1) = 10 * 10 ^ k := by rw [Int.pow_succ, Int.mul_comm]
    simp only [nvB]
    omega
theorem pow_le9 (k : Nat) (h : k ≤ 8) : (10 : Int) ^ k ≤ 100000000 := by
  match k, h with
  | 0, _ => decide
  | 1, _ => decide
  | 2, _ => decide
  | 3, _ => decide
  | 4, _ => decide
  | 5, _ => decide
  | 6, _ => decide
  | 7, _ => decide
  | 8, _ => decide
end Go.Proofs.YtgjnlgcdpbilfaaGreatDoor
namespace Go.Proofs.YtgjnlgcdpbilfaaGreatDoor
open Go.ChangeShapes Go.WideShapes Go.ChangeAt Go.RowKit
set_option linter.unusedVariables false
set_option linter.unusedSimpArgs false

theorem bt_app (a b : ByteArray) (i : Nat) : bt (a ++ b) i = if i < a.size then bt a i else bt b (i - a.size) := by
  unfold bt
  have e : (a ++ b).data.toList = a.data.toList ++ b.data.toList := by simp [ByteArray.data_append]
  have hl : a.data.toList.length = a.size := by simp
  rw [e, List.getD_eq_getElem?_getD, List.getElem?_append, hl]
  by_cases h : i < a.size
  · rw [if_pos h, if_pos h, List.getD_eq_getElem?_getD]
  · rw [if_neg h, if_neg h, List.getD_eq_getElem?_getD]
theorem size_app (a b : ByteArray) : (a ++ b).size = a.size + b.size := ByteArray.size_append
theorem bt_one (x : UInt8) : bt ⟨#[x]⟩ 0 = (x.toNat : Int) := rfl
theorem nvB_app (a b : ByteArray) : ∀ k, k ≤ a.size → nvB (a ++ b) k = nvB a k
  | 0, _ => rfl
  | k + 1, h => by
    simp only [nvB]
    rw [nvB_app a b k (by omega), bt_app, if_pos (by omega)]
theorem dg_byte (d : Int) (h0 : 0 ≤ d) (h1 : d < 10) : ((UInt8.ofNat (48 + d).toNat).toNat : Int) = 48 + d := by
  rw [UInt8.toNat_ofNat_of_lt' (by show (48 + d).toNat < 256; omega)]
  omega
theorem dgs_spec : ∀ (k : Nat) (n : Int), 0 ≤ n → n < 10 ^ (k + 1) →
    1 ≤ (dgs n).size ∧ (dgs n).size ≤ k + 1 ∧ (∀ i, i < (dgs n).size → 48 ≤ bt (dgs n) i ∧ bt (dgs n) i ≤ 57) ∧ nvB (dgs n) (dgs n).size = n ∧ (n < 10 → (dgs n).size = 1) ∧ (0 < n → bt (dgs n) 0 ≠ 48) := by
  intro k
  induction k with
  | zero =>
    intro n h0 h1
    have h1' : n < 10 := by simpa using h1
    have hd := dg_byte n h0 h1'
    have hs : (⟨#[UInt8.ofNat (48 + n).toNat]⟩ : ByteArray).size = 1 := rfl
    rw [itoa_small h0 h1']
    refine ⟨by rw [hs]; omega, by rw [hs]; omega, ?_, ?_, fun _ => hs, ?_⟩
    · intro i hi
      rw [hs] at hi
      obtain rfl : i = 0 := by omega
      rw [bt_one, hd]; omega
    · rw [hs]
      simp only [nvB]
      rw [bt_one, hd]; omega
    · intro hn
      rw [bt_one, hd]; omega
  | succ k ih =>
    intro n h0 h1
    by_cases hs : n < 10
    · have hd := dg_byte n h0 hs
      have hz : (⟨#[UInt8.ofNat (48 + n).toNat]⟩ : ByteArray).size = 1 := rfl
      rw [itoa_small h0 hs]
      refine ⟨by rw [hz]; omega, by rw [hz]; omega, ?_, ?_, fun _ => hz, ?_⟩
      · intro i hi
        rw [hz] at hi
        obtain rfl : i = 0 := by omega
        rw [bt_one, hd]; omega
      · rw [hz]
        simp only [nvB]
        rw [bt_one, hd]; omega
      · intro hn
        rw [bt_one, hd]; omega
    · have e : (10 : Int) ^ (k + 1 + 1) = 10 * 10 ^ (k + 1) := by rw [Int.pow_succ, Int.mul_comm]
      obtain ⟨a1, a2, a3, a4, a5, a6⟩ := ih (n / 10) (by omega) (by omega)
      have hd := dg_byte (n % 10) (by omega) (by omega)
      have hz : (⟨#[UInt8.ofNat (48 + n % 10).toNat]⟩ : ByteArray).size = 1 := rfl
      rw [itoa_big (by omega)]
      have hsz : (dgs (n / 10) ++ ⟨#[UInt8.ofNat (48 + n % 10).toNat]⟩).size = (dgs (n / 10)).size + 1 := by rw [size_app, hz]
      refine ⟨by rw [hsz]; omega, by rw [hsz]; omega, ?_, ?_, fun h => absurd h hs, ?_⟩
      · intro i hi
        rw [hsz] at hi
        rw [bt_app]
        by_cases hj : i < (dgs (n / 10)).size
        · rw [if_pos hj]; exact a3 i hj
        · rw [if_neg hj, show i - (dgs (n / 10)).size = 0 from by omega, bt_one, hd]; omega
      · rw [hsz]
        simp only [nvB]
        rw [nvB_app _ _ _ (Nat.le_refl _), a4, bt_app, if_neg (by omega), Nat.sub_self, bt_one, hd]; omega
      · intro hn
        rw [bt_app, if_pos (by omega)]
        exact a6 (by omega)
def wordB (x : ByteArray) : Prop := x.data.toList ≠ [] ∧ ∀ c ∈ x.data.toList, wrdB c = true
theorem wordB_of {x : ByteArray} (h0 : x.size ≠ 0) (h : ∀ j, j < x.size → 33 ≤ bt x j ∧ bt x j ≤ 126) : wordB x := by
  refine ⟨fun e => h0 (by have := congrArg List.length e; rw [show ∀ x : ByteArray, x.data.toList.length = x.size from fun x => by simp] at this; exact this), ?_⟩
  intro c hc
  obtain ⟨i, hi, he⟩ := List.mem_iff_getElem.1 hc
  have hi' : i < x.size := by simpa using hi
  have hb := h i hi'
  rw [bt_get x i hi'] at hb
  have : x[i] = c := he
  rw [this] at hb
  unfold wrdB
  simp only [Bool.and_eq_true, decide_eq_true_eq]
  exact hb
theorem wdsA_pre (t : List UInt8) : ∀ (p acc : List UInt8), (∀ c ∈ p, wrdB c = true) → wdsA acc (p ++ t) = wdsA (acc ++ p) t
  | [], acc, _ => by simp
  | c :: p, acc, h => by
    have hc : wrdB c = true := h c (by simp)
    rw [List.cons_append, wdsA, if_pos hc, wdsA_pre t p _ fun d hd => h d (by simp [hd])]
    simp
theorem w32 : wrdB 32 = false := by decide
theorem wdsA_blank (acc t : List UInt8) (h : acc ≠ []) : wdsA acc (32 :: t) = (wdsA [] t).map (acc :: ·) := by
  rw [wdsA, if_neg (by rw [w32]; exact Bool.false_ne_true), if_pos ⟨rfl, h⟩]
def jnW (L : List ByteArray) : ByteArray := ⟨(Lib.join (L.map (·.data.toList)) [32]).toArray⟩
theorem join_cons (a : List UInt8) (r : List (List UInt8)) (sep : List UInt8) (h : r ≠ []) : Lib.join (a :: r) sep = a ++ sep ++ Lib.join r sep := by
  unfold Lib.join
  cases r with
  | nil => exact absurd rfl h
  | cons b t => simp [List.intercalate, List.intersperse]
theorem wdsA_join : ∀ (L : List ByteArray) (b : ByteArray), wordB b → (∀ x ∈ L, wordB x) → wdsA [] (Lib.join ((b :: L).map (·.data.toList)) [32]) = some ((b :: L).map (·.data.toList))
  | [], b, hb, _ => by
    show wdsA [] (Lib.join [b.data.toList] [32]) = some [b.data.toList]
    rw [Lib.join_one]
    have := wdsA_pre [] b.data.toList [] hb.2
    rw [List.append_nil, List.nil_append] at this
    rw [this, wdsA, if_neg hb.1]
  | a :: t, b, hb, h => by
    have ih := wdsA_join t a (h a (List.mem_cons_self ..)) (fun x hx => h x (List.mem_cons_of_mem _ hx))
    show wdsA [] (Lib.join (b.data.toList :: ((a :: t).map (·.data.toList))) [32]) = _
    rw [join_cons _ _ _ (by simp), List.append_assoc, wdsA_pre _ _ _ hb.2, List.nil_append]
    show wdsA b.data.toList (32 :: Lib.join ((a :: t).map (·.data.toList)) [32]) = _
    rw [wdsA_blank _ _ hb.1, ih]; rfl
theorem wdB_jnW (L : List ByteArray) (hL : L ≠ []) (h : ∀ x ∈ L, wordB x) : wdB (jnW L) = some L := by
  cases L with
  | nil => exact absurd rfl hL
  | cons b t =>
    unfold wdB jnW
    show (wdsA [] (Lib.join ((b :: t).map (·.data.toList)) [32])).map (·.map toB) = _
    rw [wdsA_join t b (h b (List.mem_cons_self ..)) (fun x hx => h x (List.mem_cons_of_mem _ hx))]
    show some (((b :: t).map (·.data.toList)).map toB) = _
    rw [List.map_map]
    have : (toB ∘ fun x : ByteArray => x.data.toList) = id := by funext x; exact toB_data x
    rw [this, List.map_id]
theorem jnW_cons (b a : ByteArray) (t : List ByteArray) : jnW (b :: a :: t) = b ++ ⟨#[32]⟩ ++ jnW (a :: t) := by
  apply ByteArray.ext
  apply Array.toList_inj.1
  show (Lib.join (b.data.toList :: ((a :: t).map (·.data.toList))) [32]) = _
  rw [join_cons _ _ _ (by simp)]
  simp [ByteArray.data_append, jnW]
theorem num_dgs (k : Nat) (n : Int) (h0 : 0 ≤ n) (h1 : n < 10 ^ (k + 1)) (hk : k + 1 ≤ 9) : numB (dgs n) ((k : Int) + 1) = true ∧ numN (dgs n) ((k : Int) + 1) = n := by
  obtain ⟨a1, a2, a3, a4, a5, a6⟩ := dgs_spec k n h0 h1
  have hb : numB (dgs n) ((k : Int) + 1) = true := by
    refine (numB_iff _ _).2 ⟨by omega, by omega, by omega, by omega, ?_, a3⟩
    rintro ⟨p, q⟩
    by_cases hv : n < 10
    · have := a5 hv; omega
    · exact a6 (by omega) q
  exact ⟨hb, by unfold numN; rw [hb, if_pos rfl]; exact a4⟩
theorem dgs_word (n : Int) (h0 : 0 ≤ n) (h1 : n < 1000000000) : wordB (dgs n) := by
  obtain ⟨a1, a2, a3, -⟩ := dgs_spec 8 n h0 (by simpa using h1)
  exact wordB_of (by omega) fun j hj => by have := a3 j hj; omega
theorem nvB_pos (s : ByteArray) (h0 : 49 ≤ bt s 0) : ∀ k : Nat, (∀ i, i < k + 1 → 48 ≤ bt s i) → 1 ≤ nvB s (k + 1)
  | 0, _ => by simp only [nvB]; omega
  | k + 1, h => by
    have ih := nvB_pos s h0 k fun i hi => h i (by omega)
    have hd := h (k + 1) (by omega)
    rw [nvB]; omega
theorem byte_bt (s : ByteArray) (i : Nat) (hi : i < s.size) : UInt8.ofNat (bt s i).toNat = s.data.toList[i]'(by simpa using hi) := by
  unfold bt
  have h' : i < s.data.toList.length := by simpa using hi
  rw [List.getD_eq_getElem?_getD, List.getElem?_eq_getElem h']
  simp
theorem dgs_pre (s : ByteArray) : ∀ k : Nat, k < s.size → (∀ i, i < k + 1 → 48 ≤ bt s i ∧ bt s i ≤ 57) → (k = 0 ∨ 49 ≤ bt s 0) → dgs (nvB s (k + 1)) = toB (s.data.toList.take (k + 1))
  | 0, hk, hd, _ => by
    have h0 := hd 0 (by omega)
    have hl : 0 < s.data.toList.length := by simpa using hk
    rw [show nvB s 1 = bt s 0 - 48 from by simp only [nvB]; omega, itoa_small (by omega) (by omega)]
    rw [show 48 + (bt s 0 - 48) = bt s 0 from by omega, byte_bt s 0 hk]
    rw [List.take_succ_eq_append_getElem hl]
    rfl
  | k + 1, hk, hd, hz => by
    have hz' : 49 ≤ bt s 0 := by rcases hz with h | h; omega; exact h
    have hp := nvB_pos s hz' k fun i hi => (hd i (by omega)).1
    have hdk := hd (k + 1) (by omega)
    have hl : k + 1 < s.data.toList.length := by simpa using hk
    have ih := dgs_pre s k (by omega) (fun i hi => hd i (by omega)) (.inr hz')
    have hn : nvB s (k + 1 + 1) = 10 * nvB s (k + 1) + (bt s (k + 1) - 48) := rfl
    rw [hn, itoa_big (by omega)]
    have hq : (10 * nvB s (k + 1) + (bt s (k + 1) - 48)) / 10 = nvB s (k + 1) := by omega
    have hr : (10 * nvB s (k + 1) + (bt s (k + 1) - 48)) % 10 = bt s (k + 1) - 48 := by omega
    rw [hq, hr, ih, show 48 + (bt s (k + 1) - 48) = bt s (k + 1) from by omega, byte_bt s (k + 1) hk, List.take_succ_eq_append_getElem hl]
    apply ByteArray.ext
    apply Array.toList_inj.1
    simp [ByteArray.data_append, toB]
theorem dgs_num {s : ByteArray} {d : Int} (h : numB s d = true) : dgs (numN s d) = s := by
  obtain ⟨h1, h2, h3, h4, h5, h6⟩ := (numB_iff s d).1 h
  unfold numN
  rw [if_pos h]
  obtain ⟨k, hk⟩ : ∃ k, s.size = k + 1 := ⟨s.size - 1, by omega⟩
  have hz : k = 0 ∨ 49 ≤ bt s 0 := by
    by_cases e : k = 0
    · exact .inl e
    · have := h6 0 (by omega)
      have hne : bt s 0 ≠ 48 := fun e' => h5 ⟨by omega, e'⟩
      omega
  rw [hk, dgs_pre s k (by omega) (fun i hi => h6 i (by omega)) hz, List.take_of_length_le (by simp; omega), toB_data]
end Go.Proofs.YtgjnlgcdpbilfaaGreatDoor
namespace Go.Proofs.YtgjnlgcdpbilfaaGreatDoor
open Go.ChangeShapes Go.WideShapes Go.ChangeAt Go.RowKit
set_option linter.unusedVariables false
set_option linter.unusedSimpArgs false

def letB (c : Int) : Bool := (decide (97 ≤ c) && decide (c ≤ 122)) || (decide (65 ≤ c) && decide (c ≤ 90))
def digB (c : Int) : Bool := decide (48 ≤ c) && decide (c ≤ 57)
def okc (i : Nat) (c : Int) : Bool := letB c || (decide (i ≠ 0) && digB c)
def nmB (s : ByteArray) : Bool := decide (1 ≤ s.size) && decide (s.size ≤ 8) && (List.range s.size).all fun i => okc i (bt s i)
theorem nmB_bad (s : ByteArray) (k : Nat) (hk : k < s.size) (h : okc k (bt s k) = false) : nmB s = false := by
  cases hq : nmB s with
  | false => rfl
  | true =>
    unfold nmB at hq
    rw [Bool.and_eq_true, List.all_eq_true] at hq
    rw [hq.2 k (List.mem_range.2 hk)] at h
    cases h
theorem nmB_good (s : ByteArray) (h : ∀ i, i < s.size → okc i (bt s i) = true) : nmB s = (decide (1 ≤ s.size) && decide (s.size ≤ 8)) := by
  unfold nmB
  have : ((List.range s.size).all fun i => okc i (bt s i)) = true := by
    rw [List.all_eq_true]; intro i hi; exact h i (List.mem_range.1 hi)
  rw [this, Bool.and_true]
theorem okc_mk (i : Nat) (c : Int) (h : (97 ≤ c ∧ c ≤ 122) ∨ (65 ≤ c ∧ c ≤ 90) ∨ (i ≠ 0 ∧ 48 ≤ c ∧ c ≤ 57)) : okc i c = true := by
  unfold okc letB digB; simp; omega
theorem okc_iff (i : Nat) (c : Int) : okc i c = true ↔ (97 ≤ c ∧ c ≤ 122) ∨ (65 ≤ c ∧ c ≤ 90) ∨ (i ≠ 0 ∧ 48 ≤ c ∧ c ≤ 57) := by
  unfold okc letB digB; simp; omega
end Go.Proofs.YtgjnlgcdpbilfaaGreatDoor
namespace Go.Proofs.YtgjnlgcdpbilfaaGreatDoor
open Go.ChangeShapes Go.WideShapes Go.ChangeAt Go.RowKit
set_option linter.unusedVariables false
set_option linter.unusedSimpArgs false

set_option maxHeartbeats 400000 in
theorem refName_any (s : ByteArray) (hs : s.size ≤ maxLen) (w : World) :
    Calls Tryz.prog 38 #[.string s] w fun e w' => e = .returned (.bool (nmB s)) ∧ w' = w := by
  unfold maxLen at hs
  go_enter Tryz.func38, Tryz.ntmps38
  go_wp2
  go_loop [3, 4, 5] (fun i _ _ => ∃ k : Nat, i = .int .i64 k ∧ k ≤ s.size ∧ Hid (∀ j, j < k → okc j (bt s j) = true)) (fun i _ _ => s.size - (intOf i).toNat)
  case atStart => exact ⟨0, rfl, Nat.zero_le _, fun j hj => by omega⟩
  case round =>
    obtain ⟨k, rfl, hk, HA⟩ := hrel
    by_cases hlt : k < s.size
    · have HG := Lib.hid (bt_get s k hlt)
      have hk0 : ((k : Int) == 0) = true ∨ ((k : Int) == 0) = false := by cases h : ((k : Int) == 0) <;> simp
      by_cases hok : okc k (bt s k) = true
      · have HN : Hid (∀ j, j < k + 1 → okc j (bt s j) = true) := by
          intro j hj
          by_cases e : j = k
          · rw [e]; exact hok
          · exact HA.out j (by omega)
        have ho := (okc_iff k (bt s k)).1 hok
        rw [HG.out] at ho
        rw [show (k ≠ 0) = ¬ ((k : Int) == 0) = true from by simp] at ho
        clear hok HA HG
        rcases hk0 with hk0 | hk0
        all_goals go_wp2
        all_goals (first | (exfalso; simp_all; done) | (exfalso; simp_all; omega) | skip)
        all_goals go_round
        all_goals try (case rel => exact ⟨k + 1, by go_num, by omega, HN⟩)
        all_goals try (case measure => simp [intOf]; omega)
      · have HB := Lib.hid (nmB_bad s k hlt (by simpa using hok))
        have ho : ¬ ((97 ≤ bt s k ∧ bt s k ≤ 122) ∨ (65 ≤ bt s k ∧ bt s k ≤ 90) ∨ (k ≠ 0 ∧ 48 ≤ bt s k ∧ bt s k ≤ 57)) := fun h => hok ((okc_iff k (bt s k)).2 h)
        rw [HG.out] at ho
        rw [show (k ≠ 0) = ¬ ((k : Int) == 0) = true from by simp] at ho
        clear hok HA HG
        rcases hk0 with hk0 | hk0
        all_goals go_wp2
        all_goals (first | (exfalso; simp_all; done) | (exfalso; simp_all; omega) | skip)
        all_goals go_ret
        all_goals exact ⟨ret_bool HB.out.symm, rfl⟩
    · have HB := Lib.hid (nmB_good s fun i hi => HA.out i (by omega))
      clear HA
      go_wp2
      all_goals go_ret
      all_goals (refine ⟨ret_bool ?_, rfl⟩; rw [HB.out]; by_cases a1 : 1 ≤ s.size <;> by_cases a2 : s.size ≤ 8 <;> simp [a1, a2] <;> omega)
end Go.Proofs.YtgjnlgcdpbilfaaGreatDoor
namespace Go.Proofs.YtgjnlgcdpbilfaaGreatDoor
open Go.ChangeShapes Go.WideShapes Go.ChangeAt Go.RowKit
set_option linter.unusedVariables false
set_option linter.unusedSimpArgs false

def hld (n lo hi : Int) : Int := max lo (min n hi)
def wnt (a b want : Int) (f : Bool) : Int := if f then -b else hld want (-b) a
def nxt (t a b v want : Int) (f : Bool) : Int := hld (hld v 0 t + wnt a b want f) 0 t
def tailS (b : Int) : Nat → Int → Int
  | 0, _ => 0
  | k + 1, V => if 0 < V then V + tailS b k (V - b) else 0
def stp (b v : Int) : Int := tailS b 60 (v - b)
theorem tailS_bd (b : Int) (hb : 1 ≤ b) : ∀ (k : Nat) (V : Int), V ≤ 60 → 0 ≤ tailS b k V ∧ tailS b k V ≤ 60 * k
  | 0, V, h => by simp [tailS]
  | k + 1, V, h => by
    unfold tailS
    split
    · have := tailS_bd b hb k (V - b) (by omega)
      omega
    · omega
theorem stp_bd (b v : Int) (hb : 1 ≤ b) (hv : v ≤ 60) : 0 ≤ stp b v ∧ stp b v ≤ 3600 := by
  have := tailS_bd b hb 60 (v - b) (by omega)
  unfold stp; omega
theorem tailS_pos (b : Int) (k : Nat) (V : Int) (h : 0 < V) (hk : V ≤ k) : ∃ j : Nat, k = j + 1 ∧ tailS b k V = V + tailS b j (V - b) := by
  match k, hk with
  | 0, hk => omega
  | j + 1, _ => exact ⟨j, rfl, by simp [tailS, h]⟩
theorem tailS_no (b : Int) (k : Nat) (V : Int) (h : ¬ 0 < V) : tailS b k V = 0 := by
  match k with
  | 0 => rfl
  | j + 1 => simp [tailS, h]
def acc (t a b v : Int) : Int := nxt t a b v a false
end Go.Proofs.YtgjnlgcdpbilfaaGreatDoor
namespace Go.Proofs.YtgjnlgcdpbilfaaGreatDoor
open Go.ChangeShapes Go.WideShapes Go.ChangeAt Go.RowKit
set_option linter.unusedVariables false
set_option linter.unusedSimpArgs false

end Go.Proofs.YtgjnlgcdpbilfaaGreatDoor
namespace Go.Proofs.YtgjnlgcdpbilfaaGreatDoor
open Go.ChangeShapes Go.WideShapes Go.ChangeAt Go.RowKit
set_option linter.unusedVariables false
set_option linter.unusedSimpArgs false

def winB (n lo hi : Int) : Bool := decide (lo ≤ n) && decide (n ≤ hi)
theorem winB_iff (n lo hi : Int) : winB n lo hi = true ↔ lo ≤ n ∧ n ≤ hi := by unfold winB; simp
theorem within_any (n lo hi : Int) (w : World) :
    Calls Tryz.prog 120 #[.int .i64 n, .int .i64 lo, .int .i64 hi] w fun e w' => e = .returned (.bool (winB n lo hi)) ∧ w' = w := by
  go_enter Tryz.func120, Tryz.ntmps120
  go_wp2
  all_goals go_ret
  all_goals (refine ⟨ret_bool ?_, rfl⟩; unfold winB; by_cases a1 : lo ≤ n <;> by_cases a2 : n ≤ hi <;> simp [a1, a2] <;> omega)
def mayB (nm : ByteArray) (l t a b : Int) : Bool := nmB nm && winB l 1 4000 && winB t 1 60 && winB a 1 10 && winB b 1 10
theorem mayB_parts {nm : ByteArray} {l t a b : Int} (h : mayB nm l t a b = true) : nmB nm = true ∧ (1 ≤ l ∧ l ≤ 4000) ∧ (1 ≤ t ∧ t ≤ 60) ∧ (1 ≤ a ∧ a ≤ 10) ∧ (1 ≤ b ∧ b ≤ 10) := by
  unfold mayB at h
  simp only [Bool.and_eq_true, winB_iff] at h
  obtain ⟨⟨⟨⟨h1, h2⟩, h3⟩, h4⟩, h5⟩ := h
  exact ⟨h1, h2, h3, h4, h5⟩
theorem may_any (nm : ByteArray) (l t a b : Int) (hs : nm.size ≤ maxLen) (w : World) :
    Calls Tryz.prog 93 #[.agg #[.string nm, .int .i64 l, .int .i64 t, .int .i64 a, .int .i64 b]] w fun e w' => e = .returned (.bool (mayB nm l t a b)) ∧ Gr w w' := by
  go_enter Tryz.func93, Tryz.ntmps93
  go_wp2_with (first | (go_at_call 38; refine (refName_any nm hs _).mono ?_; rintro e w' ⟨rfl, rfl⟩) | (go_at_call 120; refine (within_any _ _ _ _).mono ?_; rintro e w' ⟨rfl, rfl⟩))
  all_goals go_ret
  all_goals refine ⟨ret_bool ?_, (Gr.refl _).alloc _⟩
  all_goals (unfold mayB; simp_all)
end Go.Proofs.YtgjnlgcdpbilfaaGreatDoor
namespace Go.Proofs.YtgjnlgcdpbilfaaGreatDoor
open Go.Joins Go.ChangeShapes Go.WideShapes Go.RowKit Go.Deep
set_option linter.unusedVariables false
set_option linter.unusedSimpArgs false
section
variable {H : Type} {enc : TypeId × Value → H} {P : Program} {w : World} {base : Nat} {spare : Nat → Bool} {held : Bool}
end

structure Stk where
  nm : ByteArray
  l : Int
  t : Int
  a : Int
  b : Int
theorem cell_lt {w : World} {b o : Nat} {v : Value} (h : w.cell? ⟨b, o, none⟩ = some v) : b < w.heap.size := by
  unfold World.cell? at h
  rcases Nat.lt_or_ge b w.heap.size with hl | hl
  · exact hl
  · rw [Array.getElem?_eq_none hl] at h
    cases h
def IsVals (w : World) (v : Value) (xs : List Value) : Prop :=
  ∃ (a : Option Addr) (cap : Nat), v = .slice a xs.length cap ∧ xs.length ≤ maxLen ∧
  (xs = [] ∨ ∃ b off, a = some ⟨b, off, none⟩ ∧ b < w.heap.size ∧ ∀ i x, xs[i]? = some x → w.cell? ⟨b, off + i, none⟩ = some x)
theorem IsVals.gr {w w' : World} {v : Value} {xs : List Value} (h : IsVals w v xs) (g : Gr w w') : IsVals w' v xs := by
  obtain ⟨a, cap, hv, hl, hx⟩ := h
  refine ⟨a, cap, hv, hl, ?_⟩
  rcases hx with hx | ⟨b, off, ha, hb, hc⟩
  · exact .inl hx
  · exact .inr ⟨b, off, ha, Nat.lt_of_lt_of_le hb g.size, fun i x h => (g.cell _ _ hb).trans (hc i x h)⟩
theorem vals_of {w : World} {a : Addr} {xs : List Value} (hc : ∀ i x, xs[i]? = some x → w.cell? (a.add i) = some x) :
    xs = [] ∨ ∃ b off, some a = some (⟨b, off, none⟩ : Addr) ∧ b < w.heap.size ∧ ∀ i x, xs[i]? = some x → w.cell? ⟨b, off + i, none⟩ = some x := by
  cases xs with
  | nil => exact .inl rfl
  | cons y ys =>
    right
    obtain ⟨b, off, spot⟩ := a
    have h0 := hc 0 y rfl
    have hspot : spot = none := by simpa [Addr.add] using World.cell?_spot h0
    subst hspot
    have hp : ∀ j, (⟨b, off, none⟩ : Addr).add j = ⟨b, off + j, none⟩ := fun j => Go.WideShapes.add_plain _ _ _
    have h0' : w.cell? ⟨b, off + 0, none⟩ = some y := by rw [← hp]; exact h0
    exact ⟨b, off, rfl, cell_lt h0', fun i x h => by rw [← hp]; exact hc i x h⟩
end Go.Proofs.YtgjnlgcdpbilfaaGreatDoor
namespace Go.Proofs.YtgjnlgcdpbilfaaGreatDoor
open Go.ChangeShapes Go.WideShapes Go.ChangeAt Go.RowKit
set_option linter.unusedVariables false
set_option linter.unusedSimpArgs false

structure Prt where
  e : Int
  x : Int
deriving DecidableEq
structure Ele where
  n : ByteArray
  k : Int
  l : Int
structure Jn where
  a : Prt
  b : Prt
structure Sg where
  n : ByteArray
  at_ : Prt
  auto : Bool
structure Ln where
  n : ByteArray
  es : List Int
structure Pln where
  es : List Ele
  js : List Jn
  ss : List Sg
  ls : List Ln
  top : Int
  brake : Int
  margin : Int
  throw : Int
  hard : Bool
def Prt.v (x : Prt) : Value := .agg #[.int .i64 x.e, .int .i64 x.x]
def IsRow (w : World) (v : Value) (sz n : Nat) (C : Nat → Nat → Value) : Prop :=
  ∃ a c, v = .slice a n c ∧ n ≤ maxLen ∧ (n = 0 ∨ ∃ b o, a = some ⟨b, o, none⟩ ∧ b < w.heap.size ∧ ∀ i j, i < n → j < sz → w.cell? ⟨b, o + i * sz + j, none⟩ = some (C i j))
theorem IsRow.gr {w w' : World} {v : Value} {sz n : Nat} {C : Nat → Nat → Value} (h : IsRow w v sz n C) (g : Gr w w') : IsRow w' v sz n C := by
  obtain ⟨a, c, rfl, hm, h0 | ⟨b, o, rfl, hb, hc⟩⟩ := h
  · exact ⟨a, c, rfl, hm, .inl h0⟩
  · exact ⟨_, c, rfl, hm, .inr ⟨b, o, rfl, Nat.lt_of_lt_of_le hb g.size, fun i j hi hj => by rw [g.cell _ _ hb]; exact hc i j hi hj⟩⟩
theorem IsRow.at {w : World} {a : Option Addr} {c sz n m : Nat} {C : Nat → Nat → Value} (h : IsRow w (.slice a m c) sz n C) (i : Nat) (hi : i < n) :
    ∃ b o, a = some ⟨b, o, none⟩ ∧ b < w.heap.size ∧ ∀ j, j < sz → w.cell? ⟨b, o + i * sz + j, none⟩ = some (C i j) := by
  obtain ⟨a', c', e, _, hx⟩ := h
  simp only [Value.slice.injEq] at e
  obtain ⟨rfl, -, -⟩ := e
  rcases hx with hx | ⟨b, o, rfl, hb, hc⟩
  · omega
  · exact ⟨b, o, rfl, hb, fun j hj => hc i j hi hj⟩
def Ele.c (e : Ele) (j : Nat) : Value := if j = 0 then .string e.n else if j = 1 then .int .i64 e.k else .int .i64 e.l
def Jn.c (q : Jn) (j : Nat) : Value := if j = 0 then .int .i64 q.a.e else if j = 1 then .int .i64 q.a.x else if j = 2 then .int .i64 q.b.e else .int .i64 q.b.x
def Sg.c (s : Sg) (j : Nat) : Value := if j = 0 then .string s.n else if j = 1 then .int .i64 s.at_.e else if j = 2 then .int .i64 s.at_.x else .bool s.auto
instance : Inhabited Ele := ⟨⟨ByteArray.empty, 0, 0⟩⟩
instance : Inhabited Prt := ⟨⟨0, 0⟩⟩
instance : Inhabited Jn := ⟨⟨default, default⟩⟩
instance : Inhabited Sg := ⟨⟨ByteArray.empty, default, false⟩⟩
instance : Inhabited Ln := ⟨⟨ByteArray.empty, []⟩⟩
def IsEles (w : World) (v : Value) (l : List Ele) : Prop := IsRow w v 3 l.length (fun i j => (l.getD i default).c j)
def IsJns (w : World) (v : Value) (l : List Jn) : Prop := IsRow w v 4 l.length (fun i j => (l.getD i default).c j)
def IsSgs (w : World) (v : Value) (l : List Sg) : Prop := IsRow w v 4 l.length (fun i j => (l.getD i default).c j)
def IsLns (w : World) (v : Value) (l : List Ln) : Prop :=
  ∃ S : Nat → Value, IsRow w v 2 l.length (fun i j => if j = 0 then .string (l.getD i default).n else S i) ∧ ∀ i, i < l.length → IsVals w (S i) ((l.getD i default).es.map (Value.int .i64))
theorem IsEles.gr {w w' : World} {v : Value} {l : List Ele} (h : IsEles w v l) (g : Gr w w') : IsEles w' v l := IsRow.gr h g
theorem IsJns.gr {w w' : World} {v : Value} {l : List Jn} (h : IsJns w v l) (g : Gr w w') : IsJns w' v l := IsRow.gr h g
theorem IsSgs.gr {w w' : World} {v : Value} {l : List Sg} (h : IsSgs w v l) (g : Gr w w') : IsSgs w' v l := IsRow.gr h g
theorem IsLns.gr {w w' : World} {v : Value} {l : List Ln} (h : IsLns w v l) (g : Gr w w') : IsLns w' v l := by
  obtain ⟨S, h1, h2⟩ := h
  exact ⟨S, h1.gr g, fun i hi => (h2 i hi).gr g⟩
theorem getD_at {α : Type} [Inhabited α] (l : List α) (i : Nat) (hi : i < l.length) : l.getD i default = l[i] := by
  rw [List.getD_eq_getElem?_getD, List.getElem?_eq_getElem hi]; rfl
theorem IsEles.at {w : World} {a : Option Addr} {c m : Nat} {l : List Ele} (h : IsEles w (.slice a m c) l) (i : Nat) (hi : i < l.length) :
    ∃ b o, a = some ⟨b, o, none⟩ ∧ b < w.heap.size ∧ w.cell? ⟨b, o + i * 3, none⟩ = some (.string l[i].n) ∧ w.cell? ⟨b, o + i * 3 + 1, none⟩ = some (.int .i64 l[i].k) ∧ w.cell? ⟨b, o + i * 3 + 2, none⟩ = some (.int .i64 l[i].l) := by
  obtain ⟨b, o, rfl, hb, hc⟩ := IsRow.at h i hi
  simp only [getD_at l i hi] at hc
  exact ⟨b, o, rfl, hb, hc 0 (by omega), hc 1 (by omega), hc 2 (by omega)⟩
theorem IsJns.at {w : World} {a : Option Addr} {c m : Nat} {l : List Jn} (h : IsJns w (.slice a m c) l) (i : Nat) (hi : i < l.length) :
    ∃ b o, a = some ⟨b, o, none⟩ ∧ b < w.heap.size ∧ w.cell? ⟨b, o + i * 4, none⟩ = some (.int .i64 l[i].a.e) ∧ w.cell? ⟨b, o + i * 4 + 1, none⟩ = some (.int .i64 l[i].a.x) ∧ w.cell? ⟨b, o + i * 4 + 2, none⟩ = some (.int .i64 l[i].b.e) ∧ w.cell? ⟨b, o + i * 4 + 3, none⟩ = some (.int .i64 l[i].b.x) := by
  obtain ⟨b, o, rfl, hb, hc⟩ := IsRow.at h i hi
  simp only [getD_at l i hi] at hc
  exact ⟨b, o, rfl, hb, hc 0 (by omega), hc 1 (by omega), hc 2 (by omega), hc 3 (by omega)⟩
theorem IsSgs.at {w : World} {a : Option Addr} {c m : Nat} {l : List Sg} (h : IsSgs w (.slice a m c) l) (i : Nat) (hi : i < l.length) :
    ∃ b o, a = some ⟨b, o, none⟩ ∧ b < w.heap.size ∧ w.cell? ⟨b, o + i * 4, none⟩ = some (.string l[i].n) ∧ w.cell? ⟨b, o + i * 4 + 1, none⟩ = some (.int .i64 l[i].at_.e) ∧ w.cell? ⟨b, o + i * 4 + 2, none⟩ = some (.int .i64 l[i].at_.x) ∧ w.cell? ⟨b, o + i * 4 + 3, none⟩ = some (.bool l[i].auto) := by
  obtain ⟨b, o, rfl, hb, hc⟩ := IsRow.at h i hi
  simp only [getD_at l i hi] at hc
  exact ⟨b, o, rfl, hb, hc 0 (by omega), hc 1 (by omega), hc 2 (by omega), hc 3 (by omega)⟩
theorem IsLns.at {w : World} {a : Option Addr} {c m : Nat} {l : List Ln} (h : IsLns w (.slice a m c) l) (i : Nat) (hi : i < l.length) :
    ∃ b o u, a = some ⟨b, o, none⟩ ∧ b < w.heap.size ∧ w.cell? ⟨b, o + i * 2, none⟩ = some (.string l[i].n) ∧ w.cell? ⟨b, o + i * 2 + 1, none⟩ = some u ∧ IsVals w u (l[i].es.map (Value.int .i64)) := by
  obtain ⟨S, h1, h2⟩ := h
  obtain ⟨b, o, rfl, hb, hc⟩ := IsRow.at h1 i hi
  have h3 := h2 i hi
  simp only [getD_at l i hi] at hc h3
  exact ⟨b, o, S i, rfl, hb, hc 0 (by omega), hc 1 (by omega), h3⟩
def plnV (P : Pln) (e j s l : Value) : Value := .agg #[e, j, s, l, .int .i64 P.top, .int .i64 P.brake, .int .i64 P.margin, .int .i64 P.throw, .bool P.hard]
def IsPln (w : World) (v : Value) (P : Pln) : Prop :=
  ∃ a1 c1 a2 c2 a3 c3 a4 c4, v = plnV P (.slice a1 P.es.length c1) (.slice a2 P.js.length c2) (.slice a3 P.ss.length c3) (.slice a4 P.ls.length c4) ∧
    IsEles w (.slice a1 P.es.length c1) P.es ∧ IsJns w (.slice a2 P.js.length c2) P.js ∧ IsSgs w (.slice a3 P.ss.length c3) P.ss ∧ IsLns w (.slice a4 P.ls.length c4) P.ls
theorem IsPln.gr {w w' : World} {v : Value} {P : Pln} (h : IsPln w v P) (g : Gr w w') : IsPln w' v P := by
  obtain ⟨a1, c1, a2, c2, a3, c3, a4, c4, rfl, h1, h2, h3, h4⟩ := h
  exact ⟨a1, c1, a2, c2, a3, c3, a4, c4, rfl, h1.gr g, h2.gr g, h3.gr g, h4.gr g⟩
theorem IsRow.len {w : World} {v : Value} {sz n : Nat} {C : Nat → Nat → Value} (h : IsRow w v sz n C) : n ≤ maxLen := by
  obtain ⟨a, c, rfl, hm, _⟩ := h; exact hm
end Go.Proofs.YtgjnlgcdpbilfaaGreatDoor
namespace Go.Proofs.YtgjnlgcdpbilfaaGreatDoor
open Go.ChangeShapes Go.WideShapes Go.ChangeAt Go.RowKit
set_option linter.unusedVariables false
set_option linter.unusedSimpArgs false

def kindP (P : Pln) (i : Int) : Int := if 0 ≤ i ∧ i < P.es.length then (P.es.getD i.toNat default).k else 0
def lenP (P : Pln) (i : Int) : Int := if 0 ≤ i ∧ i < P.es.length then (P.es.getD i.toNat default).l else 0
theorem kindP_in (P : Pln) (k : Nat) (h : k < P.es.length) : kindP P k = P.es[k].k := by
  unfold kindP; rw [if_pos (by omega), Int.toNat_natCast, getD_at _ _ h]
theorem lenP_in (P : Pln) (k : Nat) (h : k < P.es.length) : lenP P k = P.es[k].l := by
  unfold lenP; rw [if_pos (by omega), Int.toNat_natCast, getD_at _ _ h]
theorem kindP_out (P : Pln) (i : Int) (h : ¬ (0 ≤ i ∧ i < P.es.length)) : kindP P i = 0 := by unfold kindP; rw [if_neg h]
theorem lenP_out (P : Pln) (i : Int) (h : ¬ (0 ≤ i ∧ i < P.es.length)) : lenP P i = 0 := by unfold lenP; rw [if_neg h]
theorem kind_any (v : Value) (P : Pln) (i : Int) (w : World) (hP : IsPln w v P) :
    Calls Tryz.prog 98 #[v, .int .i64 i] w fun e w' => e = .returned (.int .i64 (kindP P i)) ∧ Gr w w' := by
  obtain ⟨a1, c1, a2, c2, a3, c3, a4, c4, rfl, h1, -, -, -⟩ := hP
  unfold plnV
  have hm := IsRow.len h1
  unfold maxLen at hm
  by_cases hi : 0 ≤ i ∧ i < P.es.length
  · obtain ⟨k, rfl⟩ := Int.eq_ofNat_of_zero_le hi.1
    have hk : k < P.es.length := by omega
    have HN := Lib.hid (kindP_in P k hk)
    obtain ⟨b, o, rfl, hb, -, x1, -⟩ := h1.at k hk
    clear hi h1
    go_enter Tryz.func98, Tryz.ntmps98
    go_wp2
    go_ret
    exact ⟨ret_int HN.out.symm, (Gr.refl _).alloc _⟩
  · have HN := Lib.hid (kindP_out P i hi)
    have hi' : i < 0 ∨ (P.es.length : Int) ≤ i := by omega
    clear hi h1
    rcases hi' with hi | hi
    all_goals
      go_enter Tryz.func98, Tryz.ntmps98
      go_wp2
      go_ret
      exact ⟨ret_int HN.out.symm, (Gr.refl _).alloc _⟩
theorem length_any (v : Value) (P : Pln) (i : Int) (w : World) (hP : IsPln w v P) :
    Calls Tryz.prog 103 #[v, .int .i64 i] w fun e w' => e = .returned (.int .i64 (lenP P i)) ∧ Gr w w' := by
  obtain ⟨a1, c1, a2, c2, a3, c3, a4, c4, rfl, h1, -, -, -⟩ := hP
  unfold plnV
  have hm := IsRow.len h1
  unfold maxLen at hm
  by_cases hi : 0 ≤ i ∧ i < P.es.length
  · obtain ⟨k, rfl⟩ := Int.eq_ofNat_of_zero_le hi.1
    have hk : k < P.es.length := by omega
    have HN := Lib.hid (lenP_in P k hk)
    obtain ⟨b, o, rfl, hb, -, -, x1⟩ := h1.at k hk
    clear hi h1
    go_enter Tryz.func103, Tryz.ntmps103
    go_wp2
    go_ret
    exact ⟨ret_int HN.out.symm, (Gr.refl _).alloc _⟩
  · have HN := Lib.hid (lenP_out P i hi)
    have hi' : i < 0 ∨ (P.es.length : Int) ≤ i := by omega
    clear hi h1
    rcases hi' with hi | hi
    all_goals
      go_enter Tryz.func103, Tryz.ntmps103
      go_wp2
      go_ret
      exact ⟨ret_int HN.out.symm, (Gr.refl _).alloc _⟩
def endsK (k : Int) : Int := if k = 1 then 2 else if k = 2 then 3 else if k = 3 then 4 else if k = 4 then 1 else 0
theorem endsR_any (k : Int) (w : World) : Calls Tryz.prog 95 #[.int .i64 k] w fun e w' => e = .returned (.int .i64 (endsK k)) ∧ w' = w := by
  by_cases e1 : k = 1
  · subst e1
    go_enter Tryz.func95, Tryz.ntmps95
    go_wp2
    go_ret
    exact ⟨rfl, rfl⟩
  by_cases e2 : k = 2
  · subst e2
    go_enter Tryz.func95, Tryz.ntmps95
    go_wp2
    go_ret
    exact ⟨rfl, rfl⟩
  by_cases e3 : k = 3
  · subst e3
    go_enter Tryz.func95, Tryz.ntmps95
    go_wp2
    go_ret
    exact ⟨rfl, rfl⟩
  by_cases e4 : k = 4
  · subst e4
    go_enter Tryz.func95, Tryz.ntmps95
    go_wp2
    go_ret
    exact ⟨rfl, rfl⟩
  have t1 : (k == 1) = false := by simpa using e1
  have t2 : (k == 2) = false := by simpa using e2
  have t3 : (k == 3) = false := by simpa using e3
  have t4 : (k == 4) = false := by simpa using e4
  have HN : Hid (endsK k = 0) := by unfold Hid endsK; rw [if_neg e1, if_neg e2, if_neg e3, if_neg e4]
  clear e1 e2 e3 e4
  go_enter Tryz.func95, Tryz.ntmps95
  go_wp2
  go_ret
  exact ⟨ret_int HN.out.symm, rfl⟩
def hasP (P : Pln) (x : Prt) : Bool := decide (0 ≤ x.e) && decide (x.e < P.es.length) && decide (0 ≤ x.x) && decide (x.x < endsK (kindP P x.e))
theorem has_any (v : Value) (P : Pln) (x : Prt) (w : World) (hP : IsPln w v P) :
    Calls Tryz.prog 96 #[v, x.v] w fun e w' => e = .returned (.bool (hasP P x)) ∧ Gr w w' := by
  obtain ⟨a1, c1, a2, c2, a3, c3, a4, c4, rfl, h1, -, -, -⟩ := hP
  obtain ⟨xe, xx⟩ := x
  unfold plnV Prt.v
  have hm := IsRow.len h1
  unfold maxLen at hm
  by_cases hi : 0 ≤ xe ∧ xe < P.es.length
  · obtain ⟨k, rfl⟩ := Int.eq_ofNat_of_zero_le hi.1
    have hk : k < P.es.length := by omega
    have HK := kindP_in P k hk
    obtain ⟨b, o, rfl, hb, -, y1, -⟩ := h1.at k hk
    have HN : Hid (hasP P ⟨k, xx⟩ = (decide (0 ≤ xx) && decide (xx < endsK P.es[k].k))) := by
      unfold Hid hasP
      rw [HK]
      simp [hk]
    clear hi h1 HK
    by_cases hx : ¬ 0 ≤ xx
    · have HN' : Hid (hasP P ⟨k, xx⟩ = false) := by unfold Hid; rw [HN.out]; simp; omega
      clear HN
      go_enter Tryz.func96, Tryz.ntmps96
      go_wp2_with fail
      have tx : ¬ 0 ≤ xx := by omega
      go_quiet (fail)
      go_wp2
      go_ret
      exact ⟨ret_bool HN'.out.symm, by first | exact ((Gr.refl _).alloc _).alloc _ | exact (((Gr.refl _).alloc _).alloc _).drewN _⟩
    have HN' : Hid (hasP P ⟨k, xx⟩ = decide (xx < endsK P.es[k].k)) := by unfold Hid; rw [HN.out]; simp; omega
    clear HN
    generalize P.es[k].k = kk at *
    go_enter Tryz.func96, Tryz.ntmps96
    go_wp2_with fail
    go_quiet ((go_at_call 95; exact Calls.quiet_of_same (endsR_any _ _)))
    go_wp2
    go_ret
    exact ⟨ret_bool HN'.out.symm, by first | exact ((Gr.refl _).alloc _).alloc _ | exact (((Gr.refl _).alloc _).alloc _).drewN _⟩
  · have HN : Hid (hasP P ⟨xe, xx⟩ = false) := by unfold Hid hasP; simp; omega
    have hi' : ¬ 0 ≤ xe ∨ (0 ≤ xe ∧ ¬ xe < (P.es.length : Int)) := by omega
    clear hi h1
    rcases hi' with hi | ⟨hi2, hi⟩
    · go_enter Tryz.func96, Tryz.ntmps96
      go_wp2_with fail
      have tx : ¬ 0 ≤ xe := by omega
      go_quiet (fail)
      go_wp2
      go_ret
      exact ⟨ret_bool HN.out.symm, by first | exact ((Gr.refl _).alloc _).alloc _ | exact (((Gr.refl _).alloc _).alloc _).drewN _⟩
    ·
      go_enter Tryz.func96, Tryz.ntmps96
      go_wp2_with fail
      have tx : ¬ xe < (P.es.length : Int) := by omega
      go_quiet (fail)
      go_wp2
      go_ret
      exact ⟨ret_bool HN.out.symm, by first | exact ((Gr.refl _).alloc _).alloc _ | exact (((Gr.refl _).alloc _).alloc _).drewN _⟩
end Go.Proofs.YtgjnlgcdpbilfaaGreatDoor
