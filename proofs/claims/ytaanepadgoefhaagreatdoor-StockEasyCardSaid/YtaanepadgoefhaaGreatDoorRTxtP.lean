/- Numbers and words as texts, there and back: plain. No program. -/
import Derived.Test.YtaanepadgoefhaaGreatDoorRWrdQ
import Derived.Test.YtaanepadgoefhaaGreatDoorRDgsP
import Derived.Lib.Join
import Derived.Test.YtaanepadgoefhaaGreatDoorB6
namespace Go.Proofs.YtaanepadgoefhaaGreatDoor
open Go.ChangeShapes Go.WideShapes Go.ChangeAt Go.RowKit
set_option linter.unusedVariables false
set_option linter.unusedSimpArgs false

theorem bt_app (a b : ByteArray) (i : Nat) : bt (a ++ b) i = if i < a.size then bt a i else bt b (i - a.size) := by
  unfold bt
  have e : (a ++ b).data.toList = a.data.toList ++ b.data.toList := by simp [ByteArray.data_append]
  have hl : a.data.toList.length = a.size := by simp
  rw [e, List.getD_eq_getElem?_getD, List.getElem?_append, hl]
  by_cases h : i < a.size
  · rw [if_pos h, if_pos h, List.getD_eq_getElem?_getD]
  · rw [if_neg h, if_neg h, List.getD_eq_getElem?_getD]
theorem size_app (a b : ByteArray) : (a ++ b).size = a.size + b.size := ByteArray.size_append
theorem bt_one (x : UInt8) : bt ⟨#[x]⟩ 0 = (x.toNat : Int) := rfl
theorem nvB_app (a b : ByteArray) : ∀ k, k ≤ a.size → nvB (a ++ b) k = nvB a k
  | 0, _ => rfl
  | k + 1, h => by
    simp only [nvB]
    rw [nvB_app a b k (by omega), bt_app, if_pos (by omega)]
theorem dg_byte (d : Int) (h0 : 0 ≤ d) (h1 : d < 10) : ((UInt8.ofNat (48 + d).toNat).toNat : Int) = 48 + d := by
  rw [UInt8.toNat_ofNat_of_lt' (by show (48 + d).toNat < 256; omega)]
  omega

/-- WHAT THE DIGITS OF A NUMBER ARE. -/
theorem dgs_spec : ∀ (k : Nat) (n : Int), 0 ≤ n → n < 10 ^ (k + 1) →
    1 ≤ (dgs n).size ∧ (dgs n).size ≤ k + 1 ∧ (∀ i, i < (dgs n).size → 48 ≤ bt (dgs n) i ∧ bt (dgs n) i ≤ 57) ∧ nvB (dgs n) (dgs n).size = n ∧ (n < 10 → (dgs n).size = 1) ∧ (0 < n → bt (dgs n) 0 ≠ 48) := by
  intro k
  induction k with
  | zero =>
    intro n h0 h1
    have h1' : n < 10 := by simpa using h1
    have hd := dg_byte n h0 h1'
    have hs : (⟨#[UInt8.ofNat (48 + n).toNat]⟩ : ByteArray).size = 1 := rfl
    rw [itoa_small h0 h1']
    refine ⟨by rw [hs]; omega, by rw [hs]; omega, ?_, ?_, fun _ => hs, ?_⟩
    · intro i hi
      rw [hs] at hi
      obtain rfl : i = 0 := by omega
      rw [bt_one, hd]; omega
    · rw [hs]
      simp only [nvB]
      rw [bt_one, hd]; omega
    · intro hn
      rw [bt_one, hd]; omega
  | succ k ih =>
    intro n h0 h1
    by_cases hs : n < 10
    · have hd := dg_byte n h0 hs
      have hz : (⟨#[UInt8.ofNat (48 + n).toNat]⟩ : ByteArray).size = 1 := rfl
      rw [itoa_small h0 hs]
      refine ⟨by rw [hz]; omega, by rw [hz]; omega, ?_, ?_, fun _ => hz, ?_⟩
      · intro i hi
        rw [hz] at hi
        obtain rfl : i = 0 := by omega
        rw [bt_one, hd]; omega
      · rw [hz]
        simp only [nvB]
        rw [bt_one, hd]; omega
      · intro hn
        rw [bt_one, hd]; omega
    · have e : (10 : Int) ^ (k + 1 + 1) = 10 * 10 ^ (k + 1) := by rw [Int.pow_succ, Int.mul_comm]
      obtain ⟨a1, a2, a3, a4, a5, a6⟩ := ih (n / 10) (by omega) (by omega)
      have hd := dg_byte (n % 10) (by omega) (by omega)
      have hz : (⟨#[UInt8.ofNat (48 + n % 10).toNat]⟩ : ByteArray).size = 1 := rfl
      rw [itoa_big (by omega)]
      have hsz : (dgs (n / 10) ++ ⟨#[UInt8.ofNat (48 + n % 10).toNat]⟩).size = (dgs (n / 10)).size + 1 := by rw [size_app, hz]
      refine ⟨by rw [hsz]; omega, by rw [hsz]; omega, ?_, ?_, fun h => absurd h hs, ?_⟩
      · intro i hi
        rw [hsz] at hi
        rw [bt_app]
        by_cases hj : i < (dgs (n / 10)).size
        · rw [if_pos hj]; exact a3 i hj
        · rw [if_neg hj, show i - (dgs (n / 10)).size = 0 from by omega, bt_one, hd]; omega
      · rw [hsz]
        simp only [nvB]
        rw [nvB_app _ _ _ (Nat.le_refl _), a4, bt_app, if_neg (by omega), Nat.sub_self, bt_one, hd]; omega
      · intro hn
        rw [bt_app, if_pos (by omega)]
        exact a6 (by omega)

theorem back_num (v : Int) (h0 : 0 ≤ v) (h1 : v < 1000000000) : 1 ≤ (dgs v).size ∧ (dgs v).size ≤ 9 ∧ numB (dgs v) (dgs v).size = true ∧ numN (dgs v) (dgs v).size = v ∧ numB (dgs v) ((dgs v).size - 1) = false ∧ numB (⟨#[48]⟩ ++ dgs v) 9 = false := by
  obtain ⟨a1, a2, a3, a4, a5, a6⟩ := dgs_spec 8 v h0 (by simpa using h1)
  have hb : numB (dgs v) (dgs v).size = true := by
    refine (numB_iff _ _).2 ⟨by omega, by omega, by omega, by omega, ?_, a3⟩
    rintro ⟨p, q⟩
    by_cases hv : v < 10
    · have := a5 hv; omega
    · exact a6 (by omega) q
  refine ⟨a1, by omega, hb, by unfold numN; rw [hb, if_pos rfl]; exact a4, (numB_not (s := dgs v) (d := (dgs v).size - 1) fun h => by omega).1, (numB_not (s := ⟨#[48]⟩ ++ dgs v) (d := 9) ?_).1⟩
  intro h
  refine h.2.2.2.2.1 ⟨by rw [size_app]; show 1 < 1 + (dgs v).size; omega, ?_⟩
  rw [bt_app, if_pos (by decide)]
  rfl

def wordB (x : ByteArray) : Prop := x.data.toList ≠ [] ∧ ∀ c ∈ x.data.toList, wrdB c = true
theorem wordB_of {x : ByteArray} (h0 : x.size ≠ 0) (h : ∀ j, j < x.size → 33 ≤ bt x j ∧ bt x j ≤ 126) : wordB x := by
  refine ⟨fun e => h0 (by have := congrArg List.length e; rw [show ∀ x : ByteArray, x.data.toList.length = x.size from fun x => by simp] at this; exact this), ?_⟩
  intro c hc
  obtain ⟨i, hi, he⟩ := List.mem_iff_getElem.1 hc
  have hi' : i < x.size := by simpa using hi
  have hb := h i hi'
  rw [bt_get x i hi'] at hb
  have : x[i] = c := he
  rw [this] at hb
  unfold wrdB
  simp only [Bool.and_eq_true, decide_eq_true_eq]
  exact hb
theorem wdsA_pre (t : List UInt8) : ∀ (p acc : List UInt8), (∀ c ∈ p, wrdB c = true) → wdsA acc (p ++ t) = wdsA (acc ++ p) t
  | [], acc, _ => by simp
  | c :: p, acc, h => by
    have hc : wrdB c = true := h c (by simp)
    rw [List.cons_append, wdsA, if_pos hc, wdsA_pre t p _ fun d hd => h d (by simp [hd])]
    simp
theorem w32 : wrdB 32 = false := by decide
theorem wdsA_blank (acc t : List UInt8) (h : acc ≠ []) : wdsA acc (32 :: t) = (wdsA [] t).map (acc :: ·) := by
  rw [wdsA, if_neg (by rw [w32]; exact Bool.false_ne_true), if_pos ⟨rfl, h⟩]
theorem wdsA_blank0 (t : List UInt8) : wdsA [] (32 :: t) = none := by
  rw [wdsA, if_neg (by rw [w32]; exact Bool.false_ne_true), if_neg (by simp)]

/-- the words with single blanks between -/
def jnW (L : List ByteArray) : ByteArray := ⟨(Lib.join (L.map (·.data.toList)) [32]).toArray⟩
theorem join_cons (a : List UInt8) (r : List (List UInt8)) (sep : List UInt8) (h : r ≠ []) : Lib.join (a :: r) sep = a ++ sep ++ Lib.join r sep := by
  unfold Lib.join
  cases r with
  | nil => exact absurd rfl h
  | cons b t => simp [List.intercalate, List.intersperse]
theorem splA_ne : ∀ (l acc : List UInt8), splA acc l ≠ []
  | [], acc => by simp [splA]
  | c :: t, acc => by
    unfold splA
    split
    · simp
    · exact splA_ne t _
theorem join_spl : ∀ (l acc : List UInt8), Lib.join (splA acc l) [32] = acc ++ l
  | [], acc => by simp [splA, Lib.join_one]
  | c :: t, acc => by
    unfold splA
    split
    · rename_i h
      rw [join_cons _ _ _ (splA_ne t []), join_spl t []]
      simp [h]
    · rw [join_spl t]; simp
theorem map_toB (L : List (List UInt8)) : (L.map toB).map (·.data.toList) = L := by
  rw [List.map_map]
  have : ((fun x : ByteArray => x.data.toList) ∘ toB) = id := by funext l; simp [toB]
  rw [this, List.map_id]
theorem okW_word {x : List UInt8} (h : okW x = true) : wordB (toB x) := by
  unfold okW at h
  simp only [Bool.and_eq_true, Bool.not_eq_true', List.all_eq_true] at h
  refine ⟨?_, ?_⟩
  · intro e
    have e2 : x = [] := by simpa [toB] using e
    rw [e2] at h
    simp at h
  · intro c hc
    exact h.2 c (by simpa [toB] using hc)
/-- what has words is their join -/
theorem wdB_inv {s : ByteArray} {L : List ByteArray} (h : wdB s = some L) : s = jnW L ∧ L ≠ [] ∧ ∀ x ∈ L, wordB x := by
  unfold wdB at h
  rw [wdsA_splA _ _ rfl] at h
  split at h
  · rename_i ho
    simp only [Option.map_some, Option.some.injEq] at h
    subst h
    refine ⟨?_, ?_, ?_⟩
    · unfold jnW
      rw [map_toB, join_spl, List.nil_append]
    · intro e
      exact splA_ne _ _ (List.map_eq_nil_iff.1 e)
    · intro x hx
      obtain ⟨y, hy, rfl⟩ := List.mem_map.1 hx
      exact okW_word (List.all_eq_true.1 ho y hy)
  · cases h
theorem wdsA_join : ∀ (L : List ByteArray) (b : ByteArray), wordB b → (∀ x ∈ L, wordB x) → wdsA [] (Lib.join ((b :: L).map (·.data.toList)) [32]) = some ((b :: L).map (·.data.toList))
  | [], b, hb, _ => by
    show wdsA [] (Lib.join [b.data.toList] [32]) = some [b.data.toList]
    rw [Lib.join_one]
    have := wdsA_pre [] b.data.toList [] hb.2
    rw [List.append_nil, List.nil_append] at this
    rw [this, wdsA, if_neg hb.1]
  | a :: t, b, hb, h => by
    have ih := wdsA_join t a (h a (List.mem_cons_self ..)) (fun x hx => h x (List.mem_cons_of_mem _ hx))
    show wdsA [] (Lib.join (b.data.toList :: ((a :: t).map (·.data.toList))) [32]) = _
    rw [join_cons _ _ _ (by simp), List.append_assoc, wdsA_pre _ _ _ hb.2, List.nil_append]
    show wdsA b.data.toList (32 :: Lib.join ((a :: t).map (·.data.toList)) [32]) = _
    rw [wdsA_blank _ _ hb.1, ih]; rfl
/-- a join of words has them -/
theorem wdB_jnW (L : List ByteArray) (hL : L ≠ []) (h : ∀ x ∈ L, wordB x) : wdB (jnW L) = some L := by
  cases L with
  | nil => exact absurd rfl hL
  | cons b t =>
    unfold wdB jnW
    show (wdsA [] (Lib.join ((b :: t).map (·.data.toList)) [32])).map (·.map toB) = _
    rw [wdsA_join t b (h b (List.mem_cons_self ..)) (fun x hx => h x (List.mem_cons_of_mem _ hx))]
    show some (((b :: t).map (·.data.toList)).map toB) = _
    rw [List.map_map]
    have : (toB ∘ fun x : ByteArray => x.data.toList) = id := by funext x; exact toB_data x
    rw [this, List.map_id]
theorem wdB_one {s k : ByteArray} (h : wdB s = some [k]) : s = k := by
  rw [(wdB_inv h).1]
  show (⟨(Lib.join [k.data.toList] [32]).toArray⟩ : ByteArray) = k
  rw [Lib.join_one]
theorem jnW_cons (b a : ByteArray) (t : List ByteArray) : jnW (b :: a :: t) = b ++ ⟨#[32]⟩ ++ jnW (a :: t) := by
  apply ByteArray.ext
  apply Array.toList_inj.1
  show (Lib.join (b.data.toList :: ((a :: t).map (·.data.toList))) [32]) = _
  rw [join_cons _ _ _ (by simp)]
  simp [ByteArray.data_append, jnW]
/-- a number of so few digits is read as it was -/
theorem num_dgs (k : Nat) (n : Int) (h0 : 0 ≤ n) (h1 : n < 10 ^ (k + 1)) (hk : k + 1 ≤ 9) : numB (dgs n) ((k : Int) + 1) = true ∧ numN (dgs n) ((k : Int) + 1) = n := by
  obtain ⟨a1, a2, a3, a4, a5, a6⟩ := dgs_spec k n h0 h1
  have hb : numB (dgs n) ((k : Int) + 1) = true := by
    refine (numB_iff _ _).2 ⟨by omega, by omega, by omega, by omega, ?_, a3⟩
    rintro ⟨p, q⟩
    by_cases hv : n < 10
    · have := a5 hv; omega
    · exact a6 (by omega) q
  exact ⟨hb, by unfold numN; rw [hb, if_pos rfl]; exact a4⟩
theorem dgs_word (n : Int) (h0 : 0 ≤ n) (h1 : n < 1000000000) : wordB (dgs n) := by
  obtain ⟨a1, a2, a3, -⟩ := dgs_spec 8 n h0 (by simpa using h1)
  exact wordB_of (by omega) fun j hj => by have := a3 j hj; omega
theorem nvB_pos (s : ByteArray) (h0 : 49 ≤ bt s 0) : ∀ k : Nat, (∀ i, i < k + 1 → 48 ≤ bt s i) → 1 ≤ nvB s (k + 1)
  | 0, _ => by simp only [nvB]; omega
  | k + 1, h => by
    have ih := nvB_pos s h0 k fun i hi => h i (by omega)
    have hd := h (k + 1) (by omega)
    rw [nvB]; omega
theorem byte_bt (s : ByteArray) (i : Nat) (hi : i < s.size) : UInt8.ofNat (bt s i).toNat = s.data.toList[i]'(by simpa using hi) := by
  unfold bt
  have h' : i < s.data.toList.length := by simpa using hi
  rw [List.getD_eq_getElem?_getD, List.getElem?_eq_getElem h']
  simp
theorem dgs_pre (s : ByteArray) : ∀ k : Nat, k < s.size → (∀ i, i < k + 1 → 48 ≤ bt s i ∧ bt s i ≤ 57) → (k = 0 ∨ 49 ≤ bt s 0) → dgs (nvB s (k + 1)) = toB (s.data.toList.take (k + 1))
  | 0, hk, hd, _ => by
    have h0 := hd 0 (by omega)
    have hl : 0 < s.data.toList.length := by simpa using hk
    rw [show nvB s 1 = bt s 0 - 48 from by simp only [nvB]; omega, itoa_small (by omega) (by omega)]
    rw [show 48 + (bt s 0 - 48) = bt s 0 from by omega, byte_bt s 0 hk]
    rw [List.take_succ_eq_append_getElem hl]
    rfl
  | k + 1, hk, hd, hz => by
    have hz' : 49 ≤ bt s 0 := by rcases hz with h | h; omega; exact h
    have hp := nvB_pos s hz' k fun i hi => (hd i (by omega)).1
    have hdk := hd (k + 1) (by omega)
    have hl : k + 1 < s.data.toList.length := by simpa using hk
    have ih := dgs_pre s k (by omega) (fun i hi => hd i (by omega)) (.inr hz')
    have hn : nvB s (k + 1 + 1) = 10 * nvB s (k + 1) + (bt s (k + 1) - 48) := rfl
    rw [hn, itoa_big (by omega)]
    have hq : (10 * nvB s (k + 1) + (bt s (k + 1) - 48)) / 10 = nvB s (k + 1) := by omega
    have hr : (10 * nvB s (k + 1) + (bt s (k + 1) - 48)) % 10 = bt s (k + 1) - 48 := by omega
    rw [hq, hr, ih, show 48 + (bt s (k + 1) - 48) = bt s (k + 1) from by omega, byte_bt s (k + 1) hk, List.take_succ_eq_append_getElem hl]
    apply ByteArray.ext
    apply Array.toList_inj.1
    simp [ByteArray.data_append, toB]
/-- what is read as a number is written as it was -/
theorem dgs_num {s : ByteArray} {d : Int} (h : numB s d = true) : dgs (numN s d) = s := by
  obtain ⟨h1, h2, h3, h4, h5, h6⟩ := (numB_iff s d).1 h
  unfold numN
  rw [if_pos h]
  obtain ⟨k, hk⟩ : ∃ k, s.size = k + 1 := ⟨s.size - 1, by omega⟩
  have hz : k = 0 ∨ 49 ≤ bt s 0 := by
    by_cases e : k = 0
    · exact .inl e
    · have := h6 0 (by omega)
      have hne : bt s 0 ≠ 48 := fun e' => h5 ⟨by omega, e'⟩
      omega
  rw [hk, dgs_pre s k (by omega) (fun i hi => h6 i (by omega)) hz, List.take_of_length_le (by simp; omega), toB_data]
theorem dgs_neg (n : Int) (h : 0 < n) : dgs (-n) = ⟨#[45]⟩ ++ dgs n := by
  apply ByteArray.ext
  apply Array.toList_inj.1
  unfold dgs Lib.itoa
  rw [if_pos (by omega), if_neg (by omega)]
  simp [ByteArray.data_append]
  rw [show n.natAbs = n.toNat from by omega]
theorem word_app {a b : ByteArray} (ha : wordB a) (hb : wordB b) : wordB (a ++ b) := by
  refine ⟨?_, ?_⟩
  · intro e
    have : a.data.toList ++ b.data.toList = [] := by simpa [ByteArray.data_append] using e
    exact ha.1 (List.append_eq_nil_iff.1 this).1
  · intro c hc
    have : c ∈ a.data.toList ∨ c ∈ b.data.toList := by simpa [ByteArray.data_append] using hc
    rcases this with h | h
    · exact ha.2 c h
    · exact hb.2 c h
end Go.Proofs.YtaanepadgoefhaaGreatDoor
