/- WordBack: what is written is read as that number. -/
import Derived.Test.YthhakjckbnoefaaDoorRows
import Derived.Test.YthhakjckbnoefaaDoorWrd7
namespace Go.Proofs.YthhakjckbnoefaaDoor
open Go.ChangeShapes Go.WideShapes Go.ChangeAt Go.RowKit
set_option linter.unusedVariables false
set_option linter.unusedSimpArgs false

theorem bt_app (a b : ByteArray) (i : Nat) : bt (a ++ b) i = if i < a.size then bt a i else bt b (i - a.size) := by
  unfold bt
  have e : (a ++ b).data.toList = a.data.toList ++ b.data.toList := by simp [ByteArray.data_append]
  have hl : a.data.toList.length = a.size := by simp
  rw [e, List.getD_eq_getElem?_getD, List.getElem?_append, hl]
  by_cases h : i < a.size
  · rw [if_pos h, if_pos h, List.getD_eq_getElem?_getD]
  · rw [if_neg h, if_neg h, List.getD_eq_getElem?_getD]
theorem size_app (a b : ByteArray) : (a ++ b).size = a.size + b.size := ByteArray.size_append
theorem bt_one (x : UInt8) : bt ⟨#[x]⟩ 0 = (x.toNat : Int) := rfl
theorem nvB_app (a b : ByteArray) : ∀ k, k ≤ a.size → nvB (a ++ b) k = nvB a k
  | 0, _ => rfl
  | k + 1, h => by
    simp only [nvB]
    rw [nvB_app a b k (by omega), bt_app, if_pos (by omega)]
theorem dg_byte (d : Int) (h0 : 0 ≤ d) (h1 : d < 10) : ((UInt8.ofNat (48 + d).toNat).toNat : Int) = 48 + d := by
  rw [UInt8.toNat_ofNat_of_lt' (by show (48 + d).toNat < 256; omega)]
  omega

/-- WHAT THE DIGITS OF A NUMBER ARE. -/
theorem dgs_spec : ∀ (k : Nat) (n : Int), 0 ≤ n → n < 10 ^ (k + 1) →
    1 ≤ (dgs n).size ∧ (dgs n).size ≤ k + 1 ∧ (∀ i, i < (dgs n).size → 48 ≤ bt (dgs n) i ∧ bt (dgs n) i ≤ 57) ∧ nvB (dgs n) (dgs n).size = n ∧ (n < 10 → (dgs n).size = 1) ∧ (0 < n → bt (dgs n) 0 ≠ 48) := by
  intro k
  induction k with
  | zero =>
    intro n h0 h1
    have h1' : n < 10 := by simpa using h1
    have hd := dg_byte n h0 h1'
    have hs : (⟨#[UInt8.ofNat (48 + n).toNat]⟩ : ByteArray).size = 1 := rfl
    rw [itoa_small h0 h1']
    refine ⟨by rw [hs]; omega, by rw [hs]; omega, ?_, ?_, fun _ => hs, ?_⟩
    · intro i hi
      rw [hs] at hi
      obtain rfl : i = 0 := by omega
      rw [bt_one, hd]; omega
    · rw [hs]
      simp only [nvB]
      rw [bt_one, hd]; omega
    · intro hn
      rw [bt_one, hd]; omega
  | succ k ih =>
    intro n h0 h1
    by_cases hs : n < 10
    · have hd := dg_byte n h0 hs
      have hz : (⟨#[UInt8.ofNat (48 + n).toNat]⟩ : ByteArray).size = 1 := rfl
      rw [itoa_small h0 hs]
      refine ⟨by rw [hz]; omega, by rw [hz]; omega, ?_, ?_, fun _ => hz, ?_⟩
      · intro i hi
        rw [hz] at hi
        obtain rfl : i = 0 := by omega
        rw [bt_one, hd]; omega
      · rw [hz]
        simp only [nvB]
        rw [bt_one, hd]; omega
      · intro hn
        rw [bt_one, hd]; omega
    · have e : (10 : Int) ^ (k + 1 + 1) = 10 * 10 ^ (k + 1) := by rw [Int.pow_succ, Int.mul_comm]
      obtain ⟨a1, a2, a3, a4, a5, a6⟩ := ih (n / 10) (by omega) (by omega)
      have hd := dg_byte (n % 10) (by omega) (by omega)
      have hz : (⟨#[UInt8.ofNat (48 + n % 10).toNat]⟩ : ByteArray).size = 1 := rfl
      rw [itoa_big (by omega)]
      have hsz : (dgs (n / 10) ++ ⟨#[UInt8.ofNat (48 + n % 10).toNat]⟩).size = (dgs (n / 10)).size + 1 := by rw [size_app, hz]
      refine ⟨by rw [hsz]; omega, by rw [hsz]; omega, ?_, ?_, fun h => absurd h hs, ?_⟩
      · intro i hi
        rw [hsz] at hi
        rw [bt_app]
        by_cases hj : i < (dgs (n / 10)).size
        · rw [if_pos hj]; exact a3 i hj
        · rw [if_neg hj, show i - (dgs (n / 10)).size = 0 from by omega, bt_one, hd]; omega
      · rw [hsz]
        simp only [nvB]
        rw [nvB_app _ _ _ (Nat.le_refl _), a4, bt_app, if_neg (by omega), Nat.sub_self, bt_one, hd]; omega
      · intro hn
        rw [bt_app, if_pos (by omega)]
        exact a6 (by omega)

theorem back_num (v : Int) (h0 : 0 ≤ v) (h1 : v < 1000000000) : 1 ≤ (dgs v).size ∧ (dgs v).size ≤ 9 ∧ numB (dgs v) (dgs v).size = true ∧ numN (dgs v) (dgs v).size = v ∧ numB (dgs v) ((dgs v).size - 1) = false ∧ numB (⟨#[48]⟩ ++ dgs v) 9 = false := by
  obtain ⟨a1, a2, a3, a4, a5, a6⟩ := dgs_spec 8 v h0 (by simpa using h1)
  have hb : numB (dgs v) (dgs v).size = true := by
    refine (numB_iff _ _).2 ⟨by omega, by omega, by omega, by omega, ?_, a3⟩
    rintro ⟨p, q⟩
    by_cases hv : v < 10
    · have := a5 hv; omega
    · exact a6 (by omega) q
  refine ⟨a1, by omega, hb, by unfold numN; rw [hb, if_pos rfl]; exact a4, (numB_not (s := dgs v) (d := (dgs v).size - 1) fun h => by omega).1, (numB_not (s := ⟨#[48]⟩ ++ dgs v) (d := 9) ?_).1⟩
  intro h
  refine h.2.2.2.2.1 ⟨by rw [size_app]; show 1 < 1 + (dgs v).size; omega, ?_⟩
  rw [bt_app, if_pos (by decide)]
  rfl

set_option maxHeartbeats 200000 in
theorem wordBack_walk (n : Int) (w : World) (ht : Tabs w) (wn : (Lit.int .u32 n).wf = true) :
    Calls Tryd.prog 8 #[.int .u32 n] w fun e w' => e = .returned (.bool true) ∧ Gr w w' := by
  have hb : 0 ≤ n ∧ n ≤ 4294967295 := by simpa [Lit.wf, IntKind.min, IntKind.max, IntKind.signed, IntKind.bits] using wn
  have hm0 : 0 ≤ n % 1000000000 := by omega
  have hm1 : n % 1000000000 < 1000000000 := by omega
  obtain ⟨b1, b2, b3, b4, b5, b6⟩ := back_num (n % 1000000000) hm0 hm1
  have wv : (Lit.int .i64 (n % 1000000000)).wf = true := by simp [Lit.wf, IntKind.min, IntKind.max, IntKind.signed, IntKind.bits]; omega
  have HD := Lib.hid (digits_word _ wv)
  generalize hV : n % 1000000000 = v at *
  have hv : 0 ≤ v ∧ v < 1000000000 := ⟨hm0, hm1⟩
  have HS := Lib.hid (show (⟨#[48]⟩ ++ dgs v : ByteArray).size ≤ maxLen from by rw [size_app]; unfold maxLen; have : (⟨#[48]⟩ : ByteArray).size = 1 := rfl; omega)
  have z1 : ¬ (((dgs v).size : Int) < 1) := by omega
  have z2 : ¬ (9 < ((dgs v).size : Int)) := by omega
  have z3 : ¬ 9223372036854775807 < 1 + (dgs v).size := by omega
  have B3 := Lib.hid b3
  have B4 := Lib.hid b4
  have B5 := Lib.hid b5
  have B6 := Lib.hid b6
  have HSd := Lib.hid (show (dgs v).size ≤ maxLen from by unfold maxLen; omega)
  have HN : Hid (∀ w : World, Calls Tryd.prog 17 #[.string (⟨#[48]⟩ ++ dgs v), .int .i64 9] w fun e w' => e = .returned (.tuple #[.int .i64 0, .bool false]) ∧ w' = w) := fun w => by
    have h := number_any (⟨#[48]⟩ ++ dgs v) 9 HS.out w
    rw [b6, show numN (⟨#[48]⟩ ++ dgs v) 9 = 0 from by unfold numN; rw [b6]; rfl] at h
    exact h
  clear b3 b4 b5 b6 B6 HS
  go_enter Tryd.func8, Tryd.ntmps8
  go_wp2_with fail
  refine (known1_any _ ht).mono ?_
  rintro e w1 ⟨rfl, h1⟩
  have ht1 := ht.gr h1
  go_wp2_with fail
  refine (HD.out _ ht1).mono ?_
  rintro e w2 ⟨rfl, h2⟩
  go_wp2_with fail
  refine (number_any (dgs v) (dgs v).size HSd.out _).mono ?_
  rintro e w3 ⟨rfl, rfl⟩
  rw [B3.out, B4.out]
  go_wp2_with fail
  refine (number_any (dgs v) ((dgs v).size - 1) HSd.out _).mono ?_
  rintro e w3 ⟨rfl, rfl⟩
  rw [B5.out]
  go_wp2_with fail
  refine (HN.out _).mono ?_
  rintro e w3 ⟨rfl, rfl⟩
  go_wp2_with fail
  go_ret
  exact ⟨ret_bool (by simp), h1.trans h2⟩
end Go.Proofs.YthhakjckbnoefaaDoor
