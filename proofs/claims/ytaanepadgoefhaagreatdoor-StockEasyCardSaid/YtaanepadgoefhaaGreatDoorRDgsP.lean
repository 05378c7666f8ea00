/- Digits: plain. No program. -/
import Derived.Test.YtaanepadgoefhaaGreatDoorB3
import Derived.Lib.ItoaNum
namespace Go.Proofs.YtaanepadgoefhaaGreatDoor
open Go.ChangeShapes Go.WideShapes Go.ChangeAt Go.RowKit
set_option linter.unusedVariables false
set_option linter.unusedSimpArgs false

/-- a number as a text -/
def dgs (n : Int) : ByteArray := ⟨(Lib.itoa n).toArray⟩

theorem itoa_small {n : Int} (h0 : 0 ≤ n) (h1 : n < 10) : dgs n = ⟨#[UInt8.ofNat (48 + n).toNat]⟩ := by
  unfold dgs Lib.itoa
  rw [if_neg (by omega), Lib.decDigits, dif_pos (by omega)]
  rw [show (48 + n).toNat = 48 + n.toNat from by omega]
theorem itoa_big {n : Int} (h : 10 ≤ n) : dgs n = dgs (n / 10) ++ ⟨#[UInt8.ofNat (48 + n % 10).toNat]⟩ := by
  unfold dgs Lib.itoa
  rw [if_neg (by omega), if_neg (by omega), Lib.decDigits, dif_neg (by omega)]
  rw [show (48 + n % 10).toNat = 48 + n.toNat % 10 from by omega, show (n / 10).toNat = n.toNat / 10 from by omega]
  apply ByteArray.ext
  simp
theorem itoa_nsmall {n : Int} (h0 : n < 0) (h1 : -10 < n) : dgs n = ⟨#[45]⟩ ++ ⟨#[UInt8.ofNat (48 + -n).toNat]⟩ := by
  unfold dgs Lib.itoa
  rw [if_pos h0, Lib.decDigits, dif_pos (by omega)]
  rw [show (48 + -n).toNat = 48 + n.natAbs from by omega]
  apply ByteArray.ext
  simp
theorem itoa_nbig {n : Int} (h : n ≤ -10) : dgs n = dgs (n.tdiv 10) ++ ⟨#[UInt8.ofNat (48 + -(n.tmod 10)).toNat]⟩ := by
  have e1 : n.tdiv 10 = -((-n) / 10) := by
    have : n = -(-n) := by omega
    rw [this, Int.neg_tdiv, Int.tdiv_eq_ediv_of_nonneg (by omega)]
    omega
  have e2 : n.tmod 10 = -((-n) % 10) := by
    have : n = -(-n) := by omega
    rw [this, Int.neg_tmod, Int.tmod_eq_emod_of_nonneg (by omega)]
    omega
  rw [e1, e2]
  unfold dgs Lib.itoa
  rw [if_pos (by omega), if_pos (by omega), Lib.decDigits, dif_neg (by omega)]
  rw [show (48 + - -((-n) % 10)).toNat = 48 + n.natAbs % 10 from by omega, show (-((-n) / 10)).natAbs = n.natAbs / 10 from by omega]
  apply ByteArray.ext
  simp
theorem tdiv_neg_bd {n : Int} (h : n ≤ -10) : n.tdiv 10 = -((-n) / 10) ∧ n.tmod 10 = -((-n) % 10) := by
  constructor
  · have : n = -(-n) := by omega
    rw [this, Int.neg_tdiv, Int.tdiv_eq_ediv_of_nonneg (by omega)]
    omega
  · have : n = -(-n) := by omega
    rw [this, Int.neg_tmod, Int.tmod_eq_emod_of_nonneg (by omega)]
    omega
theorem tmod_nsmall {n : Int} (h0 : n < 0) (h1 : -10 < n) : n.tmod 10 = n := by
  have : n = -(-n) := by omega
  rw [this, Int.neg_tmod, Int.tmod_eq_emod_of_nonneg (by omega)]
  omega

theorem decDigits_len : ∀ (k u : Nat), u ≤ k → (Lib.decDigits u).length ≤ u + 1
  | 0, u, h => by
    obtain rfl : u = 0 := by omega
    rw [Lib.decDigits, dif_pos (by omega)]; simp
  | k + 1, u, h => by
    rw [Lib.decDigits]
    split
    · simp
    · have := decDigits_len k (u / 10) (by omega)
      simp; omega
theorem dgs_len (n : Int) : (dgs n).size ≤ n.natAbs + 2 := by
  unfold dgs Lib.itoa
  have h1 := decDigits_len n.natAbs n.natAbs (Nat.le_refl _)
  have h2 := decDigits_len n.toNat n.toNat (Nat.le_refl _)
  show ((if n < 0 then 45 :: Lib.decDigits n.natAbs else Lib.decDigits n.toNat).toArray).size ≤ _
  split
  · simp; omega
  · simp; omega

end Go.Proofs.YtaanepadgoefhaaGreatDoor
