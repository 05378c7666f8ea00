/- Clock: plain laws of a time's text. No program. -/
import Derived.Test.YtiblkcbehcpjbaaUtil
namespace Go.Proofs.Ytiblkcbehcpjbaa
open Go.ChangeShapes Go.WideShapes Go.ChangeAt Go.RowKit
set_option linter.unusedVariables false
set_option linter.unusedSimpArgs false

/-- two digits: are they, and what they say -/
def twoB (x y : Int) : Bool := !(decide (x < 48) || decide (57 < x) || decide (y < 48) || decide (57 < y))
def twoN (x y : Int) : Int := if twoB x y then (x - 48) * 10 + (y - 48) else 0
/-- two digits of a number -/
def digT (n : Int) : ByteArray := ⟨#[UInt8.ofNat (48 + n / 10).toNat, UInt8.ofNat (48 + n % 10).toNat]⟩
/-- the text of a time -/
def clkT (t : Int) : ByteArray := digT (t / 3600) ++ ⟨#[58]⟩ ++ digT (t / 60 % 60) ++ ⟨#[58]⟩ ++ digT (t % 60)
/-- is it a time's text -/
def clkB (s : ByteArray) : Bool :=
  decide (s.size = 8) && decide (bt s 2 = 58) && decide (bt s 5 = 58) && twoB (bt s 0) (bt s 1) && twoB (bt s 3) (bt s 4) && twoB (bt s 6) (bt s 7) &&
  decide (twoN (bt s 0) (bt s 1) ≤ 23) && decide (twoN (bt s 3) (bt s 4) ≤ 59) && decide (twoN (bt s 6) (bt s 7) ≤ 59)
def clkN (s : ByteArray) : Int := if clkB s then (twoN (bt s 0) (bt s 1) * 60 + twoN (bt s 3) (bt s 4)) * 60 + twoN (bt s 6) (bt s 7) else 0

def clkL (t : Int) : List UInt8 := [UInt8.ofNat (48 + t / 3600 / 10).toNat, UInt8.ofNat (48 + t / 3600 % 10).toNat, 58, UInt8.ofNat (48 + t / 60 % 60 / 10).toNat, UInt8.ofNat (48 + t / 60 % 60 % 10).toNat, 58, UInt8.ofNat (48 + t % 60 / 10).toNat, UInt8.ofNat (48 + t % 60 % 10).toNat]
theorem clkT_lit (t : Int) : clkT t = ⟨(clkL t).toArray⟩ := by
  apply ByteArray.ext
  simp [clkT, digT, clkL]
theorem clkT_size (t : Int) : (clkT t).size = 8 := by rw [clkT_lit]; rfl

theorem byte_bt (n : Int) (h : 0 ≤ n ∧ n ≤ 255) : ((UInt8.ofNat n.toNat).toNat : Int) = n := by
  simp; omega
theorem bt_clk (t : Int) (h0 : 0 ≤ t) (h1 : t < 86400) :
    bt (clkT t) 0 = 48 + t / 3600 / 10 ∧ bt (clkT t) 1 = 48 + t / 3600 % 10 ∧ bt (clkT t) 2 = 58 ∧ bt (clkT t) 3 = 48 + t / 60 % 60 / 10 ∧ bt (clkT t) 4 = 48 + t / 60 % 60 % 10 ∧ bt (clkT t) 5 = 58 ∧ bt (clkT t) 6 = 48 + t % 60 / 10 ∧ bt (clkT t) 7 = 48 + t % 60 % 10 := by
  rw [clkT_lit]
  refine ⟨?_, ?_, ?_, ?_, ?_, ?_, ?_, ?_⟩
  · exact byte_bt _ (by omega)
  · exact byte_bt _ (by omega)
  · rfl
  · exact byte_bt _ (by omega)
  · exact byte_bt _ (by omega)
  · rfl
  · exact byte_bt _ (by omega)
  · exact byte_bt _ (by omega)

theorem twoB_of {x y : Int} (h : 48 ≤ x ∧ x ≤ 57 ∧ 48 ≤ y ∧ y ≤ 57) : twoB x y = true := by unfold twoB; simp; omega
theorem of_twoB {x y : Int} (h : twoB x y = true) : 48 ≤ x ∧ x ≤ 57 ∧ 48 ≤ y ∧ y ≤ 57 := by unfold twoB at h; simp at h; omega
theorem twoN_of {x y : Int} (h : twoB x y = true) : twoN x y = (x - 48) * 10 + (y - 48) := by unfold twoN; rw [h]; rfl

theorem twoN_bd (x y : Int) : 0 ≤ twoN x y ∧ twoN x y ≤ 99 := by
  unfold twoN
  split
  · rename_i h
    have := of_twoB h
    omega
  · omega
theorem clkN_val (t : Int) (h0 : 0 ≤ t) (h1 : t < 86400) : clkB (clkT t) = true ∧ clkN (clkT t) = t := by
  obtain ⟨e0, e1, e2, e3, e4, e5, e6, e7⟩ := bt_clk t h0 h1
  have a : twoB (bt (clkT t) 0) (bt (clkT t) 1) = true := twoB_of (by omega)
  have b : twoB (bt (clkT t) 3) (bt (clkT t) 4) = true := twoB_of (by omega)
  have c : twoB (bt (clkT t) 6) (bt (clkT t) 7) = true := twoB_of (by omega)
  have a' := twoN_of a
  have b' := twoN_of b
  have c' := twoN_of c
  have hB : clkB (clkT t) = true := by
    unfold clkB
    rw [a, b, c]
    simp [clkT_size]
    omega
  refine ⟨hB, ?_⟩
  unfold clkN
  rw [hB, a', b', c', e0, e1, e3, e4, e6, e7]
  simp
  omega

theorem clkB_parts {s : ByteArray} (h : clkB s = true) : s.size = 8 ∧ bt s 2 = 58 ∧ bt s 5 = 58 ∧ twoB (bt s 0) (bt s 1) = true ∧ twoB (bt s 3) (bt s 4) = true ∧ twoB (bt s 6) (bt s 7) = true ∧ twoN (bt s 0) (bt s 1) ≤ 23 ∧ twoN (bt s 3) (bt s 4) ≤ 59 ∧ twoN (bt s 6) (bt s 7) ≤ 59 := by
  unfold clkB at h
  simp at h
  obtain ⟨⟨⟨⟨⟨⟨⟨⟨a, b⟩, c⟩, d⟩, e⟩, f⟩, g⟩, i⟩, j⟩ := h
  exact ⟨a, b, c, d, e, f, g, i, j⟩

theorem clkN_bd (s : ByteArray) : 0 ≤ clkN s ∧ clkN s < 86400 := by
  unfold clkN
  split
  · rename_i h
    obtain ⟨_, _, _, a, b, c, a1, b1, c1⟩ := clkB_parts h
    have a2 := of_twoB a
    have b2 := of_twoB b
    have c2 := of_twoB c
    rw [twoN_of a] at a1 ⊢
    rw [twoN_of b] at b1 ⊢
    rw [twoN_of c] at c1 ⊢
    omega
  · omega

/-- two texts of eight bytes are one if all bytes are -/
theorem eq_of_bt {s r : ByteArray} (hs : s.size = 8) (hr : r.size = 8) (h : ∀ i, i < 8 → bt s i = bt r i) : s = r := by
  apply ByteArray.ext
  apply Array.ext (by simpa using hs.trans hr.symm)
  intro i h1 h2
  have hs' : i < s.size := by simpa using h1
  have hr' : i < r.size := by simpa using h2
  have := h i (by omega)
  rw [bt_get s i hs', bt_get r i hr'] at this
  have h3 : s[i].toNat = r[i].toNat := by omega
  have h4 : s[i] = r[i] := UInt8.toNat_inj.1 h3
  exact h4

theorem clkT_clkN {s : ByteArray} (h : clkB s = true) : clkT (clkN s) = s := by
  have hb := clkN_bd s
  obtain ⟨e0, e1, e2, e3, e4, e5, e6, e7⟩ := bt_clk (clkN s) hb.1 hb.2
  obtain ⟨h8, i2, i5, a, b, c, a1, b1, c1⟩ := clkB_parts h
  have a2 := of_twoB a
  have b2 := of_twoB b
  have c2 := of_twoB c
  have hN : clkN s = (twoN (bt s 0) (bt s 1) * 60 + twoN (bt s 3) (bt s 4)) * 60 + twoN (bt s 6) (bt s 7) := by unfold clkN; rw [h]; rfl
  rw [twoN_of a] at a1 hN
  rw [twoN_of b] at b1 hN
  rw [twoN_of c] at c1 hN
  refine eq_of_bt (clkT_size _) h8 ?_
  intro i hi
  match i, hi with
  | 0, _ => rw [e0]; omega
  | 1, _ => rw [e1]; omega
  | 2, _ => rw [e2]; omega
  | 3, _ => rw [e3]; omega
  | 4, _ => rw [e4]; omega
  | 5, _ => rw [e5]; omega
  | 6, _ => rw [e6]; omega
  | 7, _ => rw [e7]; omega

theorem clkT_inj {a b : Int} (h0 : 0 ≤ a) (h1 : a < 86400) (g0 : 0 ≤ b) (g1 : b < 86400) (h : clkT a = clkT b) : a = b := by
  rw [← (clkN_val a h0 h1).2, ← (clkN_val b g0 g1).2, h]

/-- what the reference's Parse reckons, out of eight bytes -/
def refD (x0 x1 x3 x4 x6 x7 : Int) : Int := (((((x0 - 48) % 256 * 10 + (x1 - 48) % 256) * 10 + (x3 - 48) % 256) * 10 + (x4 - 48) % 256) * 10 + (x6 - 48) % 256) * 10 + (x7 - 48) % 256
def refR (x0 x1 x3 x4 x6 x7 : Int) : Int := refD x0 x1 x3 x4 x6 x7 / 10000 * 3600 + refD x0 x1 x3 x4 x6 x7 / 100 % 100 * 60 + refD x0 x1 x3 x4 x6 x7 % 100

theorem refR_of {x0 x1 x3 x4 x6 x7 : Int} (a : twoB x0 x1 = true) (b : twoB x3 x4 = true) (c : twoB x6 x7 = true) :
    refR x0 x1 x3 x4 x6 x7 = (twoN x0 x1 * 60 + twoN x3 x4) * 60 + twoN x6 x7 := by
  have a2 := of_twoB a
  have b2 := of_twoB b
  have c2 := of_twoB c
  rw [twoN_of a, twoN_of b, twoN_of c]
  have e : refD x0 x1 x3 x4 x6 x7 = ((x0 - 48) * 10 + (x1 - 48)) * 10000 + ((x3 - 48) * 10 + (x4 - 48)) * 100 + ((x6 - 48) * 10 + (x7 - 48)) := by
    unfold refD; omega
  unfold refR
  rw [e]
  omega

theorem refR_clk (s : ByteArray) (h : clkB s = true) : refR (bt s 0) (bt s 1) (bt s 3) (bt s 4) (bt s 6) (bt s 7) = clkN s := by
  obtain ⟨_, _, _, a, b, c, _⟩ := clkB_parts h
  rw [refR_of a b c]
  unfold clkN; rw [h]; rfl

theorem refR_no (s : ByteArray) (h : clkT (refR (bt s 0) (bt s 1) (bt s 3) (bt s 4) (bt s 6) (bt s 7) % 86400) ≠ s) : clkB s = false := by
  cases hq : clkB s with
  | false => rfl
  | true =>
    exfalso
    rw [refR_clk s hq] at h
    have hb := clkN_bd s
    rw [Int.emod_eq_of_lt hb.1 hb.2] at h
    exact h (clkT_clkN hq)

theorem refR_yes (s : ByteArray) (h : clkT (refR (bt s 0) (bt s 1) (bt s 3) (bt s 4) (bt s 6) (bt s 7) % 86400) = s) : clkB s = true ∧ clkN s = refR (bt s 0) (bt s 1) (bt s 3) (bt s 4) (bt s 6) (bt s 7) := by
  have hb := clkN_val (refR (bt s 0) (bt s 1) (bt s 3) (bt s 4) (bt s 6) (bt s 7) % 86400) (by omega) (by omega)
  rw [h] at hb
  exact ⟨hb.1, (refR_clk s hb.1).symm⟩

/-- the same, at the bytes as a walk spells them -/
theorem refR_no' (s : ByteArray) (x0 x1 x3 x4 x6 x7 : Int) (e0 : bt s 0 = x0) (e1 : bt s 1 = x1) (e3 : bt s 3 = x3) (e4 : bt s 4 = x4) (e6 : bt s 6 = x6) (e7 : bt s 7 = x7)
    (h : (!(clkT (refR x0 x1 x3 x4 x6 x7 % 86400)).toList == s.toList) = true) : clkB s = false := by
  subst e0 e1 e3 e4 e6 e7
  refine refR_no s fun e => ?_
  rw [e] at h
  simp at h
theorem toList_inj {a b : ByteArray} (h : a.toList = b.toList) : a = b := by
  rw [ByteArray.toList_eq, ByteArray.toList_eq] at h
  exact ByteArray.ext (Array.toList_inj.1 h)
theorem refR_yes' (s : ByteArray) (x0 x1 x3 x4 x6 x7 : Int) (e0 : bt s 0 = x0) (e1 : bt s 1 = x1) (e3 : bt s 3 = x3) (e4 : bt s 4 = x4) (e6 : bt s 6 = x6) (e7 : bt s 7 = x7)
    (h : (!(clkT (refR x0 x1 x3 x4 x6 x7 % 86400)).toList == s.toList) = false) : clkB s = true ∧ clkN s = refR x0 x1 x3 x4 x6 x7 := by
  subst e0 e1 e3 e4 e6 e7
  refine refR_yes s ?_
  simp at h
  exact toList_inj h
end Go.Proofs.Ytiblkcbehcpjbaa
