/- Pace: the plain functions of speeds. No program. -/
import Derived.Test.YtiblkcbehcpjbaaUtil
namespace Go.Proofs.Ytiblkcbehcpjbaa
open Go.ChangeShapes Go.WideShapes Go.ChangeAt Go.RowKit
set_option linter.unusedVariables false
set_option linter.unusedSimpArgs false

/-- a number held between two -/
def hld (n lo hi : Int) : Int := max lo (min n hi)
theorem hld_bd (n lo hi : Int) (h : lo ≤ hi) : lo ≤ hld n lo hi ∧ hld n lo hi ≤ hi := by unfold hld; omega
theorem hld_id (n lo hi : Int) (h0 : lo ≤ n) (h1 : n ≤ hi) : hld n lo hi = n := by unfold hld; omega

/-- what a driver's want comes to -/
def wnt (a b want : Int) (f : Bool) : Int := if f then -b else hld want (-b) a
/-- the speed of the next tick -/
def nxt (t a b v want : Int) (f : Bool) : Int := hld (hld v 0 t + wnt a b want f) 0 t
theorem wnt_bd (a b want : Int) (f : Bool) (ha : 1 ≤ a) (hb : 1 ≤ b) : -b ≤ wnt a b want f ∧ wnt a b want f ≤ a := by
  unfold wnt
  split
  · omega
  · exact hld_bd _ _ _ (by omega)
theorem nxt_bd (t a b v want : Int) (f : Bool) (ht : 1 ≤ t) : 0 ≤ nxt t a b v want f ∧ nxt t a b v want f ≤ t := by
  unfold nxt; exact hld_bd _ _ _ (by omega)

/-- V, V - b, V - 2b .. as long as they are positive -/
def tailS (b : Int) : Nat → Int → Int
  | 0, _ => 0
  | k + 1, V => if 0 < V then V + tailS b k (V - b) else 0
/-- the braking distance -/
def stp (b v : Int) : Int := tailS b 60 (v - b)

theorem tailS_bd (b : Int) (hb : 1 ≤ b) : ∀ (k : Nat) (V : Int), V ≤ 60 → 0 ≤ tailS b k V ∧ tailS b k V ≤ 60 * k
  | 0, V, h => by simp [tailS]
  | k + 1, V, h => by
    unfold tailS
    split
    · have := tailS_bd b hb k (V - b) (by omega)
      omega
    · omega
theorem stp_bd (b v : Int) (hb : 1 ≤ b) (hv : v ≤ 60) : 0 ≤ stp b v ∧ stp b v ≤ 3600 := by
  have := tailS_bd b hb 60 (v - b) (by omega)
  unfold stp; omega
theorem tailS_pos (b : Int) (k : Nat) (V : Int) (h : 0 < V) (hk : V ≤ k) : ∃ j : Nat, k = j + 1 ∧ tailS b k V = V + tailS b j (V - b) := by
  match k, hk with
  | 0, hk => omega
  | j + 1, _ => exact ⟨j, rfl, by simp [tailS, h]⟩
theorem tailS_no (b : Int) (k : Nat) (V : Int) (h : ¬ 0 < V) : tailS b k V = 0 := by
  match k with
  | 0 => rfl
  | j + 1 => simp [tailS, h]

/-- how many ticks -/
def tck (t b v : Int) : Int := (hld v 0 t + b - 1) / b
theorem tck_zero (b : Int) (hb : 1 ≤ b) : (0 + b - 1) / b = 0 := Int.ediv_eq_zero_of_lt (by omega) (by omega)
theorem tck_step (t a b v : Int) (hb : 1 ≤ b) (h0 : 0 < v) (h1 : v ≤ t) : (v + b - 1) / b = 1 + (nxt t a b v 0 true + b - 1) / b := by
  have hw : wnt a b 0 true = -b := rfl
  unfold nxt
  rw [hw, hld_id v 0 t (by omega) h1]
  by_cases h : b ≤ v
  · rw [hld_id (v + -b) 0 t (by omega) (by omega)]
    have e : v + b - 1 = (v + -b + b - 1) + 1 * b := by omega
    rw [e, Int.add_mul_ediv_right _ _ (by omega)]
    omega
  · have e : hld (v + -b) 0 t = 0 := by unfold hld; omega
    rw [e, tck_zero b hb]
    have e2 : v + b - 1 = (v - 1) + 1 * b := by omega
    rw [e2, Int.add_mul_ediv_right _ _ (by omega), Int.ediv_eq_zero_of_lt (by omega) (by omega)]
    rfl
theorem tck_bd (b v : Int) (hb : 1 ≤ b) (h0 : 0 ≤ v) : 0 ≤ (v + b - 1) / b ∧ (v + b - 1) / b ≤ v := by
  refine ⟨Int.ediv_nonneg (by omega) (by omega), ?_⟩
  have h1 : v + b - 1 < (v + 1) * b := by
    have : v * 1 ≤ v * b := Int.mul_le_mul_of_nonneg_left hb h0
    have e : (v + 1) * b = v * b + b := by rw [Int.add_mul, Int.one_mul]
    omega
  have := Int.ediv_lt_of_lt_mul (by omega : 0 < b) h1
  omega
/-- forced, one stands or is slower -/
theorem nxt_forced (t a b v : Int) (hb : 1 ≤ b) (h0 : 0 < v) (h1 : v ≤ t) : 0 ≤ nxt t a b v 0 true ∧ nxt t a b v 0 true < v := by
  have hw : wnt a b 0 true = -b := rfl
  unfold nxt
  rw [hw, hld_id v 0 t (by omega) h1]
  unfold hld; omega

/-- the braking distance of a stock, at whatever speed -/
def stopD (t b v : Int) : Int := stp b (hld v 0 t)
theorem stopD_bd (t b v : Int) (ht : 1 ≤ t ∧ t ≤ 60) (hb : 1 ≤ b) : 0 ≤ stopD t b v ∧ stopD t b v ≤ 3600 := by
  have := hld_bd v 0 t (by omega)
  exact stp_bd _ _ hb (by omega)

/-- from x down: the first speed that keeps within the room -/
def kpF (t b room : Int) : Nat → Int → Int
  | 0, x => x
  | k + 1, x => if x + stopD t b x ≤ room then x else kpF t b room k (x - 1)
def kps (t a b v room : Int) : Int := kpF t b room (nxt t a b v a false - nxt t a b v (-b) false).toNat (nxt t a b v a false)
theorem kpF_end (t b room L X : Int) (h : X ≤ L) : kpF t b room (X - L).toNat X = X := by
  have e : (X - L).toNat = 0 := by omega
  rw [e]; rfl
theorem kpF_yes (t b room L X : Int) (h : X + stopD t b X ≤ room) : kpF t b room (X - L).toNat X = X := by
  cases hk : (X - L).toNat with
  | zero => rfl
  | succ k => simp [kpF, h]
theorem kpF_no (t b room L X : Int) (hL : L < X) (h : ¬ X + stopD t b X ≤ room) : kpF t b room (X - L).toNat X = kpF t b room (X - 1 - L).toNat (X - 1) := by
  have e : (X - L).toNat = (X - 1 - L).toNat + 1 := by omega
  rw [e]; simp [kpF, h]
theorem nxt_least (t a b v : Int) (ha : 1 ≤ a) (hb : 1 ≤ b) (ht : 1 ≤ t) : nxt t a b v (-b) false ≤ nxt t a b v a false := by
  have h1 : wnt a b (-b) false = -b := by unfold wnt hld; simp; omega
  have h2 : wnt a b a false = a := by unfold wnt hld; simp; omega
  unfold nxt
  rw [h1, h2]
  unfold hld; omega

/-- under full acceleration -/
def acc (t a b v : Int) : Int := nxt t a b v a false
theorem acc_bd (t a b v : Int) (ht : 1 ≤ t) (ha : 1 ≤ a) (hb : 1 ≤ b) : 1 ≤ acc t a b v ∧ acc t a b v ≤ t := by
  have h2 : wnt a b a false = a := by unfold wnt hld; simp; omega
  unfold acc nxt
  rw [h2]
  unfold hld; omega
/-- how far in so many ticks -/
def rch (t a b : Int) : Nat → Int → Int
  | 0, _ => 0
  | k + 1, v => acc t a b v + rch t a b k (acc t a b v)
theorem rch_step (t a b v N : Int) (h : 0 < N) : rch t a b N.toNat v = acc t a b v + rch t a b (N - 1).toNat (acc t a b v) := by
  have e : N.toNat = (N - 1).toNat + 1 := by omega
  rw [e]; rfl
/-- in how few ticks so far: from v, with so much gone already -/
def lstF (t a b tgt : Int) : Nat → Int → Int → Int
  | 0, _, _ => 0
  | k + 1, v, w => if tgt ≤ w then 0 else 1 + lstF t a b tgt k (acc t a b v) (w + acc t a b v)
def lst (t a b v metres : Int) : Int := lstF t a b (hld metres 0 65536) 65536 v 0
theorem lstF_end (t a b tgt v w : Int) (k : Nat) (h : tgt ≤ w) : lstF t a b tgt k v w = 0 := by
  cases k with
  | zero => rfl
  | succ k => simp [lstF, h]
theorem lstF_step (t a b tgt v w : Int) (k : Nat) (h : ¬ tgt ≤ w) (hk : tgt - w ≤ k) : ∃ j : Nat, k = j + 1 ∧ lstF t a b tgt k v w = 1 + lstF t a b tgt j (acc t a b v) (w + acc t a b v) := by
  cases k with
  | zero => omega
  | succ j => exact ⟨j, rfl, by simp [lstF, h]⟩
end Go.Proofs.Ytiblkcbehcpjbaa
