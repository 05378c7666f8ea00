/- Drivers as texts: plain. -/
import Derived.Test.YtaanepadgoefhaaGreatDoorRows
import Derived.Test.YtaanepadgoefhaaGreatDoorRAct
import Derived.Test.YtaanepadgoefhaaGreatDoorB6
import Derived.Test.YtaanepadgoefhaaGreatDoorB3
import Derived.Test.YtaanepadgoefhaaGreatDoorB4
namespace Go.Proofs.YtaanepadgoefhaaGreatDoor
open Go.ChangeShapes Go.WideShapes Go.ChangeAt Go.RowKit
set_option linter.unusedVariables false
set_option linter.unusedSimpArgs false
theorem toB_size (l : List UInt8) : (toB l).size = l.length := by simp [toB, ByteArray.size]
theorem toB_list (l : List UInt8) : (toB l).data.toList = l := by simp [toB]
/-- what number answers -/
def numR (x : ByteArray) : Int × Bool :=
  if Lib.hasPrefix x.data.toList [45] then (-(numN (toB (x.data.toList.drop 1)) 4), numB (toB (x.data.toList.drop 1)) 4 && !decide (numN (toB (x.data.toList.drop 1)) 4 = 0)) else (numN x 4, numB x 4)
/-- the numbers of some words, as f reads them -/
def numsF (f : ByteArray → Int × Bool) : List ByteArray → Option (List Int)
  | [] => some []
  | x :: t => if (f x).2 then (numsF f t).map ((f x).1 :: ·) else none
def mayD (D : Drv) : Bool :=
  if D.kind = 1 ∨ D.kind = 2 then decide (D.tape.length = 0)
  else if D.kind = 3 then D.tape.all (fun x => decide (-999 ≤ x) && decide (x ≤ 1000)) && decide (D.tape.length ≤ 64)
  else false
def bEager : ByteArray := ⟨#[101, 97, 103, 101, 114]⟩
def bCareful : ByteArray := ⟨#[99, 97, 114, 101, 102, 117, 108]⟩
def bTape : ByteArray := ⟨#[116, 97, 112, 101]⟩
def kindW (x : ByteArray) : Int := if x = bEager then 1 else if x = bCareful then 2 else if x = bTape then 3 else 0
/-- what Parse reads -/
def parseD (s : ByteArray) : Option Drv :=
  match wdB s with
  | none => none
  | some [] => none
  | some (k :: l) => if kindW k = 0 then none else match numsF numR l with
    | none => none
    | some T => if mayD ⟨kindW k, T⟩ then some ⟨kindW k, T⟩ else none
def RetD (w : World) (o : Option Drv) (e : Ending) (w' : World) : Prop :=
  ∃ v, e = .returned (.tuple #[v, .bool o.isSome]) ∧ IsDrv w' v (o.getD ⟨0, []⟩) ∧ Gr w w'
theorem numN_bd (s : ByteArray) : 0 ≤ numN s 4 ∧ numN s 4 ≤ 9999 := by
  unfold numN
  by_cases h : numB s 4 = true
  · rw [if_pos h]
    have h' := (numB_iff s 4).1 h
    obtain ⟨-, -, -, h4, -, h6⟩ := h'
    have hb := nvB_bd s s.size h6
    refine ⟨hb.1, ?_⟩
    have hp : (10 : Int) ^ s.size ≤ 10 ^ 4 := by
      have : (10 : Nat) ^ s.size ≤ 10 ^ 4 := Nat.pow_le_pow_right (by omega) (by omega)
      exact_mod_cast this
    have : (10 : Int) ^ 4 = 10000 := by decide
    omega
  · rw [if_neg h]; omega
theorem numR_bd (x : ByteArray) : -9999 ≤ (numR x).1 ∧ (numR x).1 ≤ 9999 := by
  unfold numR
  have h1 := numN_bd x
  have h2 := numN_bd (toB (x.data.toList.drop 1))
  split <;> (dsimp only; omega)
theorem numsF_bad {f : ByteArray → Int × Bool} {l : List ByteArray} {k : Nat} (hk : k < l.length) (h : (f l[k]).2 = false) : numsF f l = none := by
  induction l generalizing k with
  | nil => simp at hk
  | cons a t ih =>
    unfold numsF
    cases k with
    | zero => rw [if_neg (by simpa using h)]
    | succ k =>
      rw [ih (by simpa using hk) (by simpa using h)]
      split <;> rfl
theorem numsF_snoc (f : ByteArray → Int × Bool) : ∀ (l : List ByteArray) (x : ByteArray) (T : List Int), numsF f l = some T → (f x).2 = true → numsF f (l ++ [x]) = some (T ++ [(f x).1])
  | [], x, T, h, hx => by
    cases h
    show (if (f x).2 then (numsF f []).map ((f x).1 :: ·) else none) = _
    rw [if_pos hx]; rfl
  | a :: t, x, T, h, hx => by
    unfold numsF at h
    by_cases ha : (f a).2 = true
    · rw [if_pos ha] at h
      cases ht : numsF f t with
      | none => rw [ht] at h; cases h
      | some U =>
        rw [ht] at h
        cases h
        show (if (f a).2 then (numsF f (t ++ [x])).map ((f a).1 :: ·) else none) = _
        rw [if_pos ha, numsF_snoc f t x U ht hx]; rfl
    · rw [if_neg ha] at h; cases h
theorem numsF_len {f : ByteArray → Int × Bool} : ∀ {l : List ByteArray} {T : List Int}, numsF f l = some T → T.length = l.length
  | [], T, h => by cases h; rfl
  | a :: t, T, h => by
    unfold numsF at h
    split at h
    · cases ht : numsF f t with
      | none => rw [ht] at h; cases h
      | some U => rw [ht] at h; cases h; simp [numsF_len ht]
    · cases h
end Go.Proofs.YtaanepadgoefhaaGreatDoor
