/- The first of a list that a test takes: plain. -/
import Derived.Test.YtaanepadgoefhaaGreatDoorB1
namespace Go.Proofs.YtaanepadgoefhaaGreatDoor
set_option linter.unusedVariables false
def fstB {α : Type} (p : α → Bool) : List α → Option Nat
  | [] => none
  | x :: t => if p x then some 0 else (fstB p t).map (· + 1)
def fstN {α : Type} (p : α → Bool) (l : List α) : Int := match fstB p l with | some k => (k : Int) | none => -1
theorem fstB_go {α : Type} (p : α → Bool) : ∀ (l : List α) (k : Nat) (hk : k < l.length), p l[k] = true → (∀ i (hi : i < l.length), i < k → p l[i] = false) → fstB p l = some k
  | [], k, hk, _, _ => absurd hk (by simp)
  | x :: t, 0, _, h, _ => by unfold fstB; rw [if_pos (show p x = true from h)]
  | x :: t, k + 1, hk, h, hn => by
    have h0 := hn 0 (by simp) (by omega)
    unfold fstB
    rw [if_neg (by rw [show p x = false from h0]; decide), fstB_go p t k (by simpa using hk) (by simpa using h) (fun i hi hik => by have := hn (i + 1) (by simpa using hi) (by omega); simpa using this)]
    rfl
theorem fstB_no {α : Type} (p : α → Bool) : ∀ (l : List α), (∀ i (hi : i < l.length), p l[i] = false) → fstB p l = none
  | [], _ => rfl
  | x :: t, hn => by
    have h0 := hn 0 (by simp)
    unfold fstB
    rw [if_neg (by rw [show p x = false from h0]; decide), fstB_no p t (fun i hi => by have := hn (i + 1) (by simpa using hi); simpa using this)]
    rfl
theorem fstB_some {α : Type} {p : α → Bool} : ∀ {l : List α} {k : Nat}, fstB p l = some k → ∃ h : k < l.length, p l[k] = true ∧ ∀ i (hi : i < l.length), i < k → p l[i] = false
  | [], _, h => by cases h
  | x :: t, k, h => by
    unfold fstB at h
    split at h
    · cases h; exact ⟨by simp, by assumption, fun i _ hi => by omega⟩
    · rename_i hne
      rw [Option.map_eq_some_iff] at h
      obtain ⟨m, hm, rfl⟩ := h
      obtain ⟨h1, h2, h3⟩ := fstB_some hm
      refine ⟨by simpa using h1, by simpa using h2, fun i hi hik => ?_⟩
      cases i with
      | zero => simpa using hne
      | succ i => have := h3 i (by simpa using hi) (by omega); simpa using this
theorem fstN_go {α : Type} (p : α → Bool) {l : List α} {k : Nat} (hk : k < l.length) (h : p l[k] = true) (hn : ∀ i (hi : i < l.length), i < k → p l[i] = false) : fstN p l = k := by
  unfold fstN; rw [fstB_go p l k hk h hn]
theorem fstN_no {α : Type} (p : α → Bool) {l : List α} (hn : ∀ i (hi : i < l.length), p l[i] = false) : fstN p l = -1 := by
  unfold fstN; rw [fstB_no p l hn]
theorem fstN_bd {α : Type} (p : α → Bool) (l : List α) : -1 ≤ fstN p l ∧ fstN p l < l.length := by
  unfold fstN
  cases h : fstB p l with
  | none => dsimp only; omega
  | some k => obtain ⟨h1, -⟩ := fstB_some h; dsimp only; omega
theorem fstN_any {α : Type} (p : α → Bool) (l : List α) : decide (0 ≤ fstN p l) = l.any p := by
  unfold fstN
  cases h : fstB p l with
  | none =>
    dsimp only
    rw [Bool.eq_iff_iff]
    simp only [decide_eq_true_eq, List.any_eq_true]
    constructor
    · intro h; omega
    · rintro ⟨x, hx, hp⟩
      exfalso
      obtain ⟨k, hk, rfl⟩ := List.getElem_of_mem hx
      have : ∀ (l : List α), fstB p l = none → ∀ x ∈ l, p x = false := by
        intro l
        induction l with
        | nil => intro _ x hx; cases hx
        | cons a t ih =>
          intro h x hx
          unfold fstB at h
          split at h
          · cases h
          · rename_i hne
            rw [Option.map_eq_none_iff] at h
            rcases List.mem_cons.1 hx with rfl | hx
            · simpa using hne
            · exact ih h x hx
      rw [this l h _ (List.getElem_mem hk)] at hp
      cases hp
  | some k =>
    obtain ⟨h1, h2, -⟩ := fstB_some h
    dsimp only
    rw [Bool.eq_iff_iff]
    simp only [decide_eq_true_eq, List.any_eq_true]
    exact ⟨fun _ => ⟨_, List.getElem_mem h1, h2⟩, fun _ => by omega⟩
end Go.Proofs.YtaanepadgoefhaaGreatDoor
