/- the reference's passes and Lies. -/
import Derived.Test.YtaanepadgoefhaaGreatDoorRows
import Derived.Test.YtaanepadgoefhaaGreatDoorB10
namespace Go.Proofs.YtaanepadgoefhaaGreatDoor
open Go.ChangeShapes Go.WideShapes Go.ChangeAt Go.RowKit Go.Maps
set_option linter.unusedVariables false
set_option linter.unusedSimpArgs false
/-- does lamp k let pass -/
def passP (L : List Int) (k : Nat) : Bool := if h : k < L.length then decide (L[k] = 1 ∨ L[k] = 2) else false
theorem refPasses_any (v : Value) (L : List Int) (k : Nat) (w : World) (hv : IsVals w v (L.map (Value.int .i64))) :
    Calls Tryz.prog 52 #[v, .int .i64 k] w fun e w' => e = .returned (.bool (passP L k)) ∧ w' = w := by
  have HV := Lib.hid hv
  obtain ⟨a, c, rfl, hm, -⟩ := hv
  rw [List.length_map] at HV hm ⊢
  unfold maxLen at hm
  by_cases hk : k < L.length
  · have hk1 : (k : Int) < (L.length : Int) := by omega
    obtain ⟨bb, o, hs, z, y0⟩ := ints_at HV.out k hk
    subst hs
    have HE : Hid (passP L k = decide (L[k] = 1 ∨ L[k] = 2)) := by show _ = _; unfold passP; rw [dif_pos hk]
    generalize L[k] = q at y0 HE
    by_cases h1 : q = 1
    · subst h1
      go_enter Tryz.func52, Tryz.ntmps52
      go_wp2_with fail
      go_ret
      exact ⟨by rw [HE.out]; rfl, rfl⟩
    · by_cases h2 : q = 2
      · subst h2
        go_enter Tryz.func52, Tryz.ntmps52
        go_wp2_with fail
        go_ret
        exact ⟨by rw [HE.out]; rfl, rfl⟩
      · have t1 : (q == 1) = false := by simpa using h1
        have t2 : (q == 2) = false := by simpa using h2
        have HF : Hid (passP L k = false) := HE.out.trans (by simp [h1, h2])
        clear h1 h2
        go_enter Tryz.func52, Tryz.ntmps52
        go_wp2_with fail
        go_ret
        exact ⟨by rw [HF.out]; rfl, rfl⟩
  · have hk1 : ¬ (k : Int) < (L.length : Int) := by omega
    have HE : Hid (passP L k = false) := by show _ = _; unfold passP; rw [dif_neg hk]
    go_enter Tryz.func52, Tryz.ntmps52
    go_wp2_with fail
    go_ret
    exact ⟨by rw [HE.out]; rfl, rfl⟩
/-- where the reference says that an element lies -/
def rliesP (pos : List Int) (i : Int) : Int := if liesP pos i = 1 ∨ liesP pos i = 2 then liesP pos i else 0
theorem refLies_any (v : Value) (pos : List Int) (i : Int) (w : World) (hv : IsVals w v (pos.map (Value.int .i64))) :
    Calls Tryz.prog 96 #[v, .int .i64 i] w fun e w' => e = .returned (.int .i64 (rliesP pos i)) ∧ w' = w := by
  have HV := Lib.hid hv
  obtain ⟨a, c, rfl, hm, -⟩ := hv
  rw [List.length_map] at HV hm ⊢
  unfold maxLen at hm
  have H0 : liesP pos i = 0 → rliesP pos i = 0 := fun h => by unfold rliesP; rw [h]; rfl
  by_cases h0 : i < 0
  · have HE : Hid (rliesP pos i = 0) := H0 (by unfold liesP; rw [if_neg (by omega)])
    go_enter Tryz.func96, Tryz.ntmps96
    go_wp2_with fail
    go_ret
    exact ⟨by rw [HE.out]; rfl, rfl⟩
  · obtain ⟨k, rfl⟩ := Int.eq_ofNat_of_zero_le (show 0 ≤ i by omega)
    by_cases hk : k < pos.length
    · have hk1 : (k : Int) < (pos.length : Int) := by omega
      obtain ⟨bb, o, hs, z, y0⟩ := ints_at HV.out k hk
      subst hs
      have HL : liesP pos k = pos[k] := by unfold liesP; rw [if_pos (by omega), Int.toNat_natCast, List.getD_eq_getElem?_getD, List.getElem?_eq_getElem hk]; rfl
      have HE : Hid (rliesP pos k = if pos[k] = 1 ∨ pos[k] = 2 then pos[k] else 0) := by show _ = _; unfold rliesP; rw [HL]
      clear HL H0 h0
      generalize pos[k] = q at y0 HE
      by_cases h1 : q = 1
      · subst h1
        go_enter Tryz.func96, Tryz.ntmps96
        go_wp2_with fail
        go_ret
        exact ⟨by rw [HE.out]; rfl, rfl⟩
      · by_cases h2 : q = 2
        · subst h2
          go_enter Tryz.func96, Tryz.ntmps96
          go_wp2_with fail
          go_ret
          exact ⟨by rw [HE.out]; rfl, rfl⟩
        · have t1 : (q != 1) = true := by simpa using h1
          have t2 : (q != 2) = true := by simpa using h2
          have HF : Hid (rliesP pos k = 0) := HE.out.trans (by simp [h1, h2])
          clear h1 h2
          go_enter Tryz.func96, Tryz.ntmps96
          go_wp2_with fail
          go_ret
          exact ⟨by rw [HF.out]; rfl, rfl⟩
    · have hk1 : ¬ (k : Int) < (pos.length : Int) := by omega
      have HE : Hid (rliesP pos k = 0) := H0 (by unfold liesP; rw [if_pos (by omega), Int.toNat_natCast, List.getD_eq_getElem?_getD, List.getElem?_eq_none (by omega)]; rfl)
      clear H0 h0
      go_enter Tryz.func96, Tryz.ntmps96
      go_wp2_with fail
      go_ret
      exact ⟨by rw [HE.out]; rfl, rfl⟩
end Go.Proofs.YtaanepadgoefhaaGreatDoor
