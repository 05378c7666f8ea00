/- What a fine plan is: plain. The small plan is one. -/
import Derived.Test.YtaanepadgoefhaaGreatDoorRows
import Derived.Test.YtaanepadgoefhaaGreatDoorRSml
import Derived.Test.YtaanepadgoefhaaGreatDoorRSeeP
namespace Go.Proofs.YtaanepadgoefhaaGreatDoor
open Go.ChangeShapes Go.WideShapes Go.ChangeAt Go.RowKit Go.Maps
set_option linter.unusedVariables false
set_option linter.unusedSimpArgs false
theorem fine_chk {P : Pln} (h : fineB P = true) : chk P = 0 := by
  unfold fineB at h
  simp only [Bool.and_eq_true, decide_eq_true_eq] at h
  exact h.2
theorem fine_parts {P : Pln} (h : chk P = 0) : argsB P = true ∧ joinedB P = true ∧ signalsB P = true ∧ linesB P = true := by
  unfold chk at h
  split at h
  · omega
  split at h
  · omega
  split at h
  · omega
  split at h
  · omega
  split at h
  · omega
  split at h
  · omega
  rename_i h1 h2 h3 h4 h5 h6
  exact ⟨by simpa using h2, by simpa using h4, by simpa using h5, by simpa using h6⟩
theorem fine_ele {P : Pln} (h : chk P = 0) : ∀ e ∈ P.es, nmB e.n = true ∧ (1 ≤ e.k ∧ e.k ≤ 4) ∧ 0 ≤ e.l ∧ e.l ≤ 4000 ∧ (e.k ≠ 4 → 1 ≤ e.l) ∧ (e.k = 4 → e.l = 0) := by
  intro e he
  have ha := (fine_parts h).1
  rw [argsB_eq] at ha
  simp only [Bool.and_eq_true, List.all_eq_true] at ha
  have hb := ha.1.1.2 e he
  unfold eleB inB at hb
  simp only [Bool.and_eq_true, Bool.not_eq_true', decide_eq_false_iff_not] at hb
  obtain ⟨⟨h1, h2⟩, h3⟩ := hb
  have hk : 1 ≤ e.k ∧ e.k ≤ 4 := by
    unfold endsK at h2
    omega
  refine ⟨h1, hk, ?_⟩
  by_cases h4 : e.k = 4
  · rw [if_pos h4] at h3
    simp only [decide_eq_true_eq] at h3
    omega
  · rw [if_neg h4] at h3
    simp only [Bool.and_eq_true, decide_eq_true_eq] at h3
    omega
theorem fine_len {P : Pln} (h : chk P = 0) (m : Int) : (eleAt P m).l ≤ 4000 ∧ 0 ≤ (eleAt P m).l := by
  unfold eleAt
  split
  · by_cases hm : m.toNat < P.es.length
    · rw [getD_at _ _ hm]
      have := fine_ele h _ (List.getElem_mem hm)
      omega
    · rw [List.getD_eq_getElem?_getD, List.getElem?_eq_none (by omega)]
      exact ⟨by decide, by decide⟩
  · exact ⟨by decide, by decide⟩
theorem small_ok : PlnOk smallP := by
  have z : ∀ x : Int, 0 ≤ x → x ≤ 100 → I64 x := fun x h0 h1 => I64_of (by omega) (by omega)
  refine ⟨?_, ?_, ?_, ?_, ?_⟩
  · intro e he
    simp only [smallP, List.mem_cons, List.not_mem_nil, or_false] at he
    rcases he with rfl | rfl | rfl | rfl | rfl | rfl <;> exact ⟨z _ (by decide) (by decide), z _ (by decide) (by decide), by decide⟩
  · intro e he
    simp only [smallP, List.mem_cons, List.not_mem_nil, or_false] at he
    rcases he with rfl | rfl | rfl | rfl | rfl <;> exact ⟨z _ (by decide) (by decide), z _ (by decide) (by decide), z _ (by decide) (by decide), z _ (by decide) (by decide)⟩
  · intro e he
    simp only [smallP, List.mem_cons, List.not_mem_nil, or_false] at he
    rcases he with rfl | rfl | rfl | rfl | rfl <;> exact ⟨z _ (by decide) (by decide), z _ (by decide) (by decide), by decide⟩
  · intro e he
    cases he
  · exact ⟨z _ (by decide) (by decide), z _ (by decide) (by decide), z _ (by decide) (by decide), z _ (by decide) (by decide)⟩
theorem small_fine : fineB smallP = true := by kernel_rfl
theorem made_fine (v : Value) (P : Pln) (w : World) (hP : IsPln w v P) (hk : PlnOk P) (hf : fineB P = true) :
    Calls Tryz.prog 16 #[v] w fun e w' => ∃ b, e = .returned (.pointer (some ⟨b, 0, none⟩)) ∧ NetIs w' b P ∧ Gr w w' := by
  refine (made_any v P w hP hk).mono ?_
  rintro e w2 ⟨g2, ⟨-, b, rfl, hnet⟩ | ⟨h0, -⟩⟩
  · exact ⟨b, rfl, hnet, g2⟩
  · rw [hf] at h0; cases h0
end Go.Proofs.YtaanepadgoefhaaGreatDoor
