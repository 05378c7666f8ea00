/- The reference's plain and Check; stock.Check. -/
import Derived.Test.YtaanepadgoefhaaGreatDoorRows
import Derived.Test.YtaanepadgoefhaaGreatDoorRStX
namespace Go.Proofs.YtaanepadgoefhaaGreatDoor
open Go.ChangeShapes Go.WideShapes Go.ChangeAt Go.RowKit Go.Maps
set_option linter.unusedVariables false
set_option linter.unusedSimpArgs false
theorem twice_find {L : List Stk} : twiceB (L.map (·.nm)) = false ↔ ∀ i (hi : i < L.length), findN L L[i].nm = i := by
  constructor
  · intro h i hi
    refine fstN_go _ hi (by simp) fun k hk hki => ?_
    rw [decide_eq_false_iff_not]
    intro e
    rw [twiceS_yes hi hki e] at h; cases h
  · intro h
    refine twiceS_no fun i k hi hk e => ?_
    have h1 := h i hi
    have h2 := h k (by omega)
    rw [e] at h2
    omega
theorem plain_twice {L : List Stk} (h4 : ¬ 4 < L.length) (hm : ∀ i (hi : i < L.length), mayS L[i] = true) {k : Nat} (hk : k < L.length) (h : findN L L[k].nm ≠ k) : plainE L = 4 := by
  unfold plainE
  rw [if_neg h4, allS_good hm, if_neg (by decide)]
  cases ht : twiceB (L.map (·.nm))
  · exact absurd (twice_find.1 ht k hk) h
  · rw [if_pos rfl]
theorem plain_none {L : List Stk} (h4 : ¬ 4 < L.length) (hm : ∀ i (hi : i < L.length), mayS L[i] = true) (h : ∀ i (hi : i < L.length), findN L L[i].nm = i) : plainE L = 0 := by
  unfold plainE
  rw [if_neg h4, allS_good hm, if_neg (by decide), twice_find.2 h, if_neg (by decide)]
set_option maxRecDepth 100000 in
set_option maxHeartbeats 2000000 in
theorem plain_any (v : Value) (L : List Stk) (w : World) (hL : IsStks w v L) (hok : ∀ s ∈ L, s.nm.size ≤ maxLen) :
    Calls Tryz.prog 62 #[v] w fun e w' => e = .returned (.int .i64 (plainE L)) ∧ Gr w w' := by
  have HL := Lib.hid hL
  obtain ⟨a, c, rfl, hm, hc⟩ := hL.form
  unfold maxLen at hm
  have HOK := Lib.hid hok
  clear hL hok
  by_cases h4 : 4 < L.length
  · have h4' : 4 < (L.length : Int) := by omega
    have HR : Hid (plainE L = 3) := by show _ = _; unfold plainE; rw [if_pos h4]
    go_enter Tryz.func62, Tryz.ntmps62
    go_wp2_with fail
    go_ret
    exact ⟨ret_int HR.out.symm, Gr.refl _⟩
  have h4' : ¬ 4 < (L.length : Int) := by omega
  have HF := Lib.hid (fun (n : ByteArray) (w' : World) (g : Gr w w') => refFindS_any _ L n w' (HL.out.gr g))
  go_enter Tryz.func62, Tryz.ntmps62
  go_wp2_with fail
  go_loopw [12] (fun y wr => ∃ (k : Nat), y = .int .i64 k ∧ k ≤ L.length ∧ Gr w wr ∧ Hid (∀ i (hi : i < L.length), i < k → mayS L[i] = true)) (fun y _ => L.length - (intOf y).toNat)
  case atStart => exact ⟨0, rfl, Nat.zero_le _, Gr.refl _, fun i _ h => by omega⟩
  case round =>
    obtain ⟨k, rfl, hk, g, HA⟩ := hrel
    by_cases hlt : k < L.length
    · have hk1 : (k : Int) < (L.length : Int) := by omega
      obtain ⟨bb, o, hs, z, y0, y1, y2, y3, y4⟩ := (HL.out.gr g).at k hlt
      subst hs
      have hsz := HOK.out _ (List.getElem_mem hlt)
      have HM := Lib.hid (fun w' => may_any L[k].nm L[k].l L[k].t L[k].a L[k].b hsz w')
      have HN1 : Hid (mayS L[k] = false → plainE L = 1) := fun h => plain_arg h4 hlt h
      have HA2 : Hid (mayS L[k] = true → ∀ i (hi : i < L.length), i < k + 1 → mayS L[i] = true) := fun h i hi hik => by
        by_cases e : i = k
        · subst e; exact h
        · exact HA.out i hi (by omega)
      have e : mayS L[k] = mayB L[k].nm L[k].l L[k].t L[k].a L[k].b := rfl
      rw [← e] at HM
      clear e HA
      generalize hmq : mayS L[k] = q at HM HN1 HA2
      clear hmq
      generalize hL0 : L[k] = s at y0 y1 y2 y3 y4 HM hsz
      clear hL0
      obtain ⟨nm, l, t, a', b⟩ := s
      dsimp only at y0 y1 y2 y3 y4 HM
      cases q
      · have HR := Lib.hid (HN1.out rfl)
        clear HN1 HA2
        go_wp2_with (first | (go_at_call 13; (with_reducible refine (HM.out _).mono ?_); rintro e w2 ⟨rfl, g2⟩) | fail)
        go_ret
        exact ⟨ret_int HR.out.symm, (g.alloc _).trans g2⟩
      · have HA3 := Lib.hid (HA2.out rfl)
        clear HN1 HA2
        go_wp2_with (first | (go_at_call 13; (with_reducible refine (HM.out _).mono ?_); rintro e w2 ⟨rfl, g2⟩) | fail)
        go_roundw
        case rel => exact ⟨k + 1, by go_num, hlt, (g.alloc _).trans g2, HA3.out⟩
        case measure => simp [intOf]; omega
    · have hk1 : ¬ (k : Int) < (L.length : Int) := by omega
      have HMA : Hid (∀ i (hi : i < L.length), mayS L[i] = true) := fun i hi => HA.out i hi (by omega)
      go_wp2_with fail
      go_loopw [5, 22] (fun _ y w3 => ∃ (k : Nat), y = .int .i64 k ∧ k ≤ L.length ∧ Gr w w3 ∧ Hid (∀ i (hi : i < L.length), i < k → findN L L[i].nm = i)) (fun _ y _ => L.length - (intOf y).toNat)
      case atStart => exact ⟨0, rfl, Nat.zero_le _, g, fun i _ h => by omega⟩
      case round =>
        clear HA hlt hk1 hk g
        obtain ⟨k, rfl, hk, g, HA⟩ := hrel
        rename_i w3
        by_cases hlt : k < L.length
        · have hk1 : (k : Int) < (L.length : Int) := by omega
          obtain ⟨bb, o, hs, z, y0, y1, y2, y3, y4⟩ := (HL.out.gr g).at k hlt
          subst hs
          have HFk := Lib.hid (HF.out L[k].nm)
          have HN1 : Hid (findN L L[k].nm ≠ k → plainE L = 4) := fun h => plain_twice h4 HMA.out hlt h
          have HA2 : Hid (findN L L[k].nm = k → ∀ i (hi : i < L.length), i < k + 1 → findN L L[i].nm = i) := fun h i hi hik => by
            by_cases e : i = k
            · subst e; exact h
            · exact HA.out i hi (by omega)
          clear HA
          generalize findN L L[k].nm = q at HFk HN1 HA2
          generalize hL0 : L[k] = s at y0 y1 y2 y3 y4 HFk
          clear hL0
          obtain ⟨nm, l, t, a', b⟩ := s
          dsimp only at y0 y1 y2 y3 y4 HFk
          by_cases hq : q = k
          · have HA3 := Lib.hid (HA2.out hq)
            have tq : (q != (k : Int)) = false := bneF hq
            clear HN1 HA2 hq
            go_wp2_with (first | (go_at_call 34; (with_reducible refine (HFk.out _ (g.alloc _)).mono ?_); rintro e w2 ⟨rfl, g2⟩) | fail)
            go_roundw
            case rel => exact ⟨k + 1, by go_num, hlt, (g.alloc _).trans g2, HA3.out⟩
            case measure => simp [intOf]; omega
          · have HR := Lib.hid (HN1.out hq)
            have tq : (q != (k : Int)) = true := bneT hq
            clear HN1 HA2 hq
            go_wp2_with (first | (go_at_call 34; (with_reducible refine (HFk.out _ (g.alloc _)).mono ?_); rintro e w2 ⟨rfl, g2⟩) | fail)
            go_ret
            exact ⟨ret_int HR.out.symm, (g.alloc _).trans g2⟩
        · have hk1 : ¬ (k : Int) < (L.length : Int) := by omega
          have HR := Lib.hid (plain_none h4 HMA.out fun i hi => HA.out i hi (by omega))
          go_wp2_with fail
          go_ret
          exact ⟨ret_int HR.out.symm, g⟩
end Go.Proofs.YtaanepadgoefhaaGreatDoor
