/- word.Name. -/
import Derived.Test.YthhakjckbnoefaaDoorRows
import Derived.Test.YthhakjckbnoefaaDoorNamP
import Derived.Test.YthhakjckbnoefaaDoorNum1
import Derived.Deep.LoopGhost
namespace Go.Proofs.YthhakjckbnoefaaDoor
open Go.ChangeShapes Go.WideShapes Go.ChangeAt Go.RowKit
set_option linter.unusedVariables false
set_option linter.unusedSimpArgs false

theorem letter_any (c : Int) (w : World) : Calls Tryd.prog 25 #[.int .u8 c] w fun e w' => e = .returned (.bool (letB c)) ∧ w' = w := by
  go_enter Tryd.func25, Tryd.ntmps25
  go_wp2
  all_goals go_ret
  all_goals (refine ⟨ret_bool ?_, rfl⟩; unfold letB; by_cases a1 : 97 ≤ c <;> by_cases a2 : c ≤ 122 <;> by_cases a3 : 65 ≤ c <;> by_cases a4 : c ≤ 90 <;> simp [a1, a2, a3, a4] <;> omega)

theorem nmB_empty {s : ByteArray} (h : s.size = 0) : nmB s = false := by unfold nmB; simp [h]
theorem nmB_long {s : ByteArray} (h : 8 < s.size) : nmB s = false := by unfold nmB; rw [decide_eq_false (by omega : ¬ s.size ≤ 8)]; simp
theorem letB_okc0 (c : Int) : okc 0 c = letB c := by unfold okc; simp

set_option maxRecDepth 100000 in
set_option maxHeartbeats 400000 in
theorem name_any (s : ByteArray) (hs : s.size ≤ maxLen) (w : World) :
    Calls Tryd.prog 19 #[.string s] w fun e w' => e = .returned (.bool (nmB s)) ∧ w' = w := by
  unfold maxLen at hs
  by_cases h0 : s.size = 0
  · have hz : s.toList.isEmpty = true := by rw [List.isEmpty_iff]; exact toList_nil.2 h0
    have HB := Lib.hid (nmB_empty h0)
    clear h0
    go_enter Tryd.func19, Tryd.ntmps19
    go_wp2
    go_ret
    exact ⟨ret_bool HB.out.symm, rfl⟩
  have hz : s.toList.isEmpty = false := by
    cases hq : s.toList.isEmpty with
    | false => rfl
    | true => exact absurd (toList_nil.1 (List.isEmpty_iff.1 hq)) h0
  by_cases h8 : 8 < s.size
  · have HB := Lib.hid (nmB_long h8)
    have h8' : (8 : Int) < (s.size : Int) := by omega
    clear h0
    go_enter Tryd.func19, Tryd.ntmps19
    go_wp2
    go_ret
    exact ⟨ret_bool HB.out.symm, rfl⟩
  have h0' : 0 < s.size := by omega
  have h0i : (0 : Int) < (s.size : Int) := by omega
  have h8i : ¬ (8 : Int) < (s.size : Int) := by omega
  have HG := Lib.hid (bt_get s 0 h0')
  cases hl : letB (bt s 0) with
  | false =>
    have HB := Lib.hid (nmB_bad s 0 h0' (by rw [letB_okc0]; exact hl))
    rw [HG.out] at hl
    have HLt := Lib.hid hl
    clear hl HG h0
    go_enter Tryd.func19, Tryd.ntmps19
    go_wp2_with fail
    refine (letter_any _ _).mono ?_
    rintro e w1 ⟨rfl, rfl⟩
    rw [HLt.out]
    go_wp2_with fail
    go_ret
    exact ⟨ret_bool HB.out.symm, rfl⟩
  | true =>
    have HO : Hid (okc 0 (bt s 0) = true) := by unfold Hid; rw [letB_okc0]; exact hl
    have hl2 := hl
    rw [HG.out] at hl2
    have HLt := Lib.hid hl2
    clear hl hl2 HG h0
    go_enter Tryd.func19, Tryd.ntmps19
    go_wp2_with fail
    refine (letter_any _ _).mono ?_
    rintro e w1 ⟨rfl, rfl⟩
    rw [HLt.out]
    go_wp2_with fail
    go_loopg [3] s.size (fun gh x3 wx => ∃ k : Nat, k + gh = s.size + 1 ∧ x3 = .int .i64 k ∧ 1 ≤ k ∧ Hid (∀ j, j < k → j < s.size → okc j (bt s j) = true) ∧ w1 = wx)
    case atStart => exact ⟨1, by omega, rfl, by omega, fun j hj h => by (obtain rfl : j = 0 := by omega); exact HO.out, rfl⟩
    case round =>
      obtain ⟨k, hkg, rfl, hk1, HA, rfl⟩ := hrel
      have HKG := Lib.hid hkg
      clear hkg
      by_cases hlt : k < s.size
      · have HK := Lib.hid (bt_get s k hlt)
        have ki : (k : Int) < (s.size : Int) := by omega
        cases hlk : letB (bt s k) with
        | true =>
          have HN : Hid (∀ j, j < k + 1 → j < s.size → okc j (bt s j) = true) := by
            intro j hj h
            by_cases e : j = k
            · subst e; unfold okc; rw [hlk]; rfl
            · exact HA.out j (by omega) h
          rw [HK.out] at hlk
          have HL2 := Lib.hid hlk
          clear hlk HA HK
          go_wp2_with fail
          refine (letter_any _ _).mono ?_
          rintro e w2 ⟨rfl, rfl⟩
          rw [HL2.out]
          go_wp2_with fail
          go_roundg (s.size - k)
          case measure => have := HKG.out; omega
          case rel => exact ⟨k + 1, by have := HKG.out; omega, by go_num, by omega, HN.out, rfl⟩
        | false =>
          by_cases hd : 48 ≤ bt s k ∧ bt s k ≤ 57
          · have HN : Hid (∀ j, j < k + 1 → j < s.size → okc j (bt s j) = true) := by
              intro j hj h
              by_cases e : j = k
              · subst e; exact okc_mk _ _ (.inr (.inr ⟨by omega, hd⟩))
              · exact HA.out j (by omega) h
            rw [HK.out] at hlk hd
            have HL2 := Lib.hid hlk
            obtain ⟨hd1, hd2⟩ := hd
            clear hlk HA HK
            go_wp2_with fail
            refine (letter_any _ _).mono ?_
            rintro e w2 ⟨rfl, rfl⟩
            rw [HL2.out]
            go_wp2_with fail
            go_roundg (s.size - k)
            case measure => have := HKG.out; omega
            case rel => exact ⟨k + 1, by have := HKG.out; omega, by go_num, by omega, HN.out, rfl⟩
          · have HB := Lib.hid (nmB_bad s k hlt (by
              unfold okc
              rw [hlk, decide_eq_true (by omega : k ≠ 0)]
              unfold digB
              simp; omega))
            rw [HK.out] at hlk hd
            have HL2 := Lib.hid hlk
            have hd' : ¬ 48 ≤ (s[k].toNat : Int) ∨ ¬ (s[k].toNat : Int) ≤ 57 := by omega
            clear hlk HA HK hd
            rcases hd' with hd' | hd'
            all_goals
              go_wp2_with fail
              refine (letter_any _ _).mono ?_
              rintro e w2 ⟨rfl, rfl⟩
              rw [HL2.out]
              go_wp2_with fail
              all_goals go_ret
              all_goals exact ⟨ret_bool HB.out.symm, rfl⟩
      · have HB := Lib.hid (nmB_good s fun i hi => HA.out i (by omega) hi)
        clear HA
        go_wp2
        go_ret
        refine ⟨ret_bool ?_, rfl⟩
        rw [HB.out]
        have a1 : 1 ≤ s.size := by omega
        have a2 : s.size ≤ 8 := by omega
        simp [a1, a2]
end Go.Proofs.YthhakjckbnoefaaDoor
