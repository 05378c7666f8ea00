/- Numbers: the walks. -/
import Derived.Test.YthhakjckbnoefaaDoorRows
import Derived.Test.YthhakjckbnoefaaDoorNumP
namespace Go.Proofs.YthhakjckbnoefaaDoor
open Go.ChangeShapes Go.WideShapes Go.ChangeAt Go.RowKit
set_option linter.unusedVariables false
set_option linter.unusedSimpArgs false
theorem toList_nil {s : ByteArray} : (s.toList = []) ↔ s.size = 0 := by
  rw [ByteArray.toList_eq]
  have hl : s.data.toList.length = s.size := by simp
  rw [← hl, List.length_eq_zero_iff]

set_option maxHeartbeats 800000 in
theorem number_any (s : ByteArray) (d : Int) (hs : s.size ≤ maxLen) (w : World) :
    Calls Tryd.prog 17 #[.string s, .int .i64 d] w fun e w' => e = .returned (.tuple #[.int .i64 (numN s d), .bool (numB s d)]) ∧ w' = w := by
  unfold maxLen at hs
  have hz1 : s.size = 0 → s.toList.isEmpty = true := fun h => by rw [List.isEmpty_iff]; exact toList_nil.2 h
  have hz2 : s.size ≠ 0 → s.toList.isEmpty = false := fun h => by
    cases hq : s.toList.isEmpty with
    | false => rfl
    | true => exact absurd (toList_nil.1 (List.isEmpty_iff.1 hq)) h
  by_cases h1 : d < 1
  · have hB := numB_not (s := s) (d := d) (by omega)
    have HB := Lib.hid hB
    clear hB hz1 hz2
    go_enter Tryd.func17, Tryd.ntmps17
    go_wp2
    go_ret2
    exact ⟨ret_ib HB.out.2.symm HB.out.1.symm, rfl⟩
  by_cases h2 : 9 < d
  · have hB := numB_not (s := s) (d := d) (by omega)
    have HB := Lib.hid hB
    clear hB hz1 hz2
    go_enter Tryd.func17, Tryd.ntmps17
    go_wp2
    go_ret2
    exact ⟨ret_ib HB.out.2.symm HB.out.1.symm, rfl⟩
  by_cases h3 : s.size = 0
  · have hB := numB_not (s := s) (d := d) (by omega)
    have HB := Lib.hid hB
    have hz := hz1 h3
    have hzz : s.size < 1 := by omega
    clear hB hz1 hz2 h3
    go_enter Tryd.func17, Tryd.ntmps17
    go_wp2
    go_ret2
    exact ⟨ret_ib HB.out.2.symm HB.out.1.symm, rfl⟩
  have hz := hz2 h3
  have h3' : 0 < s.size := by omega
  clear hz1 hz2 h3
  by_cases h4 : d < (s.size : Int)
  · have hB := numB_not (s := s) (d := d) (by omega)
    have HB := Lib.hid hB
    clear hB
    go_enter Tryd.func17, Tryd.ntmps17
    go_wp2
    go_ret2
    exact ⟨ret_ib HB.out.2.symm HB.out.1.symm, rfl⟩
  have HG := Lib.hid (bt_get s 0 h3')
  by_cases h5 : 1 < s.size ∧ bt s 0 = 48
  · have hB := numB_not (s := s) (d := d) (fun h => h.2.2.2.2.1 h5)
    have HB := Lib.hid hB
    obtain ⟨h51, h52⟩ := h5
    rw [HG.out] at h52
    have t1 : ((s[0].toNat : Int) == 48) = true := by rw [h52]; rfl
    have t3 : 1 < (s.size : Int) := by omega
    clear hB h52 HG
    go_enter Tryd.func17, Tryd.ntmps17
    go_wp2
    go_ret2
    exact ⟨ret_ib HB.out.2.symm HB.out.1.symm, rfl⟩
  have Hgo : Hid (∀ j : Nat, j ≤ s.size → (∀ i, i < j → 48 ≤ bt s i ∧ bt s i ≤ 57) → 0 ≤ nvB s j ∧ nvB s j < 10 ^ j) := fun j _ h => nvB_bd s j h
  have t5 : ((s[0].toNat : Int) == 48) = false ∨ (((s[0].toNat : Int) == 48) = true ∧ s.size = 1) := by
    rw [HG.out] at h5
    rcases Classical.em (s[0].toNat = 48) with h | h
    · right
      refine ⟨by rw [h]; rfl, ?_⟩
      have : ¬ 1 < s.size := fun h' => h5 ⟨h', by omega⟩
      omega
    · left
      rw [beq_eq_false_iff_ne]
      omega
  have H5 := Lib.hid h5
  clear h5 HG
  have h6 : s.size ≤ 9 := by omega
  have t6 : (((s[0].toNat : Int) == 48) = false ∧ 1 < (s.size : Int)) ∨ (((s[0].toNat : Int) == 48) = true ∧ ¬ 1 < (s.size : Int)) ∨ (((s[0].toNat : Int) == 48) = false ∧ ¬ 1 < (s.size : Int)) := by
    rcases t5 with h | ⟨h, h'⟩
    · rcases Classical.em (1 < (s.size : Int)) with g | g
      · exact .inl ⟨h, g⟩
      · exact .inr (.inr ⟨h, g⟩)
    · exact .inr (.inl ⟨h, by omega⟩)
  clear t5
  rcases t6 with ⟨t5, t7⟩ | ⟨t5, t7⟩ | ⟨t5, t7⟩
  all_goals
    go_enter Tryd.func17, Tryd.ntmps17
    go_wp2
    go_loop [6, 7] (fun n i => ∃ (k : Nat) (N : Int), i = .int .i64 k ∧ n = .int .i64 N ∧ k ≤ s.size ∧ 0 ≤ N ∧ N < 1000000000 ∧ Hid (N = nvB s k) ∧ Hid (∀ j, j < k → 48 ≤ bt s j ∧ bt s j ≤ 57)) (fun _ i => s.size - (intOf i).toNat)
    case atStart => exact ⟨0, 0, rfl, rfl, by omega, by omega, by omega, rfl, fun j hj => by omega⟩
    case round =>
      obtain ⟨k, N, rfl, rfl, hk, n0, n1, HN, HD⟩ := hrel
      by_cases hlt : k < s.size
      · have hg := bt_get s k hlt
        by_cases hd : 48 ≤ bt s k ∧ bt s k ≤ 57
        · have HD' : Hid (∀ j, j < k + 1 → 48 ≤ bt s j ∧ bt s j ≤ 57) := by
            intro j hj
            by_cases e : j = k
            · rw [e]; exact hd
            · exact HD.out j (by omega)
          have hb := nvB_bd s k HD.out
          have hp := pow_le9 k (by omega)
          have n2 : N < 100000000 := by have := HN.out; omega
          have HN' : Hid (10 * N + (bt s k - 48) = nvB s (k + 1)) := by unfold Hid; rw [HN.out]; rfl
          have hN2 := HN'.out
          rw [hg] at hd hN2
          have HN3 := Lib.hid hN2
          obtain ⟨d1, d2⟩ := hd
          clear hg HN HD hb hp HN' hN2
          go_wp2
          all_goals try (go_quiet (fail); go_wp2)
          all_goals go_round
          all_goals try (case rel => exact ⟨k + 1, _, by go_num, rfl, by omega, by omega, by omega, by first | exact HN3 | (unfold Hid; rw [← HN3.out]; omega), HD'⟩)
          all_goals try (case measure => simp [intOf]; omega)
        · have hB := numB_not (s := s) (d := d) (fun h => hd (h.2.2.2.2.2 k hlt))
          have HB := Lib.hid hB
          rw [hg] at hd
          clear hg HN HD hB
          go_wp2
          all_goals try (exfalso; omega)
          all_goals go_ret2
          all_goals exact ⟨ret_ib HB.out.2.symm HB.out.1.symm, rfl⟩
      · have e : k = s.size := by omega
        have hB : numB s d = true := (numB_iff s d).2 ⟨by omega, by omega, by omega, by omega, H5.out, fun i hi => HD.out i (by omega)⟩
        have hN : N = numN s d := by unfold numN; rw [hB, HN.out, e]; rfl
        have HB := Lib.hid hB
        have HNN := Lib.hid hN
        clear HN HD hB hN e
        go_wp2
        go_ret2
        exact ⟨ret_ib HNN.out HB.out.symm, rfl⟩

set_option maxHeartbeats 800000 in
theorem refNumber_any (s : ByteArray) (d : Int) (hs : s.size ≤ maxLen) (w : World) :
    Calls Tryd.prog 18 #[.string s, .int .i64 d] w fun e w' => e = .returned (.tuple #[.int .i64 (numN s d), .bool (numB s d)]) ∧ w' = w := by
  unfold maxLen at hs
  have hz1 : s.size = 0 → s.toList.isEmpty = true := fun h => by rw [List.isEmpty_iff]; exact toList_nil.2 h
  have hz2 : s.size ≠ 0 → s.toList.isEmpty = false := fun h => by
    cases hq : s.toList.isEmpty with
    | false => rfl
    | true => exact absurd (toList_nil.1 (List.isEmpty_iff.1 hq)) h
  by_cases h1 : d < 1
  · have hB := numB_not (s := s) (d := d) (by omega)
    have HB := Lib.hid hB
    clear hB hz1 hz2
    go_enter Tryd.func18, Tryd.ntmps18
    go_wp2
    go_ret2
    exact ⟨ret_ib HB.out.2.symm HB.out.1.symm, rfl⟩
  by_cases h2 : 9 < d
  · have hB := numB_not (s := s) (d := d) (by omega)
    have HB := Lib.hid hB
    clear hB hz1 hz2
    go_enter Tryd.func18, Tryd.ntmps18
    go_wp2
    go_ret2
    exact ⟨ret_ib HB.out.2.symm HB.out.1.symm, rfl⟩
  by_cases h3 : s.size = 0
  · have hB := numB_not (s := s) (d := d) (by omega)
    have HB := Lib.hid hB
    have hz := hz1 h3
    have hzz : s.size < 1 := by omega
    clear hB hz1 hz2 h3
    go_enter Tryd.func18, Tryd.ntmps18
    go_wp2
    go_ret2
    exact ⟨ret_ib HB.out.2.symm HB.out.1.symm, rfl⟩
  have hz := hz2 h3
  have h3' : 0 < s.size := by omega
  clear hz1 hz2 h3
  by_cases h4 : d < (s.size : Int)
  · have hB := numB_not (s := s) (d := d) (by omega)
    have HB := Lib.hid hB
    clear hB
    go_enter Tryd.func18, Tryd.ntmps18
    go_wp2
    go_ret2
    exact ⟨ret_ib HB.out.2.symm HB.out.1.symm, rfl⟩
  have HG := Lib.hid (bt_get s 0 h3')
  by_cases h5 : 1 < s.size ∧ bt s 0 = 48
  · have hB := numB_not (s := s) (d := d) (fun h => h.2.2.2.2.1 h5)
    have HB := Lib.hid hB
    obtain ⟨h51, h52⟩ := h5
    rw [HG.out] at h52
    have t1 : ((s[0].toNat : Int) == 48) = true := by rw [h52]; rfl
    have t3 : 1 < (s.size : Int) := by omega
    clear hB h52 HG
    go_enter Tryd.func18, Tryd.ntmps18
    go_wp2
    go_ret2
    exact ⟨ret_ib HB.out.2.symm HB.out.1.symm, rfl⟩
  have Hgo : Hid (∀ j : Nat, j ≤ s.size → (∀ i, i < j → 48 ≤ bt s i ∧ bt s i ≤ 57) → 0 ≤ nvB s j ∧ nvB s j < 10 ^ j) := fun j _ h => nvB_bd s j h
  have t5 : ((s[0].toNat : Int) == 48) = false ∨ (((s[0].toNat : Int) == 48) = true ∧ s.size = 1) := by
    rw [HG.out] at h5
    rcases Classical.em (s[0].toNat = 48) with h | h
    · right
      refine ⟨by rw [h]; rfl, ?_⟩
      have : ¬ 1 < s.size := fun h' => h5 ⟨h', by omega⟩
      omega
    · left
      rw [beq_eq_false_iff_ne]
      omega
  have H5 := Lib.hid h5
  clear h5 HG
  have h6 : s.size ≤ 9 := by omega
  have t6 : (((s[0].toNat : Int) == 48) = false ∧ 1 < (s.size : Int)) ∨ (((s[0].toNat : Int) == 48) = true ∧ ¬ 1 < (s.size : Int)) ∨ (((s[0].toNat : Int) == 48) = false ∧ ¬ 1 < (s.size : Int)) := by
    rcases t5 with h | ⟨h, h'⟩
    · rcases Classical.em (1 < (s.size : Int)) with g | g
      · exact .inl ⟨h, g⟩
      · exact .inr (.inr ⟨h, g⟩)
    · exact .inr (.inl ⟨h, by omega⟩)
  clear t5
  rcases t6 with ⟨t5, t7⟩ | ⟨t5, t7⟩ | ⟨t5, t7⟩
  all_goals
    go_enter Tryd.func18, Tryd.ntmps18
    go_wp2
    go_loop [6, 7] (fun n i => ∃ (k : Nat) (N : Int), i = .int .i64 k ∧ n = .int .i64 N ∧ k ≤ s.size ∧ 0 ≤ N ∧ N < 1000000000 ∧ Hid (N = nvB s k) ∧ Hid (∀ j, j < k → 48 ≤ bt s j ∧ bt s j ≤ 57)) (fun _ i => s.size - (intOf i).toNat)
    case atStart => exact ⟨0, 0, rfl, rfl, by omega, by omega, by omega, rfl, fun j hj => by omega⟩
    case round =>
      obtain ⟨k, N, rfl, rfl, hk, n0, n1, HN, HD⟩ := hrel
      by_cases hlt : k < s.size
      · have hg := bt_get s k hlt
        by_cases hd : 48 ≤ bt s k ∧ bt s k ≤ 57
        · have HD' : Hid (∀ j, j < k + 1 → 48 ≤ bt s j ∧ bt s j ≤ 57) := by
            intro j hj
            by_cases e : j = k
            · rw [e]; exact hd
            · exact HD.out j (by omega)
          have hb := nvB_bd s k HD.out
          have hp := pow_le9 k (by omega)
          have n2 : N < 100000000 := by have := HN.out; omega
          have HN' : Hid (10 * N + (bt s k - 48) = nvB s (k + 1)) := by unfold Hid; rw [HN.out]; rfl
          have hN2 := HN'.out
          rw [hg] at hd hN2
          have HN3 := Lib.hid hN2
          obtain ⟨d1, d2⟩ := hd
          clear hg HN HD hb hp HN' hN2
          go_wp2
          all_goals try (go_quiet (fail); go_wp2)
          all_goals go_round
          all_goals try (case rel => exact ⟨k + 1, _, by go_num, rfl, by omega, by omega, by omega, by first | exact HN3 | (unfold Hid; rw [← HN3.out]; omega), HD'⟩)
          all_goals try (case measure => simp [intOf]; omega)
        · have hB := numB_not (s := s) (d := d) (fun h => hd (h.2.2.2.2.2 k hlt))
          have HB := Lib.hid hB
          rw [hg] at hd
          clear hg HN HD hB
          go_wp2
          all_goals try (exfalso; omega)
          all_goals go_ret2
          all_goals exact ⟨ret_ib HB.out.2.symm HB.out.1.symm, rfl⟩
      · have e : k = s.size := by omega
        have hB : numB s d = true := (numB_iff s d).2 ⟨by omega, by omega, by omega, by omega, H5.out, fun i hi => HD.out i (by omega)⟩
        have hN : N = numN s d := by unfold numN; rw [hB, HN.out, e]; rfl
        have HB := Lib.hid hB
        have HNN := Lib.hid hN
        clear HN HD hB hN e
        go_wp2
        go_ret2
        exact ⟨ret_ib HNN.out HB.out.symm, rfl⟩
end Go.Proofs.YthhakjckbnoefaaDoor
