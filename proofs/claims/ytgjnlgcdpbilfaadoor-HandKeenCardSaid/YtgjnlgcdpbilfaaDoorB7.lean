/- NumP: Numbers of so many digits: plain. No program.
Num1: Numbers: the walks.
Nam2: word.Name.
Pla1: plan.numbers. Printed by wip/gen_pla1.py.
Pla5: plan.row.
Pla6: plan.lines.
Pla7: plan.long. -/
import Derived.Test.YtgjnlgcdpbilfaaDoorB1
import Derived.Test.YtgjnlgcdpbilfaaDoorRows
import Derived.Deep.LoopGhost
import Derived.Test.YtgjnlgcdpbilfaaDoorB3
import Derived.WalkMore
import Derived.Test.YtgjnlgcdpbilfaaDoorB5
import Derived.Test.YtgjnlgcdpbilfaaDoorB2
import Derived.Test.YtgjnlgcdpbilfaaDoorB6
import Derived.Test.YtgjnlgcdpbilfaaDoorB4
import Derived.Deep.AppendLies
namespace Go.Proofs.YtgjnlgcdpbilfaaDoor
open Go.ChangeShapes Go.WideShapes Go.ChangeAt Go.RowKit
set_option linter.unusedVariables false
set_option linter.unusedSimpArgs false

def dgB (c : Int) : Bool := decide (48 ≤ c) && decide (c ≤ 57)
theorem dgB_iff (c : Int) : dgB c = true ↔ 48 ≤ c ∧ c ≤ 57 := by unfold dgB; simp
def nvB (s : ByteArray) : Nat → Int
  | 0 => 0
  | k + 1 => 10 * nvB s k + (bt s k - 48)
def allD (s : ByteArray) : Bool := (List.range s.size).all fun i => dgB (bt s i)
def numB (s : ByteArray) (d : Int) : Bool := decide (1 ≤ d) && decide (d ≤ 9) && decide (1 ≤ s.size) && decide ((s.size : Int) ≤ d) && !(decide (1 < s.size) && decide (bt s 0 = 48)) && allD s
def numN (s : ByteArray) (d : Int) : Int := if numB s d then nvB s s.size else 0
theorem allD_iff (s : ByteArray) : allD s = true ↔ ∀ i, i < s.size → 48 ≤ bt s i ∧ bt s i ≤ 57 := by
  unfold allD
  rw [List.all_eq_true]
  constructor
  · intro h i hi
    exact (dgB_iff _).1 (h i (List.mem_range.2 hi))
  · intro h i hi
    exact (dgB_iff _).2 (h i (List.mem_range.1 hi))
theorem numB_iff (s : ByteArray) (d : Int) : numB s d = true ↔ 1 ≤ d ∧ d ≤ 9 ∧ 1 ≤ s.size ∧ (s.size : Int) ≤ d ∧ ¬ (1 < s.size ∧ bt s 0 = 48) ∧ ∀ i, i < s.size → 48 ≤ bt s i ∧ bt s i ≤ 57 := by
  unfold numB
  rw [← allD_iff]
  simp only [Bool.and_eq_true, decide_eq_true_eq, Bool.not_eq_true', Bool.and_eq_false_iff, decide_eq_false_iff_not]
  constructor
  · rintro ⟨⟨⟨⟨⟨a, b⟩, c⟩, d⟩, e⟩, f⟩
    refine ⟨a, b, c, d, ?_, f⟩
    rintro ⟨g, h⟩
    rcases e with e | e
    · exact e g
    · exact e h
  · rintro ⟨a, b, c, d, e, f⟩
    refine ⟨⟨⟨⟨⟨a, b⟩, c⟩, d⟩, ?_⟩, f⟩
    rcases Classical.em (1 < s.size) with g | g
    · exact .inr fun h => e ⟨g, h⟩
    · exact .inl g
theorem numB_not {s : ByteArray} {d : Int} (h : ¬ (1 ≤ d ∧ d ≤ 9 ∧ 1 ≤ s.size ∧ (s.size : Int) ≤ d ∧ ¬ (1 < s.size ∧ bt s 0 = 48) ∧ ∀ i, i < s.size → 48 ≤ bt s i ∧ bt s i ≤ 57)) : numB s d = false ∧ numN s d = 0 := by
  have e : numB s d = false := by
    cases hq : numB s d with
    | false => rfl
    | true => exact absurd ((numB_iff s d).1 hq) h
  exact ⟨e, by unfold numN; rw [e]; rfl⟩
theorem nvB_bd (s : ByteArray) : ∀ k : Nat, (∀ i, i < k → 48 ≤ bt s i ∧ bt s i ≤ 57) → 0 ≤ nvB s k ∧ nvB s k < 10 ^ k
  | 0, _ => by simp [nvB]
  | k + 1, h => by
    have ih := nvB_bd s k fun i hi => h i (by omega)
    have hk := h k (by omega)
    have e : (10 : Int) ^ (k + 1) = 10 * 10 ^ k := by rw [Int.pow_succ, Int.mul_comm]
    simp only [nvB]
    omega
theorem pow_le9 (k : Nat) (h : k ≤ 8) : (10 : Int) ^ k ≤ 100000000 := by
  match k, h with
  | 0, _ => decide
  | 1, _ => decide
  | 2, _ => decide
  | 3, _ => decide
  | 4, _ => decide
  | 5, _ => decide
  | 6, _ => decide
  | 7, _ => decide
  | 8, _ => decide
end Go.Proofs.YtgjnlgcdpbilfaaDoor
namespace Go.Proofs.YtgjnlgcdpbilfaaDoor
open Go.ChangeShapes Go.WideShapes Go.ChangeAt Go.RowKit
set_option linter.unusedVariables false
set_option linter.unusedSimpArgs false
theorem toList_nil {s : ByteArray} : (s.toList = []) ↔ s.size = 0 := by
  rw [ByteArray.toList_eq]
  have hl : s.data.toList.length = s.size := by simp
  rw [← hl, List.length_eq_zero_iff]
set_option maxHeartbeats 800000 in
theorem number_any (s : ByteArray) (d : Int) (hs : s.size ≤ maxLen) (w : World) :
    Calls Tryd.prog 56 #[.string s, .int .i64 d] w fun e w' => e = .returned (.tuple #[.int .i64 (numN s d), .bool (numB s d)]) ∧ w' = w := by
  unfold maxLen at hs
  have hz1 : s.size = 0 → s.toList.isEmpty = true := fun h => by rw [List.isEmpty_iff]; exact toList_nil.2 h
  have hz2 : s.size ≠ 0 → s.toList.isEmpty = false := fun h => by
    cases hq : s.toList.isEmpty with
    | false => rfl
    | true => exact absurd (toList_nil.1 (List.isEmpty_iff.1 hq)) h
  by_cases h1 : d < 1
  · have hB := numB_not (s := s) (d := d) (by omega)
    have HB := Lib.hid hB
    clear hB hz1 hz2
    go_enter Tryd.func56, Tryd.ntmps56
    go_wp2
    go_ret2
    exact ⟨ret_ib HB.out.2.symm HB.out.1.symm, rfl⟩
  by_cases h2 : 9 < d
  · have hB := numB_not (s := s) (d := d) (by omega)
    have HB := Lib.hid hB
    clear hB hz1 hz2
    go_enter Tryd.func56, Tryd.ntmps56
    go_wp2
    go_ret2
    exact ⟨ret_ib HB.out.2.symm HB.out.1.symm, rfl⟩
  by_cases h3 : s.size = 0
  · have hB := numB_not (s := s) (d := d) (by omega)
    have HB := Lib.hid hB
    have hz := hz1 h3
    have hzz : s.size < 1 := by omega
    clear hB hz1 hz2 h3
    go_enter Tryd.func56, Tryd.ntmps56
    go_wp2
    go_ret2
    exact ⟨ret_ib HB.out.2.symm HB.out.1.symm, rfl⟩
  have hz := hz2 h3
  have h3' : 0 < s.size := by omega
  clear hz1 hz2 h3
  by_cases h4 : d < (s.size : Int)
  · have hB := numB_not (s := s) (d := d) (by omega)
    have HB := Lib.hid hB
    clear hB
    go_enter Tryd.func56, Tryd.ntmps56
    go_wp2
    go_ret2
    exact ⟨ret_ib HB.out.2.symm HB.out.1.symm, rfl⟩
  have HG := Lib.hid (bt_get s 0 h3')
  by_cases h5 : 1 < s.size ∧ bt s 0 = 48
  · have hB := numB_not (s := s) (d := d) (fun h => h.2.2.2.2.1 h5)
    have HB := Lib.hid hB
    obtain ⟨h51, h52⟩ := h5
    rw [HG.out] at h52
    have t1 : ((s[0].toNat : Int) == 48) = true := by rw [h52]; rfl
    have t3 : 1 < (s.size : Int) := by omega
    clear hB h52 HG
    go_enter Tryd.func56, Tryd.ntmps56
    go_wp2
    go_ret2
    exact ⟨ret_ib HB.out.2.symm HB.out.1.symm, rfl⟩
  have Hgo : Hid (∀ j : Nat, j ≤ s.size → (∀ i, i < j → 48 ≤ bt s i ∧ bt s i ≤ 57) → 0 ≤ nvB s j ∧ nvB s j < 10 ^ j) := fun j _ h => nvB_bd s j h
  have t5 : ((s[0].toNat : Int) == 48) = false ∨ (((s[0].toNat : Int) == 48) = true ∧ s.size = 1) := by
    rw [HG.out] at h5
    rcases Classical.em (s[0].toNat = 48) with h | h
    · right
      refine ⟨by rw [h]; rfl, ?_⟩
      have : ¬ 1 < s.size := fun h' => h5 ⟨h', by omega⟩
      omega
    · left
      rw [beq_eq_false_iff_ne]
      omega
  have H5 := Lib.hid h5
  clear h5 HG
  have h6 : s.size ≤ 9 := by omega
  have t6 : (((s[0].toNat : Int) == 48) = false ∧ 1 < (s.size : Int)) ∨ (((s[0].toNat : Int) == 48) = true ∧ ¬ 1 < (s.size : Int)) ∨ (((s[0].toNat : Int) == 48) = false ∧ ¬ 1 < (s.size : Int)) := by
    rcases t5 with h | ⟨h, h'⟩
    · rcases Classical.em (1 < (s.size : Int)) with g | g
      · exact .inl ⟨h, g⟩
      · exact .inr (.inr ⟨h, g⟩)
    · exact .inr (.inl ⟨h, by omega⟩)
  clear t5
  rcases t6 with ⟨t5, t7⟩ | ⟨t5, t7⟩ | ⟨t5, t7⟩
  all_goals
    go_enter Tryd.func56, Tryd.ntmps56
    go_wp2
    go_loop [6, 7] (fun n i => ∃ (k : Nat) (N : Int), i = .int .i64 k ∧ n = .int .i64 N ∧ k ≤ s.size ∧ 0 ≤ N ∧ N < 1000000000 ∧ Hid (N = nvB s k) ∧ Hid (∀ j, j < k → 48 ≤ bt s j ∧ bt s j ≤ 57)) (fun _ i => s.size - (intOf i).toNat)
    case atStart => exact ⟨0, 0, rfl, rfl, by omega, by omega, by omega, rfl, fun j hj => by omega⟩
    case round =>
      obtain ⟨k, N, rfl, rfl, hk, n0, n1, HN, HD⟩ := hrel
      by_cases hlt : k < s.size
      · have hg := bt_get s k hlt
        by_cases hd : 48 ≤ bt s k ∧ bt s k ≤ 57
        · have HD' : Hid (∀ j, j < k + 1 → 48 ≤ bt s j ∧ bt s j ≤ 57) := by
            intro j hj
            by_cases e : j = k
            · rw [e]; exact hd
            · exact HD.out j (by omega)
          have hb := nvB_bd s k HD.out
          have hp := pow_le9 k (by omega)
          have n2 : N < 100000000 := by have := HN.out; omega
          have HN' : Hid (10 * N + (bt s k - 48) = nvB s (k + 1)) := by unfold Hid; rw [HN.out]; rfl
          have hN2 := HN'.out
          rw [hg] at hd hN2
          have HN3 := Lib.hid hN2
          obtain ⟨d1, d2⟩ := hd
          clear hg HN HD hb hp HN' hN2
          go_wp2
          all_goals try (go_quiet (fail); go_wp2)
          all_goals go_round
          all_goals try (case rel => exact ⟨k + 1, _, by go_num, rfl, by omega, by omega, by omega, by first | exact HN3 | (unfold Hid; rw [← HN3.out]; omega), HD'⟩)
          all_goals try (case measure => simp [intOf]; omega)
        · have hB := numB_not (s := s) (d := d) (fun h => hd (h.2.2.2.2.2 k hlt))
          have HB := Lib.hid hB
          rw [hg] at hd
          clear hg HN HD hB
          go_wp2
          all_goals try (exfalso; omega)
          all_goals go_ret2
          all_goals exact ⟨ret_ib HB.out.2.symm HB.out.1.symm, rfl⟩
      · have e : k = s.size := by omega
        have hB : numB s d = true := (numB_iff s d).2 ⟨by omega, by omega, by omega, by omega, H5.out, fun i hi => HD.out i (by omega)⟩
        have hN : N = numN s d := by unfold numN; rw [hB, HN.out, e]; rfl
        have HB := Lib.hid hB
        have HNN := Lib.hid hN
        clear HN HD hB hN e
        go_wp2
        go_ret2
        exact ⟨ret_ib HNN.out HB.out.symm, rfl⟩
end Go.Proofs.YtgjnlgcdpbilfaaDoor
namespace Go.Proofs.YtgjnlgcdpbilfaaDoor
open Go.ChangeShapes Go.WideShapes Go.ChangeAt Go.RowKit
set_option linter.unusedVariables false
set_option linter.unusedSimpArgs false

theorem letter_any (c : Int) (w : World) : Calls Tryd.prog 90 #[.int .u8 c] w fun e w' => e = .returned (.bool (letB c)) ∧ w' = w := by
  go_enter Tryd.func90, Tryd.ntmps90
  go_wp2
  all_goals go_ret
  all_goals (refine ⟨ret_bool ?_, rfl⟩; unfold letB; by_cases a1 : 97 ≤ c <;> by_cases a2 : c ≤ 122 <;> by_cases a3 : 65 ≤ c <;> by_cases a4 : c ≤ 90 <;> simp [a1, a2, a3, a4] <;> omega)
theorem nmB_empty {s : ByteArray} (h : s.size = 0) : nmB s = false := by unfold nmB; simp [h]
theorem nmB_long {s : ByteArray} (h : 8 < s.size) : nmB s = false := by unfold nmB; rw [decide_eq_false (by omega : ¬ s.size ≤ 8)]; simp
theorem letB_okc0 (c : Int) : okc 0 c = letB c := by unfold okc; simp
set_option maxRecDepth 100000 in
set_option maxHeartbeats 400000 in
theorem name_any (s : ByteArray) (hs : s.size ≤ maxLen) (w : World) :
    Calls Tryd.prog 82 #[.string s] w fun e w' => e = .returned (.bool (nmB s)) ∧ w' = w := by
  unfold maxLen at hs
  by_cases h0 : s.size = 0
  · have hz : s.toList.isEmpty = true := by rw [List.isEmpty_iff]; exact toList_nil.2 h0
    have HB := Lib.hid (nmB_empty h0)
    clear h0
    go_enter Tryd.func82, Tryd.ntmps82
    go_wp2
    go_ret
    exact ⟨ret_bool HB.out.symm, rfl⟩
  have hz : s.toList.isEmpty = false := by
    cases hq : s.toList.isEmpty with
    | false => rfl
    | true => exact absurd (toList_nil.1 (List.isEmpty_iff.1 hq)) h0
  by_cases h8 : 8 < s.size
  · have HB := Lib.hid (nmB_long h8)
    have h8' : (8 : Int) < (s.size : Int) := by omega
    clear h0
    go_enter Tryd.func82, Tryd.ntmps82
    go_wp2
    go_ret
    exact ⟨ret_bool HB.out.symm, rfl⟩
  have h0' : 0 < s.size := by omega
  have h0i : (0 : Int) < (s.size : Int) := by omega
  have h8i : ¬ (8 : Int) < (s.size : Int) := by omega
  have HG := Lib.hid (bt_get s 0 h0')
  cases hl : letB (bt s 0) with
  | false =>
    have HB := Lib.hid (nmB_bad s 0 h0' (by rw [letB_okc0]; exact hl))
    rw [HG.out] at hl
    have HLt := Lib.hid hl
    clear hl HG h0
    go_enter Tryd.func82, Tryd.ntmps82
    go_wp2_with fail
    refine (letter_any _ _).mono ?_
    rintro e w1 ⟨rfl, rfl⟩
    rw [HLt.out]
    go_wp2_with fail
    go_ret
    exact ⟨ret_bool HB.out.symm, rfl⟩
  | true =>
    have HO : Hid (okc 0 (bt s 0) = true) := by unfold Hid; rw [letB_okc0]; exact hl
    have hl2 := hl
    rw [HG.out] at hl2
    have HLt := Lib.hid hl2
    clear hl hl2 HG h0
    go_enter Tryd.func82, Tryd.ntmps82
    go_wp2_with fail
    refine (letter_any _ _).mono ?_
    rintro e w1 ⟨rfl, rfl⟩
    rw [HLt.out]
    go_wp2_with fail
    go_loopg [3] s.size (fun gh x3 wx => ∃ k : Nat, k + gh = s.size + 1 ∧ x3 = .int .i64 k ∧ 1 ≤ k ∧ Hid (∀ j, j < k → j < s.size → okc j (bt s j) = true) ∧ w1 = wx)
    case atStart => exact ⟨1, by omega, rfl, by omega, fun j hj h => by (obtain rfl : j = 0 := by omega); exact HO.out, rfl⟩
    case round =>
      obtain ⟨k, hkg, rfl, hk1, HA, rfl⟩ := hrel
      have HKG := Lib.hid hkg
      clear hkg
      by_cases hlt : k < s.size
      · have HK := Lib.hid (bt_get s k hlt)
        have ki : (k : Int) < (s.size : Int) := by omega
        cases hlk : letB (bt s k) with
        | true =>
          have HN : Hid (∀ j, j < k + 1 → j < s.size → okc j (bt s j) = true) := by
            intro j hj h
            by_cases e : j = k
            · subst e; unfold okc; rw [hlk]; rfl
            · exact HA.out j (by omega) h
          rw [HK.out] at hlk
          have HL2 := Lib.hid hlk
          clear hlk HA HK
          go_wp2_with fail
          refine (letter_any _ _).mono ?_
          rintro e w2 ⟨rfl, rfl⟩
          rw [HL2.out]
          go_wp2_with fail
          go_roundg (s.size - k)
          case measure => have := HKG.out; omega
          case rel => exact ⟨k + 1, by have := HKG.out; omega, by go_num, by omega, HN.out, rfl⟩
        | false =>
          by_cases hd : 48 ≤ bt s k ∧ bt s k ≤ 57
          · have HN : Hid (∀ j, j < k + 1 → j < s.size → okc j (bt s j) = true) := by
              intro j hj h
              by_cases e : j = k
              · subst e; exact okc_mk _ _ (.inr (.inr ⟨by omega, hd⟩))
              · exact HA.out j (by omega) h
            rw [HK.out] at hlk hd
            have HL2 := Lib.hid hlk
            obtain ⟨hd1, hd2⟩ := hd
            clear hlk HA HK
            go_wp2_with fail
            refine (letter_any _ _).mono ?_
            rintro e w2 ⟨rfl, rfl⟩
            rw [HL2.out]
            go_wp2_with fail
            go_roundg (s.size - k)
            case measure => have := HKG.out; omega
            case rel => exact ⟨k + 1, by have := HKG.out; omega, by go_num, by omega, HN.out, rfl⟩
          · have HB := Lib.hid (nmB_bad s k hlt (by
              unfold okc
              rw [hlk, decide_eq_true (by omega : k ≠ 0)]
              unfold digB
              simp; omega))
            rw [HK.out] at hlk hd
            have HL2 := Lib.hid hlk
            have hd' : ¬ 48 ≤ (s[k].toNat : Int) ∨ ¬ (s[k].toNat : Int) ≤ 57 := by omega
            clear hlk HA HK hd
            rcases hd' with hd' | hd'
            all_goals
              go_wp2_with fail
              refine (letter_any _ _).mono ?_
              rintro e w2 ⟨rfl, rfl⟩
              rw [HL2.out]
              go_wp2_with fail
              all_goals go_ret
              all_goals exact ⟨ret_bool HB.out.symm, rfl⟩
      · have HB := Lib.hid (nmB_good s fun i hi => HA.out i (by omega) hi)
        clear HA
        go_wp2
        go_ret
        refine ⟨ret_bool ?_, rfl⟩
        rw [HB.out]
        have a1 : 1 ≤ s.size := by omega
        have a2 : s.size ≤ 8 := by omega
        simp [a1, a2]
end Go.Proofs.YtgjnlgcdpbilfaaDoor
namespace Go.Proofs.YtgjnlgcdpbilfaaDoor
open Go.ChangeShapes Go.WideShapes Go.ChangeAt Go.RowKit
set_option linter.unusedVariables false
set_option linter.unusedSimpArgs false
theorem nums_cases (P : Pln) : (numsB P = true ∧ 1 ≤ P.top ∧ P.top ≤ 60 ∧ 1 ≤ P.brake ∧ P.brake ≤ 10 ∧ 1 ≤ P.margin ∧ P.margin ≤ 4000 ∧ 1 ≤ P.throw ∧ P.throw ≤ 20 ∧ 0 < P.es.length) ∨
    (numsB P = false ∧ (P.top < 1 ∨ (1 ≤ P.top ∧ 60 < P.top) ∨ (1 ≤ P.top ∧ P.top ≤ 60 ∧ P.brake < 1) ∨ (1 ≤ P.top ∧ P.top ≤ 60 ∧ 1 ≤ P.brake ∧ 10 < P.brake) ∨ (1 ≤ P.top ∧ P.top ≤ 60 ∧ 1 ≤ P.brake ∧ P.brake ≤ 10 ∧ P.margin < 1) ∨
      (1 ≤ P.top ∧ P.top ≤ 60 ∧ 1 ≤ P.brake ∧ P.brake ≤ 10 ∧ 1 ≤ P.margin ∧ 4000 < P.margin) ∨ (1 ≤ P.top ∧ P.top ≤ 60 ∧ 1 ≤ P.brake ∧ P.brake ≤ 10 ∧ 1 ≤ P.margin ∧ P.margin ≤ 4000 ∧ P.throw < 1) ∨
      (1 ≤ P.top ∧ P.top ≤ 60 ∧ 1 ≤ P.brake ∧ P.brake ≤ 10 ∧ 1 ≤ P.margin ∧ P.margin ≤ 4000 ∧ 1 ≤ P.throw ∧ 20 < P.throw) ∨ (1 ≤ P.top ∧ P.top ≤ 60 ∧ 1 ≤ P.brake ∧ P.brake ≤ 10 ∧ 1 ≤ P.margin ∧ P.margin ≤ 4000 ∧ 1 ≤ P.throw ∧ P.throw ≤ 20 ∧ ((P.es.length : Int) == 0) = true))) := by
  have hb : numsB P = decide ((1 ≤ P.top ∧ P.top ≤ 60) ∧ (1 ≤ P.brake ∧ P.brake ≤ 10) ∧ (1 ≤ P.margin ∧ P.margin ≤ 4000) ∧ (1 ≤ P.throw ∧ P.throw ≤ 20) ∧ 0 < P.es.length) := by
    rw [Bool.eq_iff_iff]
    unfold numsB inB
    simp only [Bool.and_eq_true, decide_eq_true_eq, Bool.not_eq_true', decide_eq_false_iff_not]
    omega
  have e0 : ((P.es.length : Int) == 0) = true ↔ P.es.length = 0 := by rw [beq_iff_eq]; omega
  rw [hb, e0]
  rcases Int.lt_or_le P.top (1) with h1 | h1
  · exact .inr ⟨decide_eq_false (by omega), .inl h1⟩
  rcases Int.lt_or_le (60) P.top with h2 | h2
  · exact .inr ⟨decide_eq_false (by omega), .inr (.inl (⟨h1, h2⟩))⟩
  rcases Int.lt_or_le P.brake (1) with h3 | h3
  · exact .inr ⟨decide_eq_false (by omega), .inr (.inr (.inl (⟨h1, h2, h3⟩)))⟩
  rcases Int.lt_or_le (10) P.brake with h4 | h4
  · exact .inr ⟨decide_eq_false (by omega), .inr (.inr (.inr (.inl (⟨h1, h2, h3, h4⟩))))⟩
  rcases Int.lt_or_le P.margin (1) with h5 | h5
  · exact .inr ⟨decide_eq_false (by omega), .inr (.inr (.inr (.inr (.inl (⟨h1, h2, h3, h4, h5⟩)))))⟩
  rcases Int.lt_or_le (4000) P.margin with h6 | h6
  · exact .inr ⟨decide_eq_false (by omega), .inr (.inr (.inr (.inr (.inr (.inl (⟨h1, h2, h3, h4, h5, h6⟩))))))⟩
  rcases Int.lt_or_le P.throw (1) with h7 | h7
  · exact .inr ⟨decide_eq_false (by omega), .inr (.inr (.inr (.inr (.inr (.inr (.inl (⟨h1, h2, h3, h4, h5, h6, h7⟩)))))))⟩
  rcases Int.lt_or_le (20) P.throw with h8 | h8
  · exact .inr ⟨decide_eq_false (by omega), .inr (.inr (.inr (.inr (.inr (.inr (.inr (.inl (⟨h1, h2, h3, h4, h5, h6, h7, h8⟩))))))))⟩
  rcases Nat.eq_zero_or_pos P.es.length with h9 | h9
  · exact .inr ⟨decide_eq_false (by omega), .inr (.inr (.inr (.inr (.inr (.inr (.inr (.inr ⟨h1, h2, h3, h4, h5, h6, h7, h8, h9⟩)))))))⟩
  · exact .inl ⟨decide_eq_true (by omega), h1, h2, h3, h4, h5, h6, h7, h8, h9⟩
set_option maxRecDepth 100000 in
set_option maxHeartbeats 1000000 in
theorem numbers_any (v : Value) (P : Pln) (w : World) (hP : IsPln w v P) (hk : PlnOk P) :
    Calls Tryd.prog 63 #[v] w fun e w' => e = .returned (.bool (argsB P)) ∧ Gr w w' := by
  obtain ⟨a1, c1, a2, c2, a3, c3, a4, c4, rfl, h1, h2, h3, h4⟩ := hP
  have m1 := IsRow.len h1
  have m3 := IsRow.len h3
  have m4 : P.ls.length ≤ maxLen := by obtain ⟨S, hS, -⟩ := h4; exact IsRow.len hS
  unfold maxLen at m1 m3 m4
  have H1 := Lib.hid h1
  have H3 := Lib.hid h3
  have H4 := Lib.hid h4
  have HB := Lib.hid (bxW_box w P (.slice a1 P.es.length c1) (.slice a2 P.js.length c2) (.slice a3 P.ss.length c3) (.slice a4 P.ls.length c4))
  have hw0 := bxW_gr w P (.slice a1 P.es.length c1) (.slice a2 P.js.length c2) (.slice a3 P.ss.length c3) (.slice a4 P.ls.length c4)
  obtain ⟨wb, hwb⟩ : ∃ wb, wb = bxW w P (.slice a1 P.es.length c1) (.slice a2 P.js.length c2) (.slice a3 P.ss.length c3) (.slice a4 P.ls.length c4) := ⟨_, rfl⟩
  rw [← hwb] at HB hw0
  unfold plnV
  have HWB := Lib.hid hwb
  have HK := Lib.hid hk
  have HNO := Lib.hid (@argsB_num P)
  clear h1 h2 h3 h4 hwb hk
  have HYES := Lib.hid (@argsB_yes P)
  rcases nums_cases P with ⟨hT, l1, l2, l3, l4, l5, l6, l7, l8, l9⟩ | ⟨hF, hc⟩
  rotate_left
  · have HR := Lib.hid (HNO.out hF)
    clear hF
    rcases hc with l1 | ⟨l1, l2⟩ | ⟨l1, l2, l3⟩ | ⟨l1, l2, l3, l4⟩ | ⟨l1, l2, l3, l4, l5⟩ | ⟨l1, l2, l3, l4, l5, l6⟩ | ⟨l1, l2, l3, l4, l5, l6, l7⟩ | ⟨l1, l2, l3, l4, l5, l6, l7, l8⟩ | ⟨l1, l2, l3, l4, l5, l6, l7, l8, l9⟩
    all_goals
      go_enter Tryd.func63, Tryd.ntmps63
      go_wp2_with fail
      go_step3
      go_wp2
      try rw [Exit.noGoto_ret]
      go_ret
      exact ⟨ret_bool HR.out.symm, (Gr.refl _).alloc _⟩
  have HT := Lib.hid hT
  have t1 : ((P.es.length : Int) == 0) = false := beqF (by omega)
  clear hT HNO
  go_enter Tryd.func63, Tryd.ntmps63
  go_wp2_with fail
  go_step3
  go_wp2_with fail
  rw [show (w.alloc (.cells #[.slice a1 P.es.length c1, .slice a2 P.js.length c2, .slice a3 P.ss.length c3, .slice a4 P.ls.length c4, .int .i64 P.top, .int .i64 P.brake, .int .i64 P.margin, .int .i64 P.throw, .bool P.hard] 27)) = wb from HWB.out.symm]
  clear t1 l1 l2 l3 l4 l5 l6 l7 l8 l9
  have hbo := HB.out
  obtain ⟨zb, b0, b1, b2, b3, b4, b5, b6, b7, b8⟩ := hbo
  go_step3
  go_wp2_with fail
  clear zb b0 b1 b2 b3 b4 b5 b6 b7 b8
  go_loopw [56] (fun i wr => ∃ k : Nat, i = .int .i64 k ∧ k ≤ P.es.length ∧ Gr wb wr ∧ Hid (∀ j (hj : j < P.es.length), j < k → eleB P.es[j] = true)) (fun i _ => P.es.length - (intOf i).toNat)
  case atStart => exact ⟨0, rfl, Nat.zero_le _, Gr.refl _, fun j hj h => by omega⟩
  case round =>
    obtain ⟨k, rfl, hk, g, HA⟩ := hrel
    have hbo := HB.out.gr g
    obtain ⟨zb, b0, b1, b2, b3, b4, b5, b6, b7, b8⟩ := hbo
    by_cases hlt : k < P.es.length
    · obtain ⟨b, o, hsome, zs, y0, y1, y2⟩ := (H1.out.gr (hw0.trans g)).at k hlt
      subst hsome
      have HBAD := Lib.hid (@argsB_es P k hlt)
      have HA' : Hid (eleB P.es[k] = true → ∀ j (hj : j < P.es.length), j < k + 1 → eleB P.es[j] = true) := by
        intro h j hj hjk
        by_cases e : j = k
        · subst e; exact h
        · exact HA.out j hj (by omega)
      have HZN := Lib.hid (HK.out.es _ (List.getElem_mem hlt)).2.2
      have hk1 : (k : Int) < (P.es.length : Int) := by omega
      clear HA
      have HE : Hid (eleB P.es[k] = (nmB P.es[k].n && !decide (endsK P.es[k].k = 0) && (if P.es[k].k = 4 then decide (P.es[k].l = 0) else inB P.es[k].l 1 4000))) := rfl
      generalize P.es[k] = q at *
      obtain ⟨qn, qk, ql⟩ := q
      dsimp only at HE y0 y1 y2 HZN
      have LQ : (Instr.loadAt 72 (.pointer (some ⟨b, o + k * 3, none⟩))).run Tryd.prog wr = .ok (.agg #[.string qn, .int .i64 qk, .int .i64 ql]) wr :=
        run_loadAt_mid wr b (o + k * 3) 72 [.string qn, .int .i64 qk, .int .i64 ql] _ (fun j v h => by
          match j, h with
          | 0, h => cases h; exact y0
          | 1, h => cases h; exact y1
          | 2, h => cases h; exact y2) Tryd.underlying72 rfl (by kernel_rfl)
      have HNM := Lib.hid (fun w => name_any qn HZN.out w)
      have HEN := Lib.hid (fun w => ends_any qk w)
      generalize nmB qn = nb at HE HNM
      generalize endsK qk = en at HE HEN
      cases nb
      · have HR := Lib.hid (HBAD.out (by rw [HE.out]; rfl))
        (go_wp2_with (first | (go_at_call 82; (with_reducible refine (HNM.out _).mono ?_); rintro e w' ⟨rfl, hq⟩; obtain rfl := hq.symm) | (go_at_call 83; (with_reducible refine (HEN.out _).mono ?_); rintro e w' ⟨rfl, hq⟩; obtain rfl := hq.symm)); (try rw [Exit.noGoto_ret]); go_ret; exact ⟨ret_bool HR.out.symm, (hw0.trans g).alloc _⟩)
      by_cases hen : en = 0
      · have HR := Lib.hid (HBAD.out (by rw [HE.out, hen]; rfl))
        have t1 : (en == 0) = true := by simpa using hen
        clear hen
        (go_wp2_with (first | (go_at_call 82; (with_reducible refine (HNM.out _).mono ?_); rintro e w' ⟨rfl, hq⟩; obtain rfl := hq.symm) | (go_at_call 83; (with_reducible refine (HEN.out _).mono ?_); rintro e w' ⟨rfl, hq⟩; obtain rfl := hq.symm)); (try rw [Exit.noGoto_ret]); go_ret; exact ⟨ret_bool HR.out.symm, (hw0.trans g).alloc _⟩)
      have t1 : (en == 0) = false := by simpa using hen
      by_cases hqk : qk = 4
      · have t2 : (qk == 4) = true := by simpa using hqk
        have t3 : (qk != 4) = false := by simpa using hqk
        by_cases hql : ql = 0
        · have HG := Lib.hid (HA'.out (by rw [HE.out, if_pos hqk, hql]; simp [hen]))
          have t4 : (ql != 0) = false := by simpa using hql
          clear hen hqk hql
          (go_wp2_with (first | (go_at_call 82; (with_reducible refine (HNM.out _).mono ?_); rintro e w' ⟨rfl, hq⟩; obtain rfl := hq.symm) | (go_at_call 83; (with_reducible refine (HEN.out _).mono ?_); rintro e w' ⟨rfl, hq⟩; obtain rfl := hq.symm)); go_roundw; (case rel => exact ⟨k + 1, by go_num, by omega, g.alloc _, HG.out⟩); (case measure => simp [intOf]; omega))
        · have HR := Lib.hid (HBAD.out (by rw [HE.out, if_pos hqk]; simp [hql]))
          have t4 : (ql != 0) = true := by simpa using hql
          clear hen hqk hql
          (go_wp2_with (first | (go_at_call 82; (with_reducible refine (HNM.out _).mono ?_); rintro e w' ⟨rfl, hq⟩; obtain rfl := hq.symm) | (go_at_call 83; (with_reducible refine (HEN.out _).mono ?_); rintro e w' ⟨rfl, hq⟩; obtain rfl := hq.symm)); (try rw [Exit.noGoto_ret]); go_ret; exact ⟨ret_bool HR.out.symm, (hw0.trans g).alloc _⟩)
      · have t2 : (qk == 4) = false := by simpa using hqk
        have t3 : (qk != 4) = true := by simpa using hqk
        by_cases hq1 : ql < 1
        · have HR := Lib.hid (HBAD.out (by rw [HE.out, if_neg hqk]; unfold inB; rw [decide_eq_false (by omega : ¬ 1 ≤ ql)]; simp))
          clear hen hqk
          (go_wp2_with (first | (go_at_call 82; (with_reducible refine (HNM.out _).mono ?_); rintro e w' ⟨rfl, hq⟩; obtain rfl := hq.symm) | (go_at_call 83; (with_reducible refine (HEN.out _).mono ?_); rintro e w' ⟨rfl, hq⟩; obtain rfl := hq.symm)); (try rw [Exit.noGoto_ret]); go_ret; exact ⟨ret_bool HR.out.symm, (hw0.trans g).alloc _⟩)
        by_cases hq2 : 4000 < ql
        · have HR := Lib.hid (HBAD.out (by rw [HE.out, if_neg hqk]; unfold inB; rw [decide_eq_false (by omega : ¬ ql ≤ 4000)]; simp))
          clear hen hqk
          (go_wp2_with (first | (go_at_call 82; (with_reducible refine (HNM.out _).mono ?_); rintro e w' ⟨rfl, hq⟩; obtain rfl := hq.symm) | (go_at_call 83; (with_reducible refine (HEN.out _).mono ?_); rintro e w' ⟨rfl, hq⟩; obtain rfl := hq.symm)); (try rw [Exit.noGoto_ret]); go_ret; exact ⟨ret_bool HR.out.symm, (hw0.trans g).alloc _⟩)
        · have HG := Lib.hid (HA'.out (by rw [HE.out, if_neg hqk]; unfold inB; rw [decide_eq_true (by omega : 1 ≤ ql), decide_eq_true (by omega : ql ≤ 4000)]; simp [hen]))
          clear hen hqk
          (go_wp2_with (first | (go_at_call 82; (with_reducible refine (HNM.out _).mono ?_); rintro e w' ⟨rfl, hq⟩; obtain rfl := hq.symm) | (go_at_call 83; (with_reducible refine (HEN.out _).mono ?_); rintro e w' ⟨rfl, hq⟩; obtain rfl := hq.symm)); go_roundw; (case rel => exact ⟨k + 1, by go_num, by omega, g.alloc _, HG.out⟩); (case measure => simp [intOf]; omega))
    · have HY2 : Hid ((∀ k (hk : k < P.ss.length), nmB P.ss[k].n = true) → (∀ k (hk : k < P.ls.length), nmB P.ls[k].n = true) → argsB P = true) := fun h2 h3 => HYES.out HT.out (fun j hj => HA.out j hj (by omega)) h2 h3
      clear HA HYES HT
      go_wp2_with fail
      clear zb b0 b1 b2 b3 b4 b5 b6 b7 b8 hlt hk
      have HB1 := Lib.hid (HB.out.gr g)
      have hw1 := hw0.trans g
      obtain ⟨wa, hwa⟩ : ∃ wa, wa = wr := ⟨_, rfl⟩
      subst hwa
      clear g
      go_loopw [91] (fun i wr => ∃ k : Nat, i = .int .i64 k ∧ k ≤ P.ss.length ∧ Gr wa wr ∧ Hid (∀ j (hj : j < P.ss.length), j < k → nmB P.ss[j].n = true)) (fun i _ => P.ss.length - (intOf i).toNat)
      case atStart => exact ⟨0, rfl, Nat.zero_le _, Gr.refl _, fun j hj h => by omega⟩
      case round =>
        obtain ⟨k, rfl, hk, g, HA⟩ := hrel
        have hbo := HB1.out.gr g
        obtain ⟨zb, b0, b1, b2, b3, b4, b5, b6, b7, b8⟩ := hbo
        by_cases hlt : k < P.ss.length
        · obtain ⟨b, o, hsome, zs, y0, y1, y2, y3⟩ := (H3.out.gr (hw1.trans g)).at k hlt
          subst hsome
          have HBAD := Lib.hid (@argsB_ss P k hlt)
          have HA' : Hid (nmB P.ss[k].n = true → ∀ j (hj : j < P.ss.length), j < k + 1 → nmB P.ss[j].n = true) := by
            intro h j hj hjk
            by_cases e : j = k
            · subst e; exact h
            · exact HA.out j hj (by omega)
          have HZN := Lib.hid (HK.out.ss _ (List.getElem_mem hlt)).2.2
          have hk1 : (k : Int) < (P.ss.length : Int) := by omega
          clear HA
          obtain ⟨q, hq⟩ : ∃ q, q = P.ss[k] := ⟨_, rfl⟩
          rw [← hq] at y0 y1 y2 y3 HBAD HA' HZN
          clear hq
          obtain ⟨qn, ⟨qe, qx⟩, qa⟩ := q
          dsimp only at y0 y1 y2 y3 HBAD HA' HZN
          have HNM := Lib.hid (fun w => name_any qn HZN.out w)
          generalize nmB qn = nb at *
          cases nb
          · have HR := Lib.hid (HBAD.out rfl)
            go_wp2_with (go_at_call 82; (with_reducible refine (HNM.out _).mono ?_); rintro e w' ⟨rfl, hq⟩; obtain rfl := hq.symm)
            try rw [Exit.noGoto_ret]
            go_ret
            exact ⟨ret_bool HR.out.symm, (hw1.trans g).alloc _⟩
          · have HG := Lib.hid (HA'.out rfl)
            go_wp2_with (go_at_call 82; (with_reducible refine (HNM.out _).mono ?_); rintro e w' ⟨rfl, hq⟩; obtain rfl := hq.symm)
            go_roundw
            case rel => exact ⟨k + 1, by go_num, by omega, g.alloc _, HG.out⟩
            case measure => simp [intOf]; omega
        · have HY3 : Hid ((∀ k (hk : k < P.ls.length), nmB P.ls[k].n = true) → argsB P = true) := fun h3 => HY2.out (fun j hj => HA.out j hj (by omega)) h3
          clear HA HY2
          go_wp2_with fail
          clear zb b0 b1 b2 b3 b4 b5 b6 b7 b8 hlt hk
          go_loopw [103] (fun i wr => ∃ k : Nat, i = .int .i64 k ∧ k ≤ P.ls.length ∧ Gr wa wr ∧ Hid (∀ j (hj : j < P.ls.length), j < k → nmB P.ls[j].n = true)) (fun i _ => P.ls.length - (intOf i).toNat)
          case atStart => exact ⟨0, rfl, Nat.zero_le _, g, fun j hj h => by omega⟩
          case round =>
            obtain ⟨k, rfl, hk, g, HA⟩ := hrel
            have hbo := HB1.out.gr g
            obtain ⟨zb, b0, b1, b2, b3, b4, b5, b6, b7, b8⟩ := hbo
            by_cases hlt : k < P.ls.length
            · obtain ⟨b, o, u, hsome, zs, y0, y1, hu⟩ := (H4.out.gr (hw1.trans g)).at k hlt
              subst hsome
              obtain ⟨au, cu, rfl, -, -⟩ := hu
              have HBAD := Lib.hid (@argsB_ls P k hlt)
              have HA' : Hid (nmB P.ls[k].n = true → ∀ j (hj : j < P.ls.length), j < k + 1 → nmB P.ls[j].n = true) := by
                intro h j hj hjk
                by_cases e : j = k
                · subst e; exact h
                · exact HA.out j hj (by omega)
              have HZN := Lib.hid (HK.out.ls _ (List.getElem_mem hlt)).1
              have hk1 : (k : Int) < (P.ls.length : Int) := by omega
              clear HA
              generalize P.ls[k].n = qn at *
              have HNM := Lib.hid (fun w => name_any qn HZN.out w)
              generalize nmB qn = nb at *
              cases nb
              · have HR := Lib.hid (HBAD.out rfl)
                go_wp2_with (go_at_call 82; (with_reducible refine (HNM.out _).mono ?_); rintro e w' ⟨rfl, hq⟩; obtain rfl := hq.symm)
                try rw [Exit.noGoto_ret]
                go_ret
                exact ⟨ret_bool HR.out.symm, (hw1.trans g).alloc _⟩
              · have HG := Lib.hid (HA'.out rfl)
                go_wp2_with (go_at_call 82; (with_reducible refine (HNM.out _).mono ?_); rintro e w' ⟨rfl, hq⟩; obtain rfl := hq.symm)
                go_roundw
                case rel => exact ⟨k + 1, by go_num, by omega, g.alloc _, HG.out⟩
                case measure => simp [intOf]; omega
            · have HY := Lib.hid (HY3.out fun j hj => HA.out j hj (by omega))
              clear HA
              go_wp2
              try rw [Exit.noGoto_ret]
              go_ret
              exact ⟨ret_bool HY.out.symm, hw1.trans g⟩
end Go.Proofs.YtgjnlgcdpbilfaaDoor
namespace Go.Proofs.YtgjnlgcdpbilfaaDoor
open Go.ChangeShapes Go.WideShapes Go.ChangeAt Go.RowKit Go.Maps
set_option linter.unusedVariables false
set_option linter.unusedSimpArgs false
theorem rowB_few {P : Pln} {L : List Int} (h : L.length < 2) : rowB P L = true := by
  match L, h with
  | [], _ => rfl
  | [x], _ => rfl
set_option maxRecDepth 100000 in
set_option maxHeartbeats 1000000 in
theorem row_any (u : Value) (P : Pln) (L : List Int) (w : World) (b0 n : Nat) (f : Value → Option Value) (hu : IsVals w u (L.map (Value.int .i64))) (hL : ∀ x ∈ L, I64 x) (hm : MapIs Tryd.prog 50 w b0 n f) (hf : FnL P.js f) (hj : ∀ x ∈ portsL P.js, hasP P x = true) (hn : L.length ≤ 1000000) :
    Calls Tryd.prog 85 #[u, .map (some b0)] w fun e w' => e = .returned (.bool (rowB P L)) ∧ Gr w w' := by
  have hu' := hu
  obtain ⟨av, cv, rfl, -, -⟩ := hu'
  simp only [List.length_map] at hu ⊢
  have HU := Lib.hid hu
  have HM := Lib.hid hm
  have HF := Lib.hid hf
  have HL := Lib.hid hL
  have HJ := Lib.hid (fun x y => @next_bd P hj x y)
  clear hu hm hf hL hj
  by_cases h2 : L.length < 2
  · have HR := Lib.hid (rowB_few (P := P) h2)
    go_enter Tryd.func85, Tryd.ntmps85
    go_wp2
    go_ret
    exact ⟨ret_bool HR.out.symm, Gr.refl _⟩
  have h2' : 2 ≤ L.length := by omega
  have HRW := Lib.hid (rowB_two (P := P) h2')
  obtain ⟨b, o, hsome, zs, y0⟩ := ints_at HU.out 0 (by omega)
  obtain ⟨b', o', hsome', zs', y1⟩ := ints_at HU.out 1 (by omega)
  subst hsome
  simp only [Option.some.injEq, Addr.mk.injEq, and_true] at hsome'
  obtain ⟨rfl, rfl⟩ := hsome'
  have HLA := Lib.hid (HL.out _ (List.getElem_mem (show 0 < L.length by omega)))
  obtain ⟨A0, hA0⟩ : ∃ A0, A0 = L[0]'(by omega) := ⟨_, rfl⟩
  obtain ⟨A1, hA1⟩ : ∃ A1, A1 = L[1]'(by omega) := ⟨_, rfl⟩
  rw [← hA0] at HRW y0 HLA
  rw [← hA1] at HRW y1
  clear hA0 hA1
  go_enter Tryd.func85, Tryd.ntmps85
  go_wp2_with fail
  have Y0 : Hid (w.cell? ⟨b, o, none⟩ = some (.int .i64 A0)) := y0
  have Y1 := Lib.hid y1
  clear y0 y1
  go_loopw [5, 6, 7, 8] (fun x y _ _ wr => ∃ (O : Int) (k : Nat), x = .int .i64 O ∧ y = .int .i64 ((k : Int) - 1) ∧ k ≤ 2 ∧ Gr w wr ∧ Hid (StOut P A0 A1 k O)) (fun _ y _ _ _ => (intOf y + 1).toNat)
  case atStart => exact ⟨-1, 2, rfl, rfl, by omega, Gr.refl _, .inl ⟨rfl, rfl⟩⟩
  case round =>
    obtain ⟨O, k, rfl, rfl, hk, g, HO⟩ := hrel
    have zs2 := Nat.lt_of_lt_of_le zs g.size
    have y0 := (g.cell _ _ zs).trans Y0.out
    have y1 := (g.cell _ _ zs).trans Y1.out
    by_cases hk0 : 0 < k
    · have hk1 : ¬ (k : Int) - 1 < 0 := by omega
      have hpk : PrtOk ⟨A0, (k : Int) - 1⟩ := ⟨HLA.out, show I64 ((k : Int) - 1) from WalkArith.wf_i64 (by omega)⟩
      have hkk : ((k - 1 : Nat) : Int) - 1 = (k : Int) - 1 - 1 := by omega
      have HKK := Lib.hid hkk
      clear hkk
      rcases hnx : nextL P.js ⟨A0, (k : Int) - 1⟩ with _ | ⟨ye, yx⟩
      · have l1 := next_look_none (HM.out.gr g) HF.out hpk hnx
        have HO2 := Lib.hid (HO.out.no hk0 (joinsTo_none (b := A1) hnx))
        dsimp only at l1
        clear hnx hpk HO
        go_wp2_with fail
        go_quiet (fail)
        go_wp2
        go_roundw
        case rel => exact ⟨O, k - 1, rfl, by rw [HKK.out], by omega, by first | exact (g.alloc _).drewN _ | exact (g.drewN _).alloc _, HO2.out⟩
        case measure => simp [intOf]; omega
      · have l1 := next_look_some (HM.out.gr g) HF.out hpk hnx
        have HJN := Lib.hid (joinsTo_some (b := A1) hnx)
        dsimp only at l1 HJN
        clear hnx hpk
        by_cases hye : ye = A1
        · have t5 := beqT hye
          have HO2 := Lib.hid (HO.out.yes hk0 (by rw [HJN.out]; exact decide_eq_true hye))
          clear hye HO HJN
          go_wp2_with fail
          go_quiet (fail)
          go_wp2
          go_roundw
          case rel => exact ⟨(k : Int) - 1, k - 1, rfl, by rw [HKK.out], by omega, by first | exact (g.alloc _).drewN _ | exact (g.drewN _).alloc _, HO2.out⟩
          case measure => simp [intOf]; omega
        · have t5 := beqF hye
          have HO2 := Lib.hid (HO.out.no hk0 (by rw [HJN.out]; exact decide_eq_false hye))
          clear hye HO HJN
          go_wp2_with fail
          go_quiet (fail)
          go_wp2
          go_roundw
          case rel => exact ⟨O, k - 1, rfl, by rw [HKK.out], by omega, by first | exact (g.alloc _).drewN _ | exact (g.drewN _).alloc _, HO2.out⟩
          case measure => simp [intOf]; omega
    · have hO := HO.out.done hk0
      have hob := outOf_bd P A0 A1
      clear HO
      generalize outOf P A0 A1 = OO at *
      subst hO
      by_cases hneg : O < 0
      · have HR : Hid (rowB P L = false) := by unfold Hid; rw [HRW.out]; simp [hneg]
        go_wp2
        go_ret
        exact ⟨ret_bool HR.out.symm, g⟩
      have HR0 : Hid (rowB P L = chainB P L O) := by unfold Hid; rw [HRW.out]; simp [hneg]
      obtain ⟨hob1, hob2⟩ := hob
      clear HRW
      go_wp2_with fail
      clear y0 y1 Y0 Y1 zs2
      obtain ⟨wd, hwd⟩ : ∃ wd, wd = wr := ⟨_, rfl⟩
      subst hwd
      go_loopw [5, 9, 10, 11] (fun x y _ _ wr => ∃ (Q : Int) (j : Nat), x = .int .i64 Q ∧ y = .int .i64 ((j : Int) + 1) ∧ j + 1 ≤ L.length ∧ -2 ≤ Q ∧ Q ≤ 1 ∧ Gr w wr ∧ Hid (chainB P (L.drop j) Q = chainB P L O)) (fun _ y _ _ _ => L.length - (intOf y).toNat)
      case atStart => exact ⟨O, 0, rfl, rfl, by omega, by omega, by omega, g, rfl⟩
      case round =>
        obtain ⟨Q, j, rfl, rfl, hj1, hq1, hq2, g, HC⟩ := hrel
        by_cases hjl : j + 1 < L.length
        · obtain ⟨b', o', hsome', zs', y0⟩ := ints_at (HU.out.gr g) j (by omega)
          simp only [Option.some.injEq, Addr.mk.injEq, and_true] at hsome'
          obtain ⟨rfl, rfl⟩ := hsome'
          obtain ⟨b', o', hsome', zs2, y1⟩ := ints_at (HU.out.gr g) (j + 1) hjl
          simp only [Option.some.injEq, Addr.mk.injEq, and_true] at hsome'
          obtain ⟨rfl, rfl⟩ := hsome'
          have HCD := Lib.hid (fun q => chain_drop (P := P) hjl q)
          have HLX := Lib.hid (HL.out _ (List.getElem_mem (show j < L.length by omega)))
          obtain ⟨X, hX⟩ : ∃ X, X = L[j]'(by omega) := ⟨_, rfl⟩
          obtain ⟨Y, hY⟩ : ∃ Y, Y = L[j + 1] := ⟨_, rfl⟩
          rw [← hX] at y0 HCD HLX
          rw [← hY] at y1 HCD
          clear hX hY
          have j1 : (j : Int) < (L.length : Int) := by omega
          have j2 : (j : Int) + 1 < (L.length : Int) := by omega
          have hpk : PrtOk ⟨X, Q⟩ := ⟨HLX.out, show I64 Q from WalkArith.wf_i64 (by omega)⟩
          rcases hnx : nextL P.js ⟨X, Q⟩ with _ | ⟨ye, yx⟩
          · have l1 := next_look_none (HM.out.gr g) HF.out hpk hnx
            have HR : Hid (rowB P L = false) := by unfold Hid; rw [HR0.out, ← HC.out, HCD.out, hnx]
            dsimp only at l1
            clear hnx hpk
            go_wp2_with fail
            go_quiet (fail)
            go_wp2
            go_ret
            exact ⟨ret_bool HR.out.symm, by first | exact (g.alloc _).drewN _ | exact (g.drewN _).alloc _⟩
          · have l1 := next_look_some (HM.out.gr g) HF.out hpk hnx
            have HCY : Hid (chainB P (L.drop j) Q = (decide (ye = Y) && chainB P (L.drop (j + 1)) (1 - yx))) := by unfold Hid; rw [HCD.out, hnx]
            have hbd := HJ.out _ _ hnx
            dsimp only at l1 hbd
            obtain ⟨-, -, bd1, bd2⟩ := hbd
            clear hnx HCD hpk
            by_cases hye : ye = Y
            · have t5 := bneF hye
              have HC2 : Hid (chainB P (L.drop (j + 1)) (1 - yx) = chainB P L O) := by
                unfold Hid
                rw [← HC.out, HCY.out, decide_eq_true hye]; rfl
              clear hye HC HCY
              go_wp2_with fail
              go_quiet (fail)
              go_wp2
              go_roundw
              case rel => exact ⟨1 - yx, j + 1, rfl, by go_num, by omega, by omega, by omega, by first | exact (g.alloc _).drewN _ | exact (g.drewN _).alloc _, HC2.out⟩
              case measure => simp [intOf]; omega
            · have t5 := bneT hye
              have HR : Hid (rowB P L = false) := by unfold Hid; rw [HR0.out, ← HC.out, HCY.out, decide_eq_false hye]; rfl
              clear hye HC HCY
              go_wp2_with fail
              go_quiet (fail)
              go_wp2
              go_ret
              exact ⟨ret_bool HR.out.symm, by first | exact (g.alloc _).drewN _ | exact (g.drewN _).alloc _⟩
        · have hce := chain_end (P := P) (L := L) (i := j) (by omega) Q
          have HR : Hid (rowB P L = true) := by unfold Hid; rw [HR0.out, ← HC.out]; exact hce.1
          clear hce HC
          go_wp2
          go_ret
          exact ⟨ret_bool HR.out.symm, g⟩
end Go.Proofs.YtgjnlgcdpbilfaaDoor
namespace Go.Proofs.YtgjnlgcdpbilfaaDoor
open Go.ChangeShapes Go.WideShapes Go.ChangeAt Go.RowKit Go.Maps
set_option linter.unusedVariables false
set_option linter.unusedSimpArgs false
def SeenI (l : List Int) (f : Value → Option Value) : Prop := ∀ x : Int, (x ∈ l → f (.int .i64 x) = some (.bool true)) ∧ (x ∉ l → f (.int .i64 x) = none)
theorem SeenI.nil : SeenI [] (fun _ => none) := fun x => ⟨fun h => (List.not_mem_nil h).elim, fun _ => rfl⟩
theorem SeenI.put {l : List Int} {f : Value → Option Value} (h : SeenI l f) (x : Int) : SeenI (l ++ [x]) (put f (.int .i64 x) (.bool true)) := by
  intro y
  by_cases e : y = x
  · subst e; rw [put_self]; simp
  · rw [put_else _ (fun h => e (by injection h))]
    have h1 := h y
    simp only [List.mem_append, List.mem_singleton, e, or_false]
    exact h1
theorem seenI_yes {w : World} {b n : Nat} {f : Value → Option Value} {l : List Int} {x : Int} (h : MapIs Tryd.prog 3 w b n f) (hf : SeenI l f) (hx : I64 x) (hn : x ∈ l) :
    (Instr.lookup 132 (.map (some b)) (.int .i64 x) false).run Tryd.prog w = .ok (.bool true) w := by
  have := h.lookup int_key Tryd.underlying132 (bool_zero w) (keyOf_int_mk Tryd.underlying3 hx)
  rw [(hf x).1 hn] at this
  exact this
theorem seenI_no {w : World} {b n : Nat} {f : Value → Option Value} {l : List Int} {x : Int} (h : MapIs Tryd.prog 3 w b n f) (hf : SeenI l f) (hx : I64 x) (hn : x ∉ l) :
    (Instr.lookup 132 (.map (some b)) (.int .i64 x) false).run Tryd.prog w = .ok (.bool false) w := by
  have := h.lookup int_key Tryd.underlying132 (bool_zero w) (keyOf_int_mk Tryd.underlying3 hx)
  rw [(hf x).2 hn] at this
  exact this
set_option maxRecDepth 100000 in
set_option maxHeartbeats 1000000 in
theorem lines_anyP (v : Value) (P : Pln) (w : World) (b n : Nat) (f : Value → Option Value) (hP : IsPln w v P) (hk : PlnOk P) (hn : (P.ls.flatMap (·.es)).length ≤ 1000000) (hln : P.ls.length ≤ 1000000) (hm : MapIs Tryd.prog 50 w b n f) (hf : FnL P.js f) (hok : okL P P.js) :
    Calls Tryd.prog 70 #[v, .map (some b)] w fun e w' => e = .returned (.bool (linesB P)) ∧ Gr w w' := by
  obtain ⟨a1, c1, a2, c2, a3, c3, a4, c4, rfl, h1, h2, h3, h4⟩ := hP
  have m1 := IsRow.len h1
  unfold maxLen at m1
  have hmm := @run_makeMap Tryd.prog
  have H1 := Lib.hid h1
  have H4 := Lib.hid h4
  have HB := Lib.hid (bxW_box w P (.slice a1 P.es.length c1) (.slice a2 P.js.length c2) (.slice a3 P.ss.length c3) (.slice a4 P.ls.length c4))
  have hw0 := bxW_gr w P (.slice a1 P.es.length c1) (.slice a2 P.js.length c2) (.slice a3 P.ss.length c3) (.slice a4 P.ls.length c4)
  have hsz : (bxW w P (.slice a1 P.es.length c1) (.slice a2 P.js.length c2) (.slice a3 P.ss.length c3) (.slice a4 P.ls.length c4)).heap.size = w.heap.size + 1 := by unfold bxW; simp
  obtain ⟨wb, hwb⟩ : ∃ wb, wb = bxW w P (.slice a1 P.es.length c1) (.slice a2 P.js.length c2) (.slice a3 P.ss.length c3) (.slice a4 P.ls.length c4) := ⟨_, rfl⟩
  rw [← hwb] at HB hw0 hsz
  have HSZ := Lib.hid hsz
  have hm0 : MapIs Tryd.prog 3 (wb.alloc (.map #[] 0)) (w.heap.size + 1) 0 (fun _ => none) := by rw [← hsz]; exact MapIs.made _ _ _
  have HM0 := Lib.hid hm0
  unfold plnV
  have HWB := Lib.hid hwb
  have HKL := Lib.hid hk.ls
  have HM := Lib.hid hm
  have HF := Lib.hid hf
  have HJ := Lib.hid hok.2
  have HN := Lib.hid hn
  clear h1 h2 h3 h4 hwb hk hsz hm0 hm hf hok hn
  go_enter Tryd.func70, Tryd.ntmps70
  go_wp2_with fail
  rw [show (w.alloc (.cells #[.slice a1 P.es.length c1, .slice a2 P.js.length c2, .slice a3 P.ss.length c3, .slice a4 P.ls.length c4, .int .i64 P.top, .int .i64 P.brake, .int .i64 P.margin, .int .i64 P.throw, .bool P.hard] 27)) = wb from HWB.out.symm]
  clear HWB hmm
  go_loopw [14, 25] (fun x _ wr => ∃ (i n : Nat) (f : Value → Option Value), x = .int .i64 i ∧ i ≤ P.ls.length ∧ n ≤ ((P.ls.take i).flatMap (·.es)).length ∧ Gr wb wr ∧ MapIs Tryd.prog 3 wr (w.heap.size + 1) n f ∧ Hid (SeenI ((P.ls.take i).flatMap (·.es)) f) ∧ Hid (((P.ls.take i).flatMap (·.es)).Nodup ∧ ∀ j (hj : j < P.ls.length), j < i → entB P P.ls[j].es = true)) (fun x _ _ => P.ls.length - (intOf x).toNat)
  case atStart => exact ⟨0, 0, _, rfl, Nat.zero_le _, Nat.zero_le _, (Gr.refl _).alloc _, HM0.out, SeenI.nil, List.nodup_nil, fun j _ h => by omega⟩
  case round =>
    obtain ⟨i, n0, f0, rfl, hi, hn0, g0, hm1, HS, HA⟩ := hrel
    have hB := HB.out.gr g0
    have hwr : Gr w wr := hw0.trans g0
    obtain ⟨zb, b0, b1, b2, b3, b4, b5, b6, b7, b8⟩ := hB
    by_cases hlt : i < P.ls.length
    · obtain ⟨bl, o, u, hsome, zs, y0, y1, hu⟩ := (H4.out).at i hlt
      have y0 := (hwr.cell _ _ zs).trans y0
      have y1 := (hwr.cell _ _ zs).trans y1
      subst hsome
      have i1 : (i : Int) < (P.ls.length : Int) := by omega
      have HD := Lib.hid (fun k => @linesB_dup P i k hlt)
      have HE := Lib.hid (@linesB_ent P i hlt)
      have HST := Lib.hid (lines_step hlt)
      have HKLi := Lib.hid (HKL.out _ (List.getElem_mem hlt)).2
      have hll : ((P.ls.take i).flatMap (·.es)).length + P.ls[i].es.length ≤ 1000000 := by
        have := HN.out
        rw [lines_split hlt] at this
        simp only [List.length_append] at this
        omega
      have HA' : Hid (((P.ls.take (i + 1)).flatMap (·.es)).Nodup → entB P P.ls[i].es = true → (((P.ls.take (i + 1)).flatMap (·.es)).Nodup ∧ ∀ j (hj : j < P.ls.length), j < i + 1 → entB P P.ls[j].es = true)) := by
        intro h1 h2
        refine ⟨h1, fun j hj hji => ?_⟩
        by_cases e : j = i
        · subst e; exact h2
        · exact HA.out.2 j hj (by omega)
      have HM0 := Lib.hid HA.out.1
      clear HA
      generalize P.ls[i].n = ln at *
      generalize P.ls[i].es = l at *
      obtain ⟨M, hM⟩ : ∃ M, M = (P.ls.take i).flatMap (·.es) := ⟨_, rfl⟩
      rw [← hM] at HD HST hll HM0 hn0 HS
      clear hM
      have hu' := hu
      obtain ⟨au, cu, rfl, -, -⟩ := hu'
      simp only [List.length_map] at hu y1
      have HU := Lib.hid hu
      clear hu
      by_cases hl0 : l.length = 0
      · have t1 : ((l.length : Int) == 0) = true := by simp [hl0]
        have HR := Lib.hid (HE.out (by rw [List.length_eq_zero_iff.1 hl0]; exact entB_nil P))
        clear hl0
        go_wp2
        go_ret
        exact ⟨ret_bool HR.out.symm, hwr.alloc _⟩
      have t1 : ((l.length : Int) == 0) = false := beqF (by omega)
      have hl0' : 0 < l.length := by omega
      clear hl0
      have hblt := hm1.lt
      go_wp2_with fail
      clear b0 b1 b2 b3 b4 b5 b6 b7 b8 y0 y1 t1
      obtain ⟨lb, hlb⟩ : ∃ lb, lb = wr.heap.size := ⟨_, rfl⟩
      have HLB := Lib.hid hlb
      have hm1' := hm1.gr ((Gr.refl wr).alloc (.cells #[.string ln, .slice au l.length cu] 85))
      have hq : (wr.alloc (.cells #[.string ln, .slice au l.length cu] 85)).cell? ⟨lb, 1, none⟩ = some (.slice au l.length cu) := by rw [hlb, World.cell?_alloc_mark]; rfl
      have hq2 : lb < (wr.alloc (.cells #[.string ln, .slice au l.length cu] 85)).heap.size := by rw [hlb]; simp
      have hlbm : w.heap.size + 1 < lb := by omega
      rw [← hlb]
      clear hlb hm1
      go_loopw [9, 25] (fun _ x wr => ∃ (k n : Nat) (f : Value → Option Value), x = .int .i64 k ∧ k ≤ l.length ∧ n ≤ M.length + k ∧ Gr wb wr ∧ MapIs Tryd.prog 3 wr (w.heap.size + 1) n f ∧ Hid (SeenI (M ++ l.take k) f) ∧ Hid ((M ++ l.take k).Nodup ∧ ∀ j (hj : j < l.length), j < k → kindP P l[j] = 1) ∧ wr.cell? ⟨lb, 1, none⟩ = some (.slice au l.length cu) ∧ lb < wr.heap.size) (fun _ x _ => l.length - (intOf x).toNat)
      case atStart => exact ⟨0, n0, f0, rfl, Nat.zero_le _, by omega, g0.alloc _, hm1', by unfold Hid; simpa using HS.out, ⟨by simpa using HM0.out, fun j _ h => by omega⟩, hq, hq2⟩
      case round =>
        clear hq hq2 hm1' zb hwr hblt
        obtain ⟨k, n1, f1, rfl, hk, hn1, g, hm1, HS1, HNd, q1, q2⟩ := hrel
        have HM1 := Lib.hid hm1
        clear hm1
        have hB := HB.out.gr g
        have hwr2 : Gr w wr := hw0.trans g
        obtain ⟨zb, b0, b1, b2, b3, b4, b5, b6, b7, b8⟩ := hB
        by_cases hkl : k < l.length
        · have k1 : (k : Int) < (l.length : Int) := by omega
          obtain ⟨b', o', hsome', zs', y0⟩ := ints_at (HU.out.gr hwr2) k hkl
          subst hsome'
          have HDk := Lib.hid (HD.out k hkl)
          have HEk := Lib.hid (@entB_kind P l k hkl)
          have HIK := Lib.hid (HKLi.out _ (List.getElem_mem hkl))
          have HTK : Hid ((M ++ l.take k) ++ [l[k]] = M ++ l.take (k + 1)) := by unfold Hid; rw [List.take_succ_eq_append_getElem hkl, List.append_assoc]
          have HND2 : Hid (l[k] ∉ M ++ l.take k → kindP P l[k] = 1 → ((M ++ l.take k) ++ [l[k]]).Nodup ∧ ∀ j (hj : j < l.length), j < k + 1 → kindP P l[j] = 1) := fun h h2 => ⟨nodup_snoc HNd.out.1 h, fun j hj hjk => by
            by_cases e : j = k
            · subst e; exact h2
            · exact HNd.out.2 j hj (by omega)⟩
          clear HNd
          obtain ⟨x, hx⟩ : ∃ x, x = l[k] := ⟨_, rfl⟩
          rw [← hx] at y0 HDk HEk HIK HTK HND2
          clear hx
          by_cases hx0 : x < 0
          · have HR := Lib.hid (HE.out (HEk.out (by rw [kindP_out P x (by omega)]; omega)))
            go_wp2
            go_ret
            exact ⟨ret_bool HR.out.symm, hwr2⟩
          by_cases hxl : (P.es.length : Int) ≤ x
          · have HR := Lib.hid (HE.out (HEk.out (by rw [kindP_out P x (by omega)]; omega)))
            go_wp2
            go_ret
            exact ⟨ret_bool HR.out.symm, hwr2⟩
          obtain ⟨m, rfl⟩ := Int.eq_ofNat_of_zero_le (show 0 ≤ x by omega)
          have hml : m < P.es.length := by omega
          have hml1 : (m : Int) < (P.es.length : Int) := by omega
          obtain ⟨be, oe, hsome, zse, -, x1, -⟩ := (H1.out.gr hwr2).at m hml
          subst hsome
          have HKD := Lib.hid (kindP_in P m hml)
          rw [HKD.out] at HEk HND2
          clear HKD hx0 hxl
          generalize P.es[m].k = kk at *
          by_cases hkk : kk = 1
          · have t1 := bneF hkk
            by_cases hdup : (m : Int) ∈ M ++ l.take k
            · have HR := Lib.hid (HDk.out hdup)
              have l1 := seenI_yes HM1.out HS1.out HIK.out hdup
              clear hdup hkk
              go_wp2
              go_ret
              exact ⟨ret_bool HR.out.symm, hwr2⟩
            · have l1 := seenI_no HM1.out HS1.out HIK.out hdup
              have HN3 := HND2.out hdup hkk
              rw [HTK.out] at HN3
              have HN4 := Lib.hid HN3
              have HS2 : Hid (SeenI (M ++ l.take (k + 1)) (put f1 (.int .i64 m) (.bool true))) := by
                unfold Hid
                rw [← HTK.out]
                exact HS1.out.put _
              clear hdup hkk HN3 HND2 HDk HEk HS1
              go_wp2_with (at_mapUpdate; refine wpList_put _ rfl _ _ _ 132 rfl int_key Tryd.underlying132 rfl HM1.out (by unfold maxLen; omega) _ _ _ rfl rfl (keyOf_int_mk Tryd.underlying3 HIK.out) ?_; intro w7 hm7 hg7)
              have g8 : Gr wb w7 := Gr.grownM g hg7 (by have := HSZ.out; omega)
              have q1' := (hg7.cell_far ⟨lb, 1, none⟩ q2 (fun e => by simp at e; omega)).trans q1
              go_roundw
              case rel => exact ⟨k + 1, n1 + 1, _, by go_num, by omega, by omega, g8, hm7, HS2.out, HN4.out, q1', Nat.lt_of_lt_of_le q2 hg7.size⟩
              case measure => simp [intOf]; omega
          · have t1 := bneT hkk
            have HR := Lib.hid (HE.out (HEk.out hkk))
            clear hkk
            go_wp2
            go_ret
            exact ⟨ret_bool HR.out.symm, hwr2⟩
        · have HMl : Hid (M ++ l.take k = (P.ls.take (i + 1)).flatMap (·.es)) := by unfold Hid; rw [List.take_of_length_le (by omega)]; exact HST.out
          have hnd := HNd.out
          have HEB := Lib.hid (entB_all hl0' fun j hj => hnd.2 j hj (by omega))
          have hnd1 := hnd.1
          have hs2 := HS1.out
          rw [HMl.out] at hnd1 hs2
          have HS2 := Lib.hid hs2
          have HA2 := Lib.hid (HA'.out hnd1)
          have hnl : M.length + k = ((P.ls.take (i + 1)).flatMap (·.es)).length := by rw [← HMl.out, List.take_of_length_le (by omega), List.length_append]; omega
          have HNL := Lib.hid hnl
          clear HNd hnd hnd1 hs2 hnl HS1
          have HRW := Lib.hid (fun w' (h : Gr w w') => row_any _ P l w' b n f (HU.out.gr h) HKLi.out (HM.out.gr h) HF.out HJ.out (by omega))
          have HE2 := HE.out
          have HA3 := HA2.out
          rw [HEB.out] at HE2 HA3
          have HE3 := Lib.hid HE2
          have HA4 := Lib.hid HA3
          clear HE2 HA3 HE HA2 HEB
          generalize rowB P l = rb at *
          cases rb
          · have HR := Lib.hid (HE3.out rfl)
            go_wp2_with (go_at_call 85; (with_reducible refine (HRW.out _ hwr2).mono ?_); rintro e w5 ⟨rfl, h5⟩)
            go_ret
            exact ⟨ret_bool HR.out.symm, hwr2.trans h5⟩
          · have HA5 := Lib.hid (HA4.out rfl)
            go_wp2_with (go_at_call 85; (with_reducible refine (HRW.out _ hwr2).mono ?_); rintro e w5 ⟨rfl, h5⟩)
            go_roundw
            case rel => exact ⟨i + 1, n1, f1, by go_num, by omega, by rw [← HNL.out]; omega, g.trans h5, HM1.out.gr h5, HS2.out, HA5.out⟩
            case measure => simp [intOf]; omega
    · have HR : Hid (linesB P = true) := by
        refine linesB_yes ?_ fun j hj => HA.out.2 j hj (by omega)
        have := HA.out.1
        rwa [List.take_of_length_le (by omega)] at this
      clear HA
      go_wp2
      go_ret
      exact ⟨ret_bool HR.out.symm, hwr⟩
end Go.Proofs.YtgjnlgcdpbilfaaDoor
namespace Go.Proofs.YtgjnlgcdpbilfaaDoor
open Go.ChangeShapes Go.WideShapes Go.ChangeAt Go.RowKit
set_option linter.unusedVariables false
set_option linter.unusedSimpArgs false
set_option maxRecDepth 100000 in
set_option maxHeartbeats 1000000 in
theorem long_any (v : Value) (P : Pln) (w : World) (hP : IsPln w v P) (ht : 0 ≤ P.top ∧ P.top ≤ 60) (hb : 1 ≤ P.brake ∧ P.brake ≤ 10) (hs : ∀ s ∈ P.ss, 0 ≤ s.at_.e ∧ s.at_.e < P.es.length) :
    Calls Tryd.prog 71 #[v] w fun e w' => e = .returned (.bool (longB P)) ∧ Gr w w' := by
  obtain ⟨a1, c1, a2, c2, a3, c3, a4, c4, rfl, h1, h2, h3, h4⟩ := hP
  have m1 := IsRow.len h1
  have m3 := IsRow.len h3
  unfold maxLen at m1 m3
  have H1 := Lib.hid h1
  have H3 := Lib.hid h3
  have HIN := Lib.hid hs
  have hbx := PBox.new w P (.slice a1 P.es.length c1) (.slice a2 P.js.length c2) (.slice a3 P.ss.length c3) (.slice a4 P.ls.length c4)
  have hg : Gr w (w.alloc (.cells #[.slice a1 P.es.length c1, .slice a2 P.js.length c2, .slice a3 P.ss.length c3, .slice a4 P.ls.length c4, .int .i64 P.top, .int .i64 P.brake, .int .i64 P.margin, .int .i64 P.throw, .bool P.hard] 27)) := (Gr.refl _).alloc _
  have hbd := stp_bd P.brake P.top hb.1 ht.2
  have HS := Lib.hid (fun w => planStop_any P.top P.brake ht hb w)
  have HL0 := Lib.hid (@longB_yes P)
  unfold plnV
  have HN0 : Hid (P.margin < P.top + stp P.brake P.top → longB P = false) := by
    intro h
    unfold longB; simp; omega
  generalize hst : stp P.brake P.top = st at *
  clear h1 h2 h3 h4 hst hs
  by_cases hM : P.margin < P.top + st
  · have HN := Lib.hid (HN0.out hM)
    clear HN0 HL0
    go_enter Tryd.func71, Tryd.ntmps71
    go_wp2_with fail
    have tw : IntKind.i64.wrap (P.top + st) = P.top + st := by rw [IntKind.wrap_i64]; omega
    go_quiet ((go_at_call 79; exact Calls.quiet_of_same (HS.out _)))
    go_wp2
    go_ret
    exact ⟨ret_bool HN.out.symm, hg.drewN _⟩
  have hM' : P.top + st ≤ P.margin := by omega
  clear HN0
  go_enter Tryd.func71, Tryd.ntmps71
  go_wp2_with fail
  have tw : IntKind.i64.wrap (P.top + st) = P.top + st := by rw [IntKind.wrap_i64]; omega
  go_quiet ((go_at_call 79; exact Calls.quiet_of_same (HS.out _)))
  clear tw HS
  have hbx' := hbx.drewN nq
  have hg' := hg.drewN nq
  clear hbx hg
  go_wp2_with fail
  go_loopw [22] (fun i wr => ∃ k : Nat, i = .int .i64 k ∧ k ≤ P.ss.length ∧ Gr w wr ∧ PBox wr w.heap.size P (.slice a1 P.es.length c1) (.slice a2 P.js.length c2) (.slice a3 P.ss.length c3) (.slice a4 P.ls.length c4) ∧ Hid (∀ j (hj : j < P.ss.length), j < k → kindP P P.ss[j].at_.e = 1 → P.margin ≤ lenP P P.ss[j].at_.e)) (fun i _ => P.ss.length - (intOf i).toNat)
  case atStart => exact ⟨0, rfl, Nat.zero_le _, hg', hbx', fun j hj h => by omega⟩
  case round =>
    obtain ⟨k, rfl, hk, g, hx, HA⟩ := hrel
    clear hbx' hg'
    have HB := Lib.hid hx
    obtain ⟨zb, b0, b1, b2, b3, b4, b5, b6, b7, b8⟩ := hx
    by_cases hlt : k < P.ss.length
    · obtain ⟨b, o, hsome, zs, y0, y1, y2, y3⟩ := (H3.out.gr g).at k hlt
      subst hsome
      have HSS := Lib.hid (@longB_ss P k hlt)
      have HA' : Hid ((kindP P P.ss[k].at_.e = 1 → P.margin ≤ lenP P P.ss[k].at_.e) → ∀ j (hj : j < P.ss.length), j < k + 1 → kindP P P.ss[j].at_.e = 1 → P.margin ≤ lenP P P.ss[j].at_.e) := by
        intro h j hj hjk
        by_cases e : j = k
        · subst e; exact h
        · exact HA.out j hj (by omega)
      have hk1 : (k : Int) < (P.ss.length : Int) := by omega
      have hin := HIN.out _ (List.getElem_mem hlt)
      obtain ⟨q, hq⟩ : ∃ q, q = P.ss[k] := ⟨_, rfl⟩
      rw [← hq] at y0 y1 y2 y3 HSS HA' hin
      clear hq HA
      obtain ⟨qn, ⟨qe, qx⟩, qa⟩ := q
      dsimp only at y0 y1 y2 y3 HSS HA' hin
      obtain ⟨m, rfl⟩ := Int.eq_ofNat_of_zero_le hin.1
      have hml : m < P.es.length := by omega
      have hml1 : (m : Int) < (P.es.length : Int) := by omega
      obtain ⟨be, oe, hsome, zse, x0, x1, x2⟩ := (H1.out.gr g).at m hml
      subst hsome
      rw [kindP_in P m hml, lenP_in P m hml] at HSS HA'
      clear hin
      obtain ⟨q, hq⟩ : ∃ q, q = P.es[m] := ⟨_, rfl⟩
      rw [← hq] at x0 x1 x2 HSS HA'
      clear hq
      obtain ⟨en, kk, ll⟩ := q
      dsimp only at x0 x1 x2 HSS HA'
      have zz1 : w.heap.size < wr.heap.size + 1 := by omega
      have zz2 : be < wr.heap.size + 1 := by omega
      by_cases hkk : kk = 1
      · have t1 := beqT hkk
        by_cases hll : ll < P.margin
        · have HN := Lib.hid (HSS.out hkk hll)
          clear hkk
          go_wp2
          go_ret
          exact ⟨ret_bool HN.out.symm, (g.alloc _).alloc _⟩
        · have HA2 := Lib.hid (HA'.out fun _ => by omega)
          clear hkk
          go_wp2
          go_roundw
          case rel => exact ⟨k + 1, by go_num, by omega, (g.alloc _).alloc _, HB.out.gr (((Gr.refl _).alloc _).alloc _), HA2.out⟩
          case measure => simp [intOf]; omega
      · have t1 := beqF hkk
        have HA2 := Lib.hid (HA'.out fun h => absurd h hkk)
        clear hkk
        go_wp2
        go_roundw
        case rel => exact ⟨k + 1, by go_num, by omega, (g.alloc _).alloc _, HB.out.gr (((Gr.refl _).alloc _).alloc _), HA2.out⟩
        case measure => simp [intOf]; omega
    · have HL1 : Hid ((∀ k (hk : k < P.es.length), P.es[k].k ≠ 4 → P.top ≤ P.es[k].l) → longB P = true) := fun h => HL0.out hM' (fun j hj => HA.out j hj (by omega)) h
      clear HA HL0
      go_wp2_with fail
      go_loopw [47] (fun i wy => ∃ k : Nat, i = .int .i64 k ∧ k ≤ P.es.length ∧ Gr w wy ∧ PBox wy w.heap.size P (.slice a1 P.es.length c1) (.slice a2 P.js.length c2) (.slice a3 P.ss.length c3) (.slice a4 P.ls.length c4) ∧ Hid (∀ j (hj : j < P.es.length), j < k → P.es[j].k ≠ 4 → P.top ≤ P.es[j].l)) (fun i _ => P.es.length - (intOf i).toNat)
      case atStart => exact ⟨0, rfl, Nat.zero_le _, g, HB.out, fun j hj h => by omega⟩
      case round =>
        clear HB b0 b1 b2 b3 b4 b5 b6 b7 b8 zb g hlt hk
        obtain ⟨k2, rfl, hk, g, hx, HA⟩ := hrel
        have HB := Lib.hid hx
        obtain ⟨zb, b0, b1, b2, b3, b4, b5, b6, b7, b8⟩ := hx
        by_cases hlt : k2 < P.es.length
        · obtain ⟨b, o, hsome, zs, y0, y1, y2⟩ := (H1.out.gr g).at k2 hlt
          subst hsome
          have HSS := Lib.hid (@longB_es P k2 hlt)
          have HA' : Hid ((P.es[k2].k ≠ 4 → P.top ≤ P.es[k2].l) → ∀ j (hj : j < P.es.length), j < k2 + 1 → P.es[j].k ≠ 4 → P.top ≤ P.es[j].l) := by
            intro h j hj hjk
            by_cases e : j = k2
            · subst e; exact h
            · exact HA.out j hj (by omega)
          have hk1 : (k2 : Int) < (P.es.length : Int) := by omega
          clear HA HL1
          generalize P.es[k2] = q at *
          obtain ⟨qn, qk, ql⟩ := q
          dsimp only at HA' HSS y0 y1 y2
          by_cases hkk : qk = 4
          · have t1 := bneF hkk
            have HA2 := Lib.hid (HA'.out fun h => absurd hkk h)
            clear hkk
            go_wp2
            go_roundw
            case rel => exact ⟨k2 + 1, by go_num, by omega, g.alloc _, HB.out.gr ((Gr.refl _).alloc _), HA2.out⟩
            case measure => simp [intOf]; omega
          · have t1 := bneT hkk
            by_cases hll : ql < P.top
            · have HN := Lib.hid (HSS.out hkk hll)
              clear hkk
              go_wp2
              go_ret
              exact ⟨ret_bool HN.out.symm, g.alloc _⟩
            · have HA2 := Lib.hid (HA'.out fun _ => by omega)
              clear hkk
              go_wp2
              go_roundw
              case rel => exact ⟨k2 + 1, by go_num, by omega, g.alloc _, HB.out.gr ((Gr.refl _).alloc _), HA2.out⟩
              case measure => simp [intOf]; omega
        · have HN := Lib.hid (HL1.out fun j hj => HA.out j hj (by omega))
          go_wp2
          go_ret
          exact ⟨ret_bool HN.out.symm, g⟩
end Go.Proofs.YtgjnlgcdpbilfaaDoor
