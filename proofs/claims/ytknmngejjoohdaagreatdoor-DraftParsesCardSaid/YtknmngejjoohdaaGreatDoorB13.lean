/- Nam2: word.Name.
Pla1: plan.numbers. Printed by wip/gen_pla1.py.
Pla5: plan.row. -/
import Derived.Test.YtknmngejjoohdaaGreatDoorRows
import Derived.Test.YtknmngejjoohdaaGreatDoorB2
import Derived.Test.YtknmngejjoohdaaGreatDoorB12
import Derived.Deep.LoopGhost
import Derived.Test.YtknmngejjoohdaaGreatDoorB4
import Derived.WalkMore
import Derived.Test.YtknmngejjoohdaaGreatDoorB10
import Derived.Test.YtknmngejjoohdaaGreatDoorB3
namespace Go.Proofs.YtknmngejjoohdaaGreatDoor
open Go.ChangeShapes Go.WideShapes Go.ChangeAt Go.RowKit
set_option linter.unusedVariables false
set_option linter.unusedSimpArgs false

theorem letter_any (c : Int) (w : World) : Calls Tryz.prog 188 #[.int .u8 c] w fun e w' => e = .returned (.bool (letB c)) ∧ w' = w := by
  go_enter Tryz.func188, Tryz.ntmps188
  go_wp2
  all_goals go_ret
  all_goals (refine ⟨ret_bool ?_, rfl⟩; unfold letB; by_cases a1 : 97 ≤ c <;> by_cases a2 : c ≤ 122 <;> by_cases a3 : 65 ≤ c <;> by_cases a4 : c ≤ 90 <;> simp [a1, a2, a3, a4] <;> omega)
theorem nmB_empty {s : ByteArray} (h : s.size = 0) : nmB s = false := by unfold nmB; simp [h]
theorem nmB_long {s : ByteArray} (h : 8 < s.size) : nmB s = false := by unfold nmB; rw [decide_eq_false (by omega : ¬ s.size ≤ 8)]; simp
theorem letB_okc0 (c : Int) : okc 0 c = letB c := by unfold okc; simp
set_option maxRecDepth 100000 in
set_option maxHeartbeats 400000 in
theorem name_any (s : ByteArray) (hs : s.size ≤ maxLen) (w : World) :
    Calls Tryz.prog 132 #[.string s] w fun e w' => e = .returned (.bool (nmB s)) ∧ w' = w := by
  unfold maxLen at hs
  by_cases h0 : s.size = 0
  · have hz : s.toList.isEmpty = true := by rw [List.isEmpty_iff]; exact toList_nil.2 h0
    have HB := Lib.hid (nmB_empty h0)
    clear h0
    go_enter Tryz.func132, Tryz.ntmps132
    go_wp2
    go_ret
    exact ⟨ret_bool HB.out.symm, rfl⟩
  have hz : s.toList.isEmpty = false := by
    cases hq : s.toList.isEmpty with
    | false => rfl
    | true => exact absurd (toList_nil.1 (List.isEmpty_iff.1 hq)) h0
  by_cases h8 : 8 < s.size
  · have HB := Lib.hid (nmB_long h8)
    have h8' : (8 : Int) < (s.size : Int) := by omega
    clear h0
    go_enter Tryz.func132, Tryz.ntmps132
    go_wp2
    go_ret
    exact ⟨ret_bool HB.out.symm, rfl⟩
  have h0' : 0 < s.size := by omega
  have h0i : (0 : Int) < (s.size : Int) := by omega
  have h8i : ¬ (8 : Int) < (s.size : Int) := by omega
  have HG := Lib.hid (bt_get s 0 h0')
  cases hl : letB (bt s 0) with
  | false =>
    have HB := Lib.hid (nmB_bad s 0 h0' (by rw [letB_okc0]; exact hl))
    rw [HG.out] at hl
    have HLt := Lib.hid hl
    clear hl HG h0
    go_enter Tryz.func132, Tryz.ntmps132
    go_wp2_with fail
    refine (letter_any _ _).mono ?_
    rintro e w1 ⟨rfl, rfl⟩
    rw [HLt.out]
    go_wp2_with fail
    go_ret
    exact ⟨ret_bool HB.out.symm, rfl⟩
  | true =>
    have HO : Hid (okc 0 (bt s 0) = true) := by unfold Hid; rw [letB_okc0]; exact hl
    have hl2 := hl
    rw [HG.out] at hl2
    have HLt := Lib.hid hl2
    clear hl hl2 HG h0
    go_enter Tryz.func132, Tryz.ntmps132
    go_wp2_with fail
    refine (letter_any _ _).mono ?_
    rintro e w1 ⟨rfl, rfl⟩
    rw [HLt.out]
    go_wp2_with fail
    go_loopg [3] s.size (fun gh x3 wx => ∃ k : Nat, k + gh = s.size + 1 ∧ x3 = .int .i64 k ∧ 1 ≤ k ∧ Hid (∀ j, j < k → j < s.size → okc j (bt s j) = true) ∧ w1 = wx)
    case atStart => exact ⟨1, by omega, rfl, by omega, fun j hj h => by (obtain rfl : j = 0 := by omega); exact HO.out, rfl⟩
    case round =>
      obtain ⟨k, hkg, rfl, hk1, HA, rfl⟩ := hrel
      have HKG := Lib.hid hkg
      clear hkg
      by_cases hlt : k < s.size
      · have HK := Lib.hid (bt_get s k hlt)
        have ki : (k : Int) < (s.size : Int) := by omega
        cases hlk : letB (bt s k) with
        | true =>
          have HN : Hid (∀ j, j < k + 1 → j < s.size → okc j (bt s j) = true) := by
            intro j hj h
            by_cases e : j = k
            · subst e; unfold okc; rw [hlk]; rfl
            · exact HA.out j (by omega) h
          rw [HK.out] at hlk
          have HL2 := Lib.hid hlk
          clear hlk HA HK
          go_wp2_with fail
          refine (letter_any _ _).mono ?_
          rintro e w2 ⟨rfl, rfl⟩
          rw [HL2.out]
          go_wp2_with fail
          go_roundg (s.size - k)
          case measure => have := HKG.out; omega
          case rel => exact ⟨k + 1, by have := HKG.out; omega, by go_num, by omega, HN.out, rfl⟩
        | false =>
          by_cases hd : 48 ≤ bt s k ∧ bt s k ≤ 57
          · have HN : Hid (∀ j, j < k + 1 → j < s.size → okc j (bt s j) = true) := by
              intro j hj h
              by_cases e : j = k
              · subst e; exact okc_mk _ _ (.inr (.inr ⟨by omega, hd⟩))
              · exact HA.out j (by omega) h
            rw [HK.out] at hlk hd
            have HL2 := Lib.hid hlk
            obtain ⟨hd1, hd2⟩ := hd
            clear hlk HA HK
            go_wp2_with fail
            refine (letter_any _ _).mono ?_
            rintro e w2 ⟨rfl, rfl⟩
            rw [HL2.out]
            go_wp2_with fail
            go_roundg (s.size - k)
            case measure => have := HKG.out; omega
            case rel => exact ⟨k + 1, by have := HKG.out; omega, by go_num, by omega, HN.out, rfl⟩
          · have HB := Lib.hid (nmB_bad s k hlt (by
              unfold okc
              rw [hlk, decide_eq_true (by omega : k ≠ 0)]
              unfold digB
              simp; omega))
            rw [HK.out] at hlk hd
            have HL2 := Lib.hid hlk
            have hd' : ¬ 48 ≤ (s[k].toNat : Int) ∨ ¬ (s[k].toNat : Int) ≤ 57 := by omega
            clear hlk HA HK hd
            rcases hd' with hd' | hd'
            all_goals
              go_wp2_with fail
              refine (letter_any _ _).mono ?_
              rintro e w2 ⟨rfl, rfl⟩
              rw [HL2.out]
              go_wp2_with fail
              all_goals go_ret
              all_goals exact ⟨ret_bool HB.out.symm, rfl⟩
      · have HB := Lib.hid (nmB_good s fun i hi => HA.out i (by omega) hi)
        clear HA
        go_wp2
        go_ret
        refine ⟨ret_bool ?_, rfl⟩
        rw [HB.out]
        have a1 : 1 ≤ s.size := by omega
        have a2 : s.size ≤ 8 := by omega
        simp [a1, a2]
end Go.Proofs.YtknmngejjoohdaaGreatDoor
namespace Go.Proofs.YtknmngejjoohdaaGreatDoor
open Go.ChangeShapes Go.WideShapes Go.ChangeAt Go.RowKit
set_option linter.unusedVariables false
set_option linter.unusedSimpArgs false
theorem nums_cases (P : Pln) : (numsB P = true ∧ 1 ≤ P.top ∧ P.top ≤ 60 ∧ 1 ≤ P.brake ∧ P.brake ≤ 10 ∧ 1 ≤ P.margin ∧ P.margin ≤ 4000 ∧ 1 ≤ P.throw ∧ P.throw ≤ 20 ∧ 0 < P.es.length) ∨
    (numsB P = false ∧ (P.top < 1 ∨ (1 ≤ P.top ∧ 60 < P.top) ∨ (1 ≤ P.top ∧ P.top ≤ 60 ∧ P.brake < 1) ∨ (1 ≤ P.top ∧ P.top ≤ 60 ∧ 1 ≤ P.brake ∧ 10 < P.brake) ∨ (1 ≤ P.top ∧ P.top ≤ 60 ∧ 1 ≤ P.brake ∧ P.brake ≤ 10 ∧ P.margin < 1) ∨
      (1 ≤ P.top ∧ P.top ≤ 60 ∧ 1 ≤ P.brake ∧ P.brake ≤ 10 ∧ 1 ≤ P.margin ∧ 4000 < P.margin) ∨ (1 ≤ P.top ∧ P.top ≤ 60 ∧ 1 ≤ P.brake ∧ P.brake ≤ 10 ∧ 1 ≤ P.margin ∧ P.margin ≤ 4000 ∧ P.throw < 1) ∨
      (1 ≤ P.top ∧ P.top ≤ 60 ∧ 1 ≤ P.brake ∧ P.brake ≤ 10 ∧ 1 ≤ P.margin ∧ P.margin ≤ 4000 ∧ 1 ≤ P.throw ∧ 20 < P.throw) ∨ (1 ≤ P.top ∧ P.top ≤ 60 ∧ 1 ≤ P.brake ∧ P.brake ≤ 10 ∧ 1 ≤ P.margin ∧ P.margin ≤ 4000 ∧ 1 ≤ P.throw ∧ P.throw ≤ 20 ∧ ((P.es.length : Int) == 0) = true))) := by
  have hb : numsB P = decide ((1 ≤ P.top ∧ P.top ≤ 60) ∧ (1 ≤ P.brake ∧ P.brake ≤ 10) ∧ (1 ≤ P.margin ∧ P.margin ≤ 4000) ∧ (1 ≤ P.throw ∧ P.throw ≤ 20) ∧ 0 < P.es.length) := by
    rw [Bool.eq_iff_iff]
    unfold numsB inB
    simp only [Bool.and_eq_true, decide_eq_true_eq, Bool.not_eq_true', decide_eq_false_iff_not]
    omega
  have e0 : ((P.es.length : Int) == 0) = true ↔ P.es.length = 0 := by rw [beq_iff_eq]; omega
  rw [hb, e0]
  rcases Int.lt_or_le P.top (1) with h1 | h1
  · exact .inr ⟨decide_eq_false (by omega), .inl h1⟩
  rcases Int.lt_or_le (60) P.top with h2 | h2
  · exact .inr ⟨decide_eq_false (by omega), .inr (.inl (⟨h1, h2⟩))⟩
  rcases Int.lt_or_le P.brake (1) with h3 | h3
  · exact .inr ⟨decide_eq_false (by omega), .inr (.inr (.inl (⟨h1, h2, h3⟩)))⟩
  rcases Int.lt_or_le (10) P.brake with h4 | h4
  · exact .inr ⟨decide_eq_false (by omega), .inr (.inr (.inr (.inl (⟨h1, h2, h3, h4⟩))))⟩
  rcases Int.lt_or_le P.margin (1) with h5 | h5
  · exact .inr ⟨decide_eq_false (by omega), .inr (.inr (.inr (.inr (.inl (⟨h1, h2, h3, h4, h5⟩)))))⟩
  rcases Int.lt_or_le (4000) P.margin with h6 | h6
  · exact .inr ⟨decide_eq_false (by omega), .inr (.inr (.inr (.inr (.inr (.inl (⟨h1, h2, h3, h4, h5, h6⟩))))))⟩
  rcases Int.lt_or_le P.throw (1) with h7 | h7
  · exact .inr ⟨decide_eq_false (by omega), .inr (.inr (.inr (.inr (.inr (.inr (.inl (⟨h1, h2, h3, h4, h5, h6, h7⟩)))))))⟩
  rcases Int.lt_or_le (20) P.throw with h8 | h8
  · exact .inr ⟨decide_eq_false (by omega), .inr (.inr (.inr (.inr (.inr (.inr (.inr (.inl (⟨h1, h2, h3, h4, h5, h6, h7, h8⟩))))))))⟩
  rcases Nat.eq_zero_or_pos P.es.length with h9 | h9
  · exact .inr ⟨decide_eq_false (by omega), .inr (.inr (.inr (.inr (.inr (.inr (.inr (.inr ⟨h1, h2, h3, h4, h5, h6, h7, h8, h9⟩)))))))⟩
  · exact .inl ⟨decide_eq_true (by omega), h1, h2, h3, h4, h5, h6, h7, h8, h9⟩
set_option maxRecDepth 100000 in
set_option maxHeartbeats 1000000 in
theorem numbers_any (v : Value) (P : Pln) (w : World) (hP : IsPln w v P) (hk : PlnOk P) :
    Calls Tryz.prog 78 #[v] w fun e w' => e = .returned (.bool (argsB P)) ∧ Gr w w' := by
  obtain ⟨a1, c1, a2, c2, a3, c3, a4, c4, rfl, h1, h2, h3, h4⟩ := hP
  have m1 := IsRow.len h1
  have m3 := IsRow.len h3
  have m4 : P.ls.length ≤ maxLen := by obtain ⟨S, hS, -⟩ := h4; exact IsRow.len hS
  unfold maxLen at m1 m3 m4
  have H1 := Lib.hid h1
  have H3 := Lib.hid h3
  have H4 := Lib.hid h4
  have HB := Lib.hid (bxW_box w P (.slice a1 P.es.length c1) (.slice a2 P.js.length c2) (.slice a3 P.ss.length c3) (.slice a4 P.ls.length c4))
  have hw0 := bxW_gr w P (.slice a1 P.es.length c1) (.slice a2 P.js.length c2) (.slice a3 P.ss.length c3) (.slice a4 P.ls.length c4)
  obtain ⟨wb, hwb⟩ : ∃ wb, wb = bxW w P (.slice a1 P.es.length c1) (.slice a2 P.js.length c2) (.slice a3 P.ss.length c3) (.slice a4 P.ls.length c4) := ⟨_, rfl⟩
  rw [← hwb] at HB hw0
  unfold plnV
  have HWB := Lib.hid hwb
  have HK := Lib.hid hk
  have HNO := Lib.hid (@argsB_num P)
  clear h1 h2 h3 h4 hwb hk
  have HYES := Lib.hid (@argsB_yes P)
  rcases nums_cases P with ⟨hT, l1, l2, l3, l4, l5, l6, l7, l8, l9⟩ | ⟨hF, hc⟩
  rotate_left
  · have HR := Lib.hid (HNO.out hF)
    clear hF
    rcases hc with l1 | ⟨l1, l2⟩ | ⟨l1, l2, l3⟩ | ⟨l1, l2, l3, l4⟩ | ⟨l1, l2, l3, l4, l5⟩ | ⟨l1, l2, l3, l4, l5, l6⟩ | ⟨l1, l2, l3, l4, l5, l6, l7⟩ | ⟨l1, l2, l3, l4, l5, l6, l7, l8⟩ | ⟨l1, l2, l3, l4, l5, l6, l7, l8, l9⟩
    all_goals
      go_enter Tryz.func78, Tryz.ntmps78
      go_wp2_with fail
      go_step3
      go_wp2
      try rw [Exit.noGoto_ret]
      go_ret
      exact ⟨ret_bool HR.out.symm, (Gr.refl _).alloc _⟩
  have HT := Lib.hid hT
  have t1 : ((P.es.length : Int) == 0) = false := beqF (by omega)
  clear hT HNO
  go_enter Tryz.func78, Tryz.ntmps78
  go_wp2_with fail
  go_step3
  go_wp2_with fail
  rw [show (w.alloc (.cells #[.slice a1 P.es.length c1, .slice a2 P.js.length c2, .slice a3 P.ss.length c3, .slice a4 P.ls.length c4, .int .i64 P.top, .int .i64 P.brake, .int .i64 P.margin, .int .i64 P.throw, .bool P.hard] 28)) = wb from HWB.out.symm]
  clear t1 l1 l2 l3 l4 l5 l6 l7 l8 l9
  have hbo := HB.out
  obtain ⟨zb, b0, b1, b2, b3, b4, b5, b6, b7, b8⟩ := hbo
  go_step3
  go_wp2_with fail
  clear zb b0 b1 b2 b3 b4 b5 b6 b7 b8
  go_loopw [56] (fun i wr => ∃ k : Nat, i = .int .i64 k ∧ k ≤ P.es.length ∧ Gr wb wr ∧ Hid (∀ j (hj : j < P.es.length), j < k → eleB P.es[j] = true)) (fun i _ => P.es.length - (intOf i).toNat)
  case atStart => exact ⟨0, rfl, Nat.zero_le _, Gr.refl _, fun j hj h => by omega⟩
  case round =>
    obtain ⟨k, rfl, hk, g, HA⟩ := hrel
    have hbo := HB.out.gr g
    obtain ⟨zb, b0, b1, b2, b3, b4, b5, b6, b7, b8⟩ := hbo
    by_cases hlt : k < P.es.length
    · obtain ⟨b, o, hsome, zs, y0, y1, y2⟩ := (H1.out.gr (hw0.trans g)).at k hlt
      subst hsome
      have HBAD := Lib.hid (@argsB_es P k hlt)
      have HA' : Hid (eleB P.es[k] = true → ∀ j (hj : j < P.es.length), j < k + 1 → eleB P.es[j] = true) := by
        intro h j hj hjk
        by_cases e : j = k
        · subst e; exact h
        · exact HA.out j hj (by omega)
      have HZN := Lib.hid (HK.out.es _ (List.getElem_mem hlt)).2.2
      have hk1 : (k : Int) < (P.es.length : Int) := by omega
      clear HA
      have HE : Hid (eleB P.es[k] = (nmB P.es[k].n && !decide (endsK P.es[k].k = 0) && (if P.es[k].k = 4 then decide (P.es[k].l = 0) else inB P.es[k].l 1 4000))) := rfl
      generalize P.es[k] = q at *
      obtain ⟨qn, qk, ql⟩ := q
      dsimp only at HE y0 y1 y2 HZN
      have LQ : (Instr.loadAt 80 (.pointer (some ⟨b, o + k * 3, none⟩))).run Tryz.prog wr = .ok (.agg #[.string qn, .int .i64 qk, .int .i64 ql]) wr :=
        run_loadAt_mid wr b (o + k * 3) 80 [.string qn, .int .i64 qk, .int .i64 ql] _ (fun j v h => by
          match j, h with
          | 0, h => cases h; exact y0
          | 1, h => cases h; exact y1
          | 2, h => cases h; exact y2) Tryz.underlying80 rfl (by kernel_rfl)
      have HNM := Lib.hid (fun w => name_any qn HZN.out w)
      have HEN := Lib.hid (fun w => ends_any qk w)
      generalize nmB qn = nb at HE HNM
      generalize endsK qk = en at HE HEN
      cases nb
      · have HR := Lib.hid (HBAD.out (by rw [HE.out]; rfl))
        (go_wp2_with (first | (go_at_call 132; (with_reducible refine (HNM.out _).mono ?_); rintro e w' ⟨rfl, hq⟩; obtain rfl := hq.symm) | (go_at_call 138; (with_reducible refine (HEN.out _).mono ?_); rintro e w' ⟨rfl, hq⟩; obtain rfl := hq.symm)); (try rw [Exit.noGoto_ret]); go_ret; exact ⟨ret_bool HR.out.symm, (hw0.trans g).alloc _⟩)
      by_cases hen : en = 0
      · have HR := Lib.hid (HBAD.out (by rw [HE.out, hen]; rfl))
        have t1 : (en == 0) = true := by simpa using hen
        clear hen
        (go_wp2_with (first | (go_at_call 132; (with_reducible refine (HNM.out _).mono ?_); rintro e w' ⟨rfl, hq⟩; obtain rfl := hq.symm) | (go_at_call 138; (with_reducible refine (HEN.out _).mono ?_); rintro e w' ⟨rfl, hq⟩; obtain rfl := hq.symm)); (try rw [Exit.noGoto_ret]); go_ret; exact ⟨ret_bool HR.out.symm, (hw0.trans g).alloc _⟩)
      have t1 : (en == 0) = false := by simpa using hen
      by_cases hqk : qk = 4
      · have t2 : (qk == 4) = true := by simpa using hqk
        have t3 : (qk != 4) = false := by simpa using hqk
        by_cases hql : ql = 0
        · have HG := Lib.hid (HA'.out (by rw [HE.out, if_pos hqk, hql]; simp [hen]))
          have t4 : (ql != 0) = false := by simpa using hql
          clear hen hqk hql
          (go_wp2_with (first | (go_at_call 132; (with_reducible refine (HNM.out _).mono ?_); rintro e w' ⟨rfl, hq⟩; obtain rfl := hq.symm) | (go_at_call 138; (with_reducible refine (HEN.out _).mono ?_); rintro e w' ⟨rfl, hq⟩; obtain rfl := hq.symm)); go_roundw; (case rel => exact ⟨k + 1, by go_num, by omega, g.alloc _, HG.out⟩); (case measure => simp [intOf]; omega))
        · have HR := Lib.hid (HBAD.out (by rw [HE.out, if_pos hqk]; simp [hql]))
          have t4 : (ql != 0) = true := by simpa using hql
          clear hen hqk hql
          (go_wp2_with (first | (go_at_call 132; (with_reducible refine (HNM.out _).mono ?_); rintro e w' ⟨rfl, hq⟩; obtain rfl := hq.symm) | (go_at_call 138; (with_reducible refine (HEN.out _).mono ?_); rintro e w' ⟨rfl, hq⟩; obtain rfl := hq.symm)); (try rw [Exit.noGoto_ret]); go_ret; exact ⟨ret_bool HR.out.symm, (hw0.trans g).alloc _⟩)
      · have t2 : (qk == 4) = false := by simpa using hqk
        have t3 : (qk != 4) = true := by simpa using hqk
        by_cases hq1 : ql < 1
        · have HR := Lib.hid (HBAD.out (by rw [HE.out, if_neg hqk]; unfold inB; rw [decide_eq_false (by omega : ¬ 1 ≤ ql)]; simp))
          clear hen hqk
          (go_wp2_with (first | (go_at_call 132; (with_reducible refine (HNM.out _).mono ?_); rintro e w' ⟨rfl, hq⟩; obtain rfl := hq.symm) | (go_at_call 138; (with_reducible refine (HEN.out _).mono ?_); rintro e w' ⟨rfl, hq⟩; obtain rfl := hq.symm)); (try rw [Exit.noGoto_ret]); go_ret; exact ⟨ret_bool HR.out.symm, (hw0.trans g).alloc _⟩)
        by_cases hq2 : 4000 < ql
        · have HR := Lib.hid (HBAD.out (by rw [HE.out, if_neg hqk]; unfold inB; rw [decide_eq_false (by omega : ¬ ql ≤ 4000)]; simp))
          clear hen hqk
          (go_wp2_with (first | (go_at_call 132; (with_reducible refine (HNM.out _).mono ?_); rintro e w' ⟨rfl, hq⟩; obtain rfl := hq.symm) | (go_at_call 138; (with_reducible refine (HEN.out _).mono ?_); rintro e w' ⟨rfl, hq⟩; obtain rfl := hq.symm)); (try rw [Exit.noGoto_ret]); go_ret; exact ⟨ret_bool HR.out.symm, (hw0.trans g).alloc _⟩)
        · have HG := Lib.hid (HA'.out (by rw [HE.out, if_neg hqk]; unfold inB; rw [decide_eq_true (by omega : 1 ≤ ql), decide_eq_true (by omega : ql ≤ 4000)]; simp [hen]))
          clear hen hqk
          (go_wp2_with (first | (go_at_call 132; (with_reducible refine (HNM.out _).mono ?_); rintro e w' ⟨rfl, hq⟩; obtain rfl := hq.symm) | (go_at_call 138; (with_reducible refine (HEN.out _).mono ?_); rintro e w' ⟨rfl, hq⟩; obtain rfl := hq.symm)); go_roundw; (case rel => exact ⟨k + 1, by go_num, by omega, g.alloc _, HG.out⟩); (case measure => simp [intOf]; omega))
    · have HY2 : Hid ((∀ k (hk : k < P.ss.length), nmB P.ss[k].n = true) → (∀ k (hk : k < P.ls.length), nmB P.ls[k].n = true) → argsB P = true) := fun h2 h3 => HYES.out HT.out (fun j hj => HA.out j hj (by omega)) h2 h3
      clear HA HYES HT
      go_wp2_with fail
      clear zb b0 b1 b2 b3 b4 b5 b6 b7 b8 hlt hk
      have HB1 := Lib.hid (HB.out.gr g)
      have hw1 := hw0.trans g
      obtain ⟨wa, hwa⟩ : ∃ wa, wa = wr := ⟨_, rfl⟩
      subst hwa
      clear g
      go_loopw [91] (fun i wr => ∃ k : Nat, i = .int .i64 k ∧ k ≤ P.ss.length ∧ Gr wa wr ∧ Hid (∀ j (hj : j < P.ss.length), j < k → nmB P.ss[j].n = true)) (fun i _ => P.ss.length - (intOf i).toNat)
      case atStart => exact ⟨0, rfl, Nat.zero_le _, Gr.refl _, fun j hj h => by omega⟩
      case round =>
        obtain ⟨k, rfl, hk, g, HA⟩ := hrel
        have hbo := HB1.out.gr g
        obtain ⟨zb, b0, b1, b2, b3, b4, b5, b6, b7, b8⟩ := hbo
        by_cases hlt : k < P.ss.length
        · obtain ⟨b, o, hsome, zs, y0, y1, y2, y3⟩ := (H3.out.gr (hw1.trans g)).at k hlt
          subst hsome
          have HBAD := Lib.hid (@argsB_ss P k hlt)
          have HA' : Hid (nmB P.ss[k].n = true → ∀ j (hj : j < P.ss.length), j < k + 1 → nmB P.ss[j].n = true) := by
            intro h j hj hjk
            by_cases e : j = k
            · subst e; exact h
            · exact HA.out j hj (by omega)
          have HZN := Lib.hid (HK.out.ss _ (List.getElem_mem hlt)).2.2
          have hk1 : (k : Int) < (P.ss.length : Int) := by omega
          clear HA
          obtain ⟨q, hq⟩ : ∃ q, q = P.ss[k] := ⟨_, rfl⟩
          rw [← hq] at y0 y1 y2 y3 HBAD HA' HZN
          clear hq
          obtain ⟨qn, ⟨qe, qx⟩, qa⟩ := q
          dsimp only at y0 y1 y2 y3 HBAD HA' HZN
          have HNM := Lib.hid (fun w => name_any qn HZN.out w)
          generalize nmB qn = nb at *
          cases nb
          · have HR := Lib.hid (HBAD.out rfl)
            go_wp2_with (go_at_call 132; (with_reducible refine (HNM.out _).mono ?_); rintro e w' ⟨rfl, hq⟩; obtain rfl := hq.symm)
            try rw [Exit.noGoto_ret]
            go_ret
            exact ⟨ret_bool HR.out.symm, (hw1.trans g).alloc _⟩
          · have HG := Lib.hid (HA'.out rfl)
            go_wp2_with (go_at_call 132; (with_reducible refine (HNM.out _).mono ?_); rintro e w' ⟨rfl, hq⟩; obtain rfl := hq.symm)
            go_roundw
            case rel => exact ⟨k + 1, by go_num, by omega, g.alloc _, HG.out⟩
            case measure => simp [intOf]; omega
        · have HY3 : Hid ((∀ k (hk : k < P.ls.length), nmB P.ls[k].n = true) → argsB P = true) := fun h3 => HY2.out (fun j hj => HA.out j hj (by omega)) h3
          clear HA HY2
          go_wp2_with fail
          clear zb b0 b1 b2 b3 b4 b5 b6 b7 b8 hlt hk
          go_loopw [103] (fun i wr => ∃ k : Nat, i = .int .i64 k ∧ k ≤ P.ls.length ∧ Gr wa wr ∧ Hid (∀ j (hj : j < P.ls.length), j < k → nmB P.ls[j].n = true)) (fun i _ => P.ls.length - (intOf i).toNat)
          case atStart => exact ⟨0, rfl, Nat.zero_le _, g, fun j hj h => by omega⟩
          case round =>
            obtain ⟨k, rfl, hk, g, HA⟩ := hrel
            have hbo := HB1.out.gr g
            obtain ⟨zb, b0, b1, b2, b3, b4, b5, b6, b7, b8⟩ := hbo
            by_cases hlt : k < P.ls.length
            · obtain ⟨b, o, u, hsome, zs, y0, y1, hu⟩ := (H4.out.gr (hw1.trans g)).at k hlt
              subst hsome
              obtain ⟨au, cu, rfl, -, -⟩ := hu
              have HBAD := Lib.hid (@argsB_ls P k hlt)
              have HA' : Hid (nmB P.ls[k].n = true → ∀ j (hj : j < P.ls.length), j < k + 1 → nmB P.ls[j].n = true) := by
                intro h j hj hjk
                by_cases e : j = k
                · subst e; exact h
                · exact HA.out j hj (by omega)
              have HZN := Lib.hid (HK.out.ls _ (List.getElem_mem hlt)).1
              have hk1 : (k : Int) < (P.ls.length : Int) := by omega
              clear HA
              generalize P.ls[k].n = qn at *
              have HNM := Lib.hid (fun w => name_any qn HZN.out w)
              generalize nmB qn = nb at *
              cases nb
              · have HR := Lib.hid (HBAD.out rfl)
                go_wp2_with (go_at_call 132; (with_reducible refine (HNM.out _).mono ?_); rintro e w' ⟨rfl, hq⟩; obtain rfl := hq.symm)
                try rw [Exit.noGoto_ret]
                go_ret
                exact ⟨ret_bool HR.out.symm, (hw1.trans g).alloc _⟩
              · have HG := Lib.hid (HA'.out rfl)
                go_wp2_with (go_at_call 132; (with_reducible refine (HNM.out _).mono ?_); rintro e w' ⟨rfl, hq⟩; obtain rfl := hq.symm)
                go_roundw
                case rel => exact ⟨k + 1, by go_num, by omega, g.alloc _, HG.out⟩
                case measure => simp [intOf]; omega
            · have HY := Lib.hid (HY3.out fun j hj => HA.out j hj (by omega))
              clear HA
              go_wp2
              try rw [Exit.noGoto_ret]
              go_ret
              exact ⟨ret_bool HY.out.symm, hw1.trans g⟩
end Go.Proofs.YtknmngejjoohdaaGreatDoor
namespace Go.Proofs.YtknmngejjoohdaaGreatDoor
open Go.ChangeShapes Go.WideShapes Go.ChangeAt Go.RowKit Go.Maps
set_option linter.unusedVariables false
set_option linter.unusedSimpArgs false
theorem rowB_few {P : Pln} {L : List Int} (h : L.length < 2) : rowB P L = true := by
  match L, h with
  | [], _ => rfl
  | [x], _ => rfl
set_option maxRecDepth 100000 in
set_option maxHeartbeats 1000000 in
theorem row_any (u : Value) (P : Pln) (L : List Int) (w : World) (b0 n : Nat) (f : Value → Option Value) (hu : IsVals w u (L.map (Value.int .i64))) (hL : ∀ x ∈ L, I64 x) (hm : MapIs Tryz.prog 67 w b0 n f) (hf : FnL P.js f) (hj : ∀ x ∈ portsL P.js, hasP P x = true) (hn : L.length ≤ 1000000) :
    Calls Tryz.prog 140 #[u, .map (some b0)] w fun e w' => e = .returned (.bool (rowB P L)) ∧ Gr w w' := by
  have hu' := hu
  obtain ⟨av, cv, rfl, -, -⟩ := hu'
  simp only [List.length_map] at hu ⊢
  have HU := Lib.hid hu
  have HM := Lib.hid hm
  have HF := Lib.hid hf
  have HL := Lib.hid hL
  have HJ := Lib.hid (fun x y => @next_bd P hj x y)
  clear hu hm hf hL hj
  by_cases h2 : L.length < 2
  · have HR := Lib.hid (rowB_few (P := P) h2)
    go_enter Tryz.func140, Tryz.ntmps140
    go_wp2
    go_ret
    exact ⟨ret_bool HR.out.symm, Gr.refl _⟩
  have h2' : 2 ≤ L.length := by omega
  have HRW := Lib.hid (rowB_two (P := P) h2')
  obtain ⟨b, o, hsome, zs, y0⟩ := ints_at HU.out 0 (by omega)
  obtain ⟨b', o', hsome', zs', y1⟩ := ints_at HU.out 1 (by omega)
  subst hsome
  simp only [Option.some.injEq, Addr.mk.injEq, and_true] at hsome'
  obtain ⟨rfl, rfl⟩ := hsome'
  have HLA := Lib.hid (HL.out _ (List.getElem_mem (show 0 < L.length by omega)))
  obtain ⟨A0, hA0⟩ : ∃ A0, A0 = L[0]'(by omega) := ⟨_, rfl⟩
  obtain ⟨A1, hA1⟩ : ∃ A1, A1 = L[1]'(by omega) := ⟨_, rfl⟩
  rw [← hA0] at HRW y0 HLA
  rw [← hA1] at HRW y1
  clear hA0 hA1
  go_enter Tryz.func140, Tryz.ntmps140
  go_wp2_with fail
  have Y0 : Hid (w.cell? ⟨b, o, none⟩ = some (.int .i64 A0)) := y0
  have Y1 := Lib.hid y1
  clear y0 y1
  go_loopw [5, 6, 7, 8] (fun x y _ _ wr => ∃ (O : Int) (k : Nat), x = .int .i64 O ∧ y = .int .i64 ((k : Int) - 1) ∧ k ≤ 2 ∧ Gr w wr ∧ Hid (StOut P A0 A1 k O)) (fun _ y _ _ _ => (intOf y + 1).toNat)
  case atStart => exact ⟨-1, 2, rfl, rfl, by omega, Gr.refl _, .inl ⟨rfl, rfl⟩⟩
  case round =>
    obtain ⟨O, k, rfl, rfl, hk, g, HO⟩ := hrel
    have zs2 := Nat.lt_of_lt_of_le zs g.size
    have y0 := (g.cell _ _ zs).trans Y0.out
    have y1 := (g.cell _ _ zs).trans Y1.out
    by_cases hk0 : 0 < k
    · have hk1 : ¬ (k : Int) - 1 < 0 := by omega
      have hpk : PrtOk ⟨A0, (k : Int) - 1⟩ := ⟨HLA.out, show I64 ((k : Int) - 1) from WalkArith.wf_i64 (by omega)⟩
      have hkk : ((k - 1 : Nat) : Int) - 1 = (k : Int) - 1 - 1 := by omega
      have HKK := Lib.hid hkk
      clear hkk
      rcases hnx : nextL P.js ⟨A0, (k : Int) - 1⟩ with _ | ⟨ye, yx⟩
      · have l1 := next_look_none (HM.out.gr g) HF.out hpk hnx
        have HO2 := Lib.hid (HO.out.no hk0 (joinsTo_none (b := A1) hnx))
        dsimp only at l1
        clear hnx hpk HO
        go_wp2_with fail
        go_quiet (fail)
        go_wp2
        go_roundw
        case rel => exact ⟨O, k - 1, rfl, by rw [HKK.out], by omega, by first | exact (g.alloc _).drewN _ | exact (g.drewN _).alloc _, HO2.out⟩
        case measure => simp [intOf]; omega
      · have l1 := next_look_some (HM.out.gr g) HF.out hpk hnx
        have HJN := Lib.hid (joinsTo_some (b := A1) hnx)
        dsimp only at l1 HJN
        clear hnx hpk
        by_cases hye : ye = A1
        · have t5 := beqT hye
          have HO2 := Lib.hid (HO.out.yes hk0 (by rw [HJN.out]; exact decide_eq_true hye))
          clear hye HO HJN
          go_wp2_with fail
          go_quiet (fail)
          go_wp2
          go_roundw
          case rel => exact ⟨(k : Int) - 1, k - 1, rfl, by rw [HKK.out], by omega, by first | exact (g.alloc _).drewN _ | exact (g.drewN _).alloc _, HO2.out⟩
          case measure => simp [intOf]; omega
        · have t5 := beqF hye
          have HO2 := Lib.hid (HO.out.no hk0 (by rw [HJN.out]; exact decide_eq_false hye))
          clear hye HO HJN
          go_wp2_with fail
          go_quiet (fail)
          go_wp2
          go_roundw
          case rel => exact ⟨O, k - 1, rfl, by rw [HKK.out], by omega, by first | exact (g.alloc _).drewN _ | exact (g.drewN _).alloc _, HO2.out⟩
          case measure => simp [intOf]; omega
    · have hO := HO.out.done hk0
      have hob := outOf_bd P A0 A1
      clear HO
      generalize outOf P A0 A1 = OO at *
      subst hO
      by_cases hneg : O < 0
      · have HR : Hid (rowB P L = false) := by unfold Hid; rw [HRW.out]; simp [hneg]
        go_wp2
        go_ret
        exact ⟨ret_bool HR.out.symm, g⟩
      have HR0 : Hid (rowB P L = chainB P L O) := by unfold Hid; rw [HRW.out]; simp [hneg]
      obtain ⟨hob1, hob2⟩ := hob
      clear HRW
      go_wp2_with fail
      clear y0 y1 Y0 Y1 zs2
      obtain ⟨wd, hwd⟩ : ∃ wd, wd = wr := ⟨_, rfl⟩
      subst hwd
      go_loopw [5, 9, 10, 11] (fun x y _ _ wr => ∃ (Q : Int) (j : Nat), x = .int .i64 Q ∧ y = .int .i64 ((j : Int) + 1) ∧ j + 1 ≤ L.length ∧ -2 ≤ Q ∧ Q ≤ 1 ∧ Gr w wr ∧ Hid (chainB P (L.drop j) Q = chainB P L O)) (fun _ y _ _ _ => L.length - (intOf y).toNat)
      case atStart => exact ⟨O, 0, rfl, rfl, by omega, by omega, by omega, g, rfl⟩
      case round =>
        obtain ⟨Q, j, rfl, rfl, hj1, hq1, hq2, g, HC⟩ := hrel
        by_cases hjl : j + 1 < L.length
        · obtain ⟨b', o', hsome', zs', y0⟩ := ints_at (HU.out.gr g) j (by omega)
          simp only [Option.some.injEq, Addr.mk.injEq, and_true] at hsome'
          obtain ⟨rfl, rfl⟩ := hsome'
          obtain ⟨b', o', hsome', zs2, y1⟩ := ints_at (HU.out.gr g) (j + 1) hjl
          simp only [Option.some.injEq, Addr.mk.injEq, and_true] at hsome'
          obtain ⟨rfl, rfl⟩ := hsome'
          have HCD := Lib.hid (fun q => chain_drop (P := P) hjl q)
          have HLX := Lib.hid (HL.out _ (List.getElem_mem (show j < L.length by omega)))
          obtain ⟨X, hX⟩ : ∃ X, X = L[j]'(by omega) := ⟨_, rfl⟩
          obtain ⟨Y, hY⟩ : ∃ Y, Y = L[j + 1] := ⟨_, rfl⟩
          rw [← hX] at y0 HCD HLX
          rw [← hY] at y1 HCD
          clear hX hY
          have j1 : (j : Int) < (L.length : Int) := by omega
          have j2 : (j : Int) + 1 < (L.length : Int) := by omega
          have hpk : PrtOk ⟨X, Q⟩ := ⟨HLX.out, show I64 Q from WalkArith.wf_i64 (by omega)⟩
          rcases hnx : nextL P.js ⟨X, Q⟩ with _ | ⟨ye, yx⟩
          · have l1 := next_look_none (HM.out.gr g) HF.out hpk hnx
            have HR : Hid (rowB P L = false) := by unfold Hid; rw [HR0.out, ← HC.out, HCD.out, hnx]
            dsimp only at l1
            clear hnx hpk
            go_wp2_with fail
            go_quiet (fail)
            go_wp2
            go_ret
            exact ⟨ret_bool HR.out.symm, by first | exact (g.alloc _).drewN _ | exact (g.drewN _).alloc _⟩
          · have l1 := next_look_some (HM.out.gr g) HF.out hpk hnx
            have HCY : Hid (chainB P (L.drop j) Q = (decide (ye = Y) && chainB P (L.drop (j + 1)) (1 - yx))) := by unfold Hid; rw [HCD.out, hnx]
            have hbd := HJ.out _ _ hnx
            dsimp only at l1 hbd
            obtain ⟨-, -, bd1, bd2⟩ := hbd
            clear hnx HCD hpk
            by_cases hye : ye = Y
            · have t5 := bneF hye
              have HC2 : Hid (chainB P (L.drop (j + 1)) (1 - yx) = chainB P L O) := by
                unfold Hid
                rw [← HC.out, HCY.out, decide_eq_true hye]; rfl
              clear hye HC HCY
              go_wp2_with fail
              go_quiet (fail)
              go_wp2
              go_roundw
              case rel => exact ⟨1 - yx, j + 1, rfl, by go_num, by omega, by omega, by omega, by first | exact (g.alloc _).drewN _ | exact (g.drewN _).alloc _, HC2.out⟩
              case measure => simp [intOf]; omega
            · have t5 := bneT hye
              have HR : Hid (rowB P L = false) := by unfold Hid; rw [HR0.out, ← HC.out, HCY.out, decide_eq_false hye]; rfl
              clear hye HC HCY
              go_wp2_with fail
              go_quiet (fail)
              go_wp2
              go_ret
              exact ⟨ret_bool HR.out.symm, by first | exact (g.alloc _).drewN _ | exact (g.drewN _).alloc _⟩
        · have hce := chain_end (P := P) (L := L) (i := j) (by omega) Q
          have HR : Hid (rowB P L = true) := by unfold Hid; rw [HR0.out, ← HC.out]; exact hce.1
          clear hce HC
          go_wp2
          go_ret
          exact ⟨ret_bool HR.out.symm, g⟩
end Go.Proofs.YtknmngejjoohdaaGreatDoor
