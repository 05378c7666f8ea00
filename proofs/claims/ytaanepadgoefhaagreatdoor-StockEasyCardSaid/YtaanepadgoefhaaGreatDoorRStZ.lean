/- stock.Check and the reference's; Fits. -/
import Derived.Test.YtaanepadgoefhaaGreatDoorRows
import Derived.Test.YtaanepadgoefhaaGreatDoorRStY
import Derived.Test.YtaanepadgoefhaaGreatDoorRKde
import Derived.Test.YtaanepadgoefhaaGreatDoorB10
import Derived.Test.YtaanepadgoefhaaGreatDoorB9
import Derived.Test.YtaanepadgoefhaaGreatDoorRFinP
namespace Go.Proofs.YtaanepadgoefhaaGreatDoor
open Go.ChangeShapes Go.WideShapes Go.ChangeAt Go.RowKit Go.Maps
set_option linter.unusedVariables false
set_option linter.unusedSimpArgs false
theorem contCheck_any (L : List Stk) (p : Stk → Bool) (v cap : Value) (w : World) (hL : IsStks w v L)
    (hc : ∀ (w' : World), Gr w w' → ∀ (i : Nat) (hi : i < L.length), Calls Tryz.prog 70 #[L[i].v, cap] w' fun e w'' => e = .returned (.bool (p L[i])) ∧ Gr w' w'') :
    Calls Tryz.prog 69 #[v, .func (.func 70) #[] #[cap]] w fun e w' => e = .returned (.bool (L.any p)) ∧ Gr w w' := by
  have HI := Lib.hid (idxCheck_any L p v cap w hL hc)
  have HA := Lib.hid (fstN_any p L)
  generalize fstN p L = q at HI HA
  clear hc
  go_enter Tryz.func69, Tryz.ntmps69
  go_wp2_with (first | (go_at_call 73; (with_reducible refine (HI.out).mono ?_); rintro e w2 ⟨rfl, g2⟩) | fail)
  go_ret
  exact ⟨ret_bool HA.out, g2⟩
set_option maxHeartbeats 1000000 in
theorem stCheck_any (pv v : Value) (P : Pln) (L : List Stk) (w : World) (hP : IsPln w pv P) (hL : IsStks w v L) (hok : ∀ s ∈ L, s.nm.size ≤ maxLen) :
    Calls Tryz.prog 30 #[pv, v] w fun e w' => e = .returned (.int .i64 (checkS P.top P.brake L)) ∧ Gr w w' := by
  obtain ⟨a1, c1, a2, c2, a3, c3, a4, c4, rfl, -⟩ := hP
  have g0 : Gr w (w.alloc (.cells #[.slice a1 P.es.length c1, .slice a2 P.js.length c2, .slice a3 P.ss.length c3, .slice a4 P.ls.length c4, .int .i64 P.top, .int .i64 P.brake, .int .i64 P.margin, .int .i64 P.throw, .bool P.hard] 27)) := (Gr.refl _).alloc _
  have HW := Lib.hid (fun (w' : World) (g : Gr w w') => wrong_any v L w' (hL.gr g) hok)
  have HC := Lib.hid (fun (w' : World) (g : Gr (w.alloc (.cells #[.slice a1 P.es.length c1, .slice a2 P.js.length c2, .slice a3 P.ss.length c3, .slice a4 P.ls.length c4, .int .i64 P.top, .int .i64 P.brake, .int .i64 P.margin, .int .i64 P.throw, .bool P.hard] 27)) w') => contCheck_any L (shortS P.top P.brake) v (.pointer (some ⟨w.heap.size, 0, none⟩)) w' (hL.gr (g0.trans g)) (fun w2 g2 i hi => by
    obtain ⟨z, q0, q1, q2, q3, q4, q5, q6, q7, q8⟩ := (PBox.new w P (.slice a1 P.es.length c1) (.slice a2 P.js.length c2) (.slice a3 P.ss.length c3) (.slice a4 P.ls.length c4)).gr (g.trans g2)
    exact check1_any L[i] P.top P.brake w.heap.size w2 z q4 q5))
  have HE : Hid (checkS P.top P.brake L = if plainE L ≠ 0 then plainE L else if L.any (shortS P.top P.brake) then 9 else 0) := rfl
  unfold plnV
  generalize checkS P.top P.brake L = R at HE ⊢
  generalize plainE L = E at HW HE
  by_cases hE : E = 0
  · have tE : (E != 0) = false := bneF hE
    generalize L.any (shortS P.top P.brake) = q at HC HE
    cases q
    · have HR : Hid (R = 0) := by show _ = _; rw [HE.out, if_neg (by omega)]; rfl
      subst hE
      go_enter Tryz.func30, Tryz.ntmps30
      go_wp2_with (first | (go_at_call 60; (with_reducible refine (HW.out _ g0).mono ?_); rintro e w2 ⟨rfl, g2⟩) | (go_at_call 69; (with_reducible refine (HC.out _ g2).mono ?_); rintro e w3 ⟨rfl, g3⟩) | fail)
      go_ret
      exact ⟨ret_int HR.out.symm, (g0.trans g2).trans g3⟩
    · have HR : Hid (R = 9) := by show _ = _; rw [HE.out, if_neg (by omega)]; rfl
      subst hE
      go_enter Tryz.func30, Tryz.ntmps30
      go_wp2_with (first | (go_at_call 60; (with_reducible refine (HW.out _ g0).mono ?_); rintro e w2 ⟨rfl, g2⟩) | (go_at_call 69; (with_reducible refine (HC.out _ g2).mono ?_); rintro e w3 ⟨rfl, g3⟩) | fail)
      go_ret
      exact ⟨ret_int HR.out.symm, (g0.trans g2).trans g3⟩
  · have tE : (E != 0) = true := bneT hE
    have HR : Hid (R = E) := by show _ = _; rw [HE.out, if_pos hE]
    clear hE
    go_enter Tryz.func30, Tryz.ntmps30
    go_wp2_with (first | (go_at_call 60; (with_reducible refine (HW.out _ g0).mono ?_); rintro e w2 ⟨rfl, g2⟩) | fail)
    go_ret
    exact ⟨ret_int HR.out.symm, g0.trans g2⟩
set_option maxHeartbeats 1000000 in
theorem refCheckS_any (pv v : Value) (P : Pln) (L : List Stk) (w : World) (hP : IsPln w pv P) (hL : IsStks w v L) (hok : ∀ s ∈ L, s.nm.size ≤ maxLen) :
    Calls Tryz.prog 32 #[pv, v] w fun e w' => e = .returned (.int .i64 (checkS P.top P.brake L)) ∧ Gr w w' := by
  obtain ⟨a1, c1, a2, c2, a3, c3, a4, c4, rfl, -⟩ := hP
  have g0 : Gr w (w.alloc (.cells #[.slice a1 P.es.length c1, .slice a2 P.js.length c2, .slice a3 P.ss.length c3, .slice a4 P.ls.length c4, .int .i64 P.top, .int .i64 P.brake, .int .i64 P.margin, .int .i64 P.throw, .bool P.hard] 27)) := (Gr.refl _).alloc _
  have HL := Lib.hid hL
  obtain ⟨a, c, rfl, hm, -⟩ := hL.form
  unfold maxLen at hm
  have HW := Lib.hid (fun (w' : World) (g : Gr w w') => plain_any _ L w' (HL.out.gr g) hok)
  have HB := Lib.hid (fun (w' : World) (g : Gr (w.alloc (.cells #[.slice a1 P.es.length c1, .slice a2 P.js.length c2, .slice a3 P.ss.length c3, .slice a4 P.ls.length c4, .int .i64 P.top, .int .i64 P.brake, .int .i64 P.margin, .int .i64 P.throw, .bool P.hard] 27)) w') => (PBox.new w P (.slice a1 P.es.length c1) (.slice a2 P.js.length c2) (.slice a3 P.ss.length c3) (.slice a4 P.ls.length c4)).gr g)
  have HE : Hid (checkS P.top P.brake L = if plainE L ≠ 0 then plainE L else if L.any (shortS P.top P.brake) then 9 else 0) := rfl
  unfold plnV
  generalize checkS P.top P.brake L = R at HE ⊢
  generalize plainE L = E at HW HE
  clear hL hok
  by_cases hE : E = 0
  · have tE : (E != 0) = false := bneF hE
    have HR0 : Hid (R = if L.any (shortS P.top P.brake) then 9 else 0) := by show _ = _; rw [HE.out, if_neg (by omega)]
    subst hE
    clear HE
    go_enter Tryz.func32, Tryz.ntmps32
    go_wp2_with (first | (go_at_call 62; (with_reducible refine (HW.out _ g0).mono ?_); rintro e w2 ⟨rfl, g2⟩) | fail)
    have gw2 := g0.trans g2
    go_loopw [15] (fun y wr => ∃ (k : Nat), y = .int .i64 k ∧ k ≤ L.length ∧ Gr w2 wr ∧ Hid (∀ i (hi : i < L.length), i < k → shortS P.top P.brake L[i] = false)) (fun y _ => L.length - (intOf y).toNat)
    case atStart => exact ⟨0, rfl, Nat.zero_le _, Gr.refl _, fun i _ h => by omega⟩
    case round =>
      obtain ⟨k, rfl, hk, g3, HA⟩ := hrel
      have g := gw2.trans g3
      obtain ⟨zb, p0, p1, p2, p3, p4, p5, p6, p7, p8⟩ := HB.out _ (g2.trans g3)
      by_cases hlt : k < L.length
      · have hk1 : (k : Int) < (L.length : Int) := by omega
        obtain ⟨bb, o, hs, z, y0, y1, y2, y3, y4⟩ := (HL.out.gr g).at k hlt
        subst hs
        have HN1 : Hid (shortS P.top P.brake L[k] = true → L.any (shortS P.top P.brake) = true) := fun h => List.any_eq_true.2 ⟨_, List.getElem_mem hlt, h⟩
        have HA2 : Hid (shortS P.top P.brake L[k] = false → ∀ i (hi : i < L.length), i < k + 1 → shortS P.top P.brake L[i] = false) := fun h i hi hik => by
          by_cases e : i = k
          · subst e; exact h
          · exact HA.out i hi (by omega)
        have e : shortS P.top P.brake L[k] = (decide (P.top < L[k].t) || decide (L[k].b < P.brake)) := rfl
        rw [e] at HN1 HA2
        clear e HA
        generalize hL0 : L[k] = s at y0 y1 y2 y3 y4 HN1 HA2
        clear hL0
        obtain ⟨nm, l, t, a', b⟩ := s
        dsimp only at y0 y1 y2 y3 y4 HN1 HA2
        have zz : w.heap.size < wr.heap.size + 1 := by omega
        by_cases h1 : P.top < t
        · have HR : Hid (R = 9) := by show _ = _; rw [HR0.out, HN1.out (by simp [h1])]; rfl
          clear HN1 HA2
          go_wp2_with fail
          go_ret
          exact ⟨ret_int HR.out.symm, g.alloc _⟩
        by_cases h2 : b < P.brake
        · have HR : Hid (R = 9) := by show _ = _; rw [HR0.out, HN1.out (by simp [h2])]; rfl
          clear HN1 HA2
          go_wp2_with fail
          go_ret
          exact ⟨ret_int HR.out.symm, g.alloc _⟩
        have HA3 := Lib.hid (HA2.out (by simp [h1, h2]))
        clear HN1 HA2
        go_wp2_with fail
        go_roundw
        case rel => exact ⟨k + 1, by go_num, hlt, g3.alloc _, HA3.out⟩
        case measure => simp [intOf]; omega
      · have hk1 : ¬ (k : Int) < (L.length : Int) := by omega
        have HR : Hid (R = 0) := by
          show _ = _
          rw [HR0.out]
          have : L.any (shortS P.top P.brake) = false := by
            rw [List.any_eq_false]
            intro x hx
            obtain ⟨i, hi, rfl⟩ := List.getElem_of_mem hx
            rw [HA.out i hi (by omega)]; decide
          rw [this]; rfl
        go_wp2_with fail
        go_ret
        exact ⟨ret_int HR.out.symm, g⟩
  · have tE : (E != 0) = true := bneT hE
    have HR : Hid (R = E) := by show _ = _; rw [HE.out, if_pos hE]
    clear hE
    go_enter Tryz.func32, Tryz.ntmps32
    go_wp2_with (first | (go_at_call 62; (with_reducible refine (HW.out _ g0).mono ?_); rintro e w2 ⟨rfl, g2⟩) | fail)
    go_ret
    exact ⟨ret_int HR.out.symm, g0.trans g2⟩
end Go.Proofs.YtaanepadgoefhaaGreatDoor
