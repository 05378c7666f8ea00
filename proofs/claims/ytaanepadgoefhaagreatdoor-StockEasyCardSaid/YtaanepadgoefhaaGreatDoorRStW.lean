/- stock.may, May, Find, wrong, Check; the reference's Find, plain, Check. -/
import Derived.Test.YtaanepadgoefhaaGreatDoorRows
import Derived.Test.YtaanepadgoefhaaGreatDoorRStQ
import Derived.Test.YtaanepadgoefhaaGreatDoorB6
import Derived.Test.YtaanepadgoefhaaGreatDoorB1
import Derived.Test.YtaanepadgoefhaaGreatDoorRVls
import Derived.Test.YtaanepadgoefhaaGreatDoorB2
import Derived.WalkSpells
namespace Go.Proofs.YtaanepadgoefhaaGreatDoor
open Go.ChangeShapes Go.WideShapes Go.ChangeAt Go.RowKit Go.Maps
set_option linter.unusedVariables false
set_option linter.unusedSimpArgs false
theorem str_dec (a b : ByteArray) : (a.toList == b.toList) = decide (a = b) := by
  by_cases h : a = b
  · subst h; simp
  · rw [str_ne h, decide_eq_false h]
/-- the first k of a slice -/
theorem head_slice (T e : TypeId) (hT : Tryz.prog.underlying T = some (.slice e)) (he : Tryz.prog.elem T = e) (hs : ∀ w', (sizeOf (Tryz.prog.elem T)).run Tryz.prog w' = .ok 5 w') (a : Option Addr) (n c k : Nat) (hk : k ≤ c) (w' : World) :
    (Instr.slice T (.slice a n c) none (some (.int .i64 k)) none).run Tryz.prog w' = .ok (.slice a k c) w' := by
  rw [run_slice_h (w := w') (P := Tryz.prog) T a n c (by rw [hT, he]) .i64 k (by omega) (by omega), hs]
  simp only [Result.andThen, sliced]
  have hz : a.map (fun x => x.add 0) = a := by cases a with | none => rfl | some x => rfl
  simp [hz]
theorem may1_any (n most : Int) (w : World) :
    Calls Tryz.prog 72 #[.int .i64 n, .int .i64 most] w fun e w' => e = .returned (.bool (winB n 1 most)) ∧ w' = w := by
  go_enter Tryz.func72, Tryz.ntmps72
  go_wp2
  all_goals go_ret
  all_goals (refine ⟨ret_bool ?_, rfl⟩; unfold winB; by_cases a1 : 1 ≤ n <;> by_cases a2 : n ≤ most <;> simp [a1, a2] <;> omega)
theorem stMay_any (nm : ByteArray) (l t a b : Int) (hs : nm.size ≤ maxLen) (w : World) :
    Calls Tryz.prog 31 #[.agg #[.string nm, .int .i64 l, .int .i64 t, .int .i64 a, .int .i64 b]] w fun e w' => e = .returned (.bool (mayB nm l t a b)) ∧ Gr w w' := by
  go_enter Tryz.func31, Tryz.ntmps31
  go_wp2_with (first | (go_at_call 71; refine (name_any nm hs _).mono ?_; rintro e w' ⟨rfl, rfl⟩) | (go_at_call 72; refine (may1_any _ _ _).mono ?_; rintro e w' ⟨rfl, rfl⟩))
  all_goals go_ret
  all_goals refine ⟨ret_bool ?_, (Gr.refl _).alloc _⟩
  all_goals (unfold mayB; simp_all)
theorem find1_any (s : Stk) (n : ByteArray) (B : Nat) (w : World) (hb : B < w.heap.size) (hc : w.cell? ⟨B, 0, none⟩ = some (.string n)) :
    Calls Tryz.prog 74 #[s.v, .pointer (some ⟨B, 0, none⟩)] w fun e w' => e = .returned (.bool (decide (s.nm = n))) ∧ Gr w w' := by
  obtain ⟨nm, l, t, a, b⟩ := s
  unfold Stk.v
  dsimp only
  go_enter Tryz.func74, Tryz.ntmps74
  go_wp2_with fail
  go_ret
  exact ⟨ret_bool (str_dec _ _), (Gr.refl _).alloc _⟩
theorem check1_any (s : Stk) (top brake : Int) (B : Nat) (w : World) (hb : B < w.heap.size) (h4 : w.cell? ⟨B, 4, none⟩ = some (.int .i64 top)) (h5 : w.cell? ⟨B, 5, none⟩ = some (.int .i64 brake)) :
    Calls Tryz.prog 70 #[s.v, .pointer (some ⟨B, 0, none⟩)] w fun e w' => e = .returned (.bool (shortS top brake s)) ∧ Gr w w' := by
  obtain ⟨nm, l, t, a, b⟩ := s
  unfold Stk.v shortS
  dsimp only
  by_cases h : top < t
  · go_enter Tryz.func70, Tryz.ntmps70
    go_wp2_with fail
    go_ret
    exact ⟨ret_bool (by simp [h]), (Gr.refl _).alloc _⟩
  · go_enter Tryz.func70, Tryz.ntmps70
    go_wp2_with fail
    go_ret
    exact ⟨ret_bool (by simp [h] <;> (intro h2; omega)), (Gr.refl _).alloc _⟩
set_option maxHeartbeats 400000 in
theorem idxFind_any (L : List Stk) (p : Stk → Bool) (v cap : Value) (w : World) (hL : IsStks w v L)
    (hc : ∀ (w' : World), Gr w w' → ∀ (i : Nat) (hi : i < L.length), Calls Tryz.prog 74 #[L[i].v, cap] w' fun e w'' => e = .returned (.bool (p L[i])) ∧ Gr w' w'') :
    Calls Tryz.prog 73 #[v, .func (.func 74) #[] #[cap]] w fun e w' => e = .returned (.int .i64 (fstN p L)) ∧ Gr w w' := by
  have HL := Lib.hid hL
  obtain ⟨a, c, rfl, hm, -⟩ := hL.form
  unfold maxLen at hm
  have HC := Lib.hid hc
  clear hc hL
  go_enter Tryz.func73, Tryz.ntmps73
  go_wp2_with fail
  go_loopw [5, 8] (fun _ x wr => ∃ k : Nat, x = .int .i64 k ∧ k ≤ L.length ∧ Gr w wr ∧ Hid (∀ i (hi : i < L.length), i < k → p L[i] = false)) (fun _ x _ => L.length - (intOf x).toNat)
  case atStart => exact ⟨0, rfl, Nat.zero_le _, Gr.refl _, fun i _ h => by omega⟩
  case round =>
    obtain ⟨k, rfl, hk, g, HA⟩ := hrel
    by_cases hlt : k < L.length
    · have hk1 : (k : Int) < (L.length : Int) := by omega
      obtain ⟨bb, o, hs, z, y0, y1, y2, y3, y4⟩ := (HL.out.gr g).at k hlt
      subst hs
      have HP := Lib.hid (fun w' (h : Gr w w') => HC.out w' h k hlt)
      have HY : Hid (p L[k] = true → fstN p L = k) := fun h => fstN_go p hlt h fun i hi hik => HA.out i hi hik
      have HN : Hid (p L[k] = false → ∀ i (hi : i < L.length), i < k + 1 → p L[i] = false) := fun h i hi hik => by
        by_cases e : i = k
        · subst e; exact h
        · exact HA.out i hi (by omega)
      clear HA
      generalize p L[k] = q at HP HY HN
      generalize L[k] = s at y0 y1 y2 y3 y4 HP
      obtain ⟨nm, l, t, a', b⟩ := s
      unfold Stk.v at HP
      dsimp only at y0 y1 y2 y3 y4 HP
      cases q
      · have HN2 := Lib.hid (HN.out rfl)
        clear HY HN
        go_wp2_with (first | (go_at_call 74; (with_reducible refine (HP.out _ g).mono ?_); rintro e w2 ⟨rfl, g2⟩) | fail)
        go_roundw
        case rel => exact ⟨k + 1, by go_num, hlt, g.trans g2, HN2.out⟩
        case measure => simp [intOf]; omega
      · have HY2 := Lib.hid (HY.out rfl)
        clear HY HN
        go_wp2_with (first | (go_at_call 74; (with_reducible refine (HP.out _ g).mono ?_); rintro e w2 ⟨rfl, g2⟩) | fail)
        go_ret
        exact ⟨ret_int HY2.out.symm, g.trans g2⟩
    · have hk1 : ¬ (k : Int) < (L.length : Int) := by omega
      have HR := Lib.hid (fstN_no p fun i hi => HA.out i hi (by omega))
      go_wp2_with fail
      go_ret
      exact ⟨ret_int HR.out.symm, g⟩
set_option maxHeartbeats 400000 in
theorem idxCheck_any (L : List Stk) (p : Stk → Bool) (v cap : Value) (w : World) (hL : IsStks w v L)
    (hc : ∀ (w' : World), Gr w w' → ∀ (i : Nat) (hi : i < L.length), Calls Tryz.prog 70 #[L[i].v, cap] w' fun e w'' => e = .returned (.bool (p L[i])) ∧ Gr w' w'') :
    Calls Tryz.prog 73 #[v, .func (.func 70) #[] #[cap]] w fun e w' => e = .returned (.int .i64 (fstN p L)) ∧ Gr w w' := by
  have HL := Lib.hid hL
  obtain ⟨a, c, rfl, hm, -⟩ := hL.form
  unfold maxLen at hm
  have HC := Lib.hid hc
  clear hc hL
  go_enter Tryz.func73, Tryz.ntmps73
  go_wp2_with fail
  go_loopw [5, 8] (fun _ x wr => ∃ k : Nat, x = .int .i64 k ∧ k ≤ L.length ∧ Gr w wr ∧ Hid (∀ i (hi : i < L.length), i < k → p L[i] = false)) (fun _ x _ => L.length - (intOf x).toNat)
  case atStart => exact ⟨0, rfl, Nat.zero_le _, Gr.refl _, fun i _ h => by omega⟩
  case round =>
    obtain ⟨k, rfl, hk, g, HA⟩ := hrel
    by_cases hlt : k < L.length
    · have hk1 : (k : Int) < (L.length : Int) := by omega
      obtain ⟨bb, o, hs, z, y0, y1, y2, y3, y4⟩ := (HL.out.gr g).at k hlt
      subst hs
      have HP := Lib.hid (fun w' (h : Gr w w') => HC.out w' h k hlt)
      have HY : Hid (p L[k] = true → fstN p L = k) := fun h => fstN_go p hlt h fun i hi hik => HA.out i hi hik
      have HN : Hid (p L[k] = false → ∀ i (hi : i < L.length), i < k + 1 → p L[i] = false) := fun h i hi hik => by
        by_cases e : i = k
        · subst e; exact h
        · exact HA.out i hi (by omega)
      clear HA
      generalize p L[k] = q at HP HY HN
      generalize L[k] = s at y0 y1 y2 y3 y4 HP
      obtain ⟨nm, l, t, a', b⟩ := s
      unfold Stk.v at HP
      dsimp only at y0 y1 y2 y3 y4 HP
      cases q
      · have HN2 := Lib.hid (HN.out rfl)
        clear HY HN
        go_wp2_with (first | (go_at_call 70; (with_reducible refine (HP.out _ g).mono ?_); rintro e w2 ⟨rfl, g2⟩) | fail)
        go_roundw
        case rel => exact ⟨k + 1, by go_num, hlt, g.trans g2, HN2.out⟩
        case measure => simp [intOf]; omega
      · have HY2 := Lib.hid (HY.out rfl)
        clear HY HN
        go_wp2_with (first | (go_at_call 70; (with_reducible refine (HP.out _ g).mono ?_); rintro e w2 ⟨rfl, g2⟩) | fail)
        go_ret
        exact ⟨ret_int HY2.out.symm, g.trans g2⟩
    · have hk1 : ¬ (k : Int) < (L.length : Int) := by omega
      have HR := Lib.hid (fstN_no p fun i hi => HA.out i hi (by omega))
      go_wp2_with fail
      go_ret
      exact ⟨ret_int HR.out.symm, g⟩
theorem stFind_any (v : Value) (L : List Stk) (n : ByteArray) (w : World) (hL : IsStks w v L) :
    Calls Tryz.prog 33 #[v, .string n] w fun e w' => e = .returned (.int .i64 (findN L n)) ∧ Gr w w' := by
  have g0 : Gr w (w.alloc (.cells #[.string n] 9)) := (Gr.refl _).alloc _
  have HI := Lib.hid (idxFind_any L (fun s => decide (s.nm = n)) v (.pointer (some ⟨w.heap.size, 0, none⟩)) _ (hL.gr g0) (fun w' g i hi => by
    have hz : w.heap.size < (w.alloc (.cells #[.string n] 9)).heap.size := by simp
    exact find1_any L[i] n w.heap.size w' (Nat.lt_of_lt_of_le hz g.size) ((g.cell _ _ hz).trans (by rw [World.cell?_alloc_mark]; rfl))))
  go_enter Tryz.func33, Tryz.ntmps33
  go_wp2_with (first | (go_at_call 73; (with_reducible refine (HI.out).mono ?_); rintro e w2 ⟨rfl, g2⟩) | fail)
  go_ret
  exact ⟨rfl, g0.trans g2⟩
set_option maxHeartbeats 400000 in
theorem refFindS_any (v : Value) (L : List Stk) (n : ByteArray) (w : World) (hL : IsStks w v L) :
    Calls Tryz.prog 34 #[v, .string n] w fun e w' => e = .returned (.int .i64 (findN L n)) ∧ Gr w w' := by
  have HL := Lib.hid hL
  obtain ⟨a, c, rfl, hm, -⟩ := hL.form
  unfold maxLen at hm
  clear hL
  go_enter Tryz.func34, Tryz.ntmps34
  go_wp2_with fail
  go_loopw [5, 9] (fun _ x wr => ∃ k : Nat, x = .int .i64 k ∧ k ≤ L.length ∧ Gr w wr ∧ Hid (∀ i (hi : i < L.length), i < k → decide (L[i].nm = n) = false)) (fun _ x _ => L.length - (intOf x).toNat)
  case atStart => exact ⟨0, rfl, Nat.zero_le _, Gr.refl _, fun i _ h => by omega⟩
  case round =>
    obtain ⟨k, rfl, hk, g, HA⟩ := hrel
    by_cases hlt : k < L.length
    · have hk1 : (k : Int) < (L.length : Int) := by omega
      obtain ⟨bb, o, hs, z, y0, y1, y2, y3, y4⟩ := (HL.out.gr g).at k hlt
      subst hs
      have HY : Hid (decide (L[k].nm = n) = true → findN L n = k) := fun h => fstN_go _ hlt h fun i hi hik => HA.out i hi hik
      have HN : Hid (decide (L[k].nm = n) = false → ∀ i (hi : i < L.length), i < k + 1 → decide (L[i].nm = n) = false) := fun h i hi hik => by
        by_cases e : i = k
        · subst e; exact h
        · exact HA.out i hi (by omega)
      clear HA
      have hd := str_dec L[k].nm n
      generalize decide (L[k].nm = n) = q at hd HY HN
      generalize L[k] = s at y0 y1 y2 y3 y4 hd
      obtain ⟨nm, l, t, a', b⟩ := s
      dsimp only at y0 y1 y2 y3 y4 hd
      cases q
      · have HN2 := Lib.hid (HN.out rfl)
        clear HY HN
        go_wp2_with fail
        go_roundw
        case rel => exact ⟨k + 1, by go_num, hlt, g.alloc _, HN2.out⟩
        case measure => simp [intOf]; omega
      · have HY2 := Lib.hid (HY.out rfl)
        clear HY HN
        go_wp2_with fail
        go_ret
        exact ⟨ret_int HY2.out.symm, g.alloc _⟩
    · have hk1 : ¬ (k : Int) < (L.length : Int) := by omega
      have HR : Hid (findN L n = -1) := fstN_no _ fun i hi => HA.out i hi (by omega)
      go_wp2_with fail
      go_ret
      exact ⟨ret_int HR.out.symm, g⟩
end Go.Proofs.YtaanepadgoefhaaGreatDoor
