/- hand.number, hand.May, the reference's MayDriver, SameInts. -/
import Derived.Test.YtaanepadgoefhaaGreatDoorRows
import Derived.Test.YtaanepadgoefhaaGreatDoorRDrvP
import Derived.Test.YtaanepadgoefhaaGreatDoorB6
import Derived.Test.YtaanepadgoefhaaGreatDoorShelf
import Derived.Test.YtaanepadgoefhaaGreatDoorB3
namespace Go.Proofs.YtaanepadgoefhaaGreatDoor
open Go.ChangeShapes Go.WideShapes Go.ChangeAt Go.RowKit
set_option linter.unusedVariables false
set_option linter.unusedSimpArgs false
set_option maxRecDepth 100000 in
theorem num_any (x : ByteArray) (hx : x.size ≤ maxLen) (w : World) :
    Calls Tryz.prog 77 #[.string x] w fun e w' => e = .returned (.tuple #[.int .i64 (numR x).1, .bool (numR x).2]) ∧ w' = w := by
  have HC := Lib.hid (Tryz.strings_CutPrefix x ⟨#[45]⟩ w)
  cases hp : Lib.hasPrefix x.data.toList [45]
  · have HC1 : Hid (Calls Tryz.prog 110 #[.string x, .string ⟨#[45]⟩] w fun e w' => e = .returned (.tuple #[.string x, .bool false]) ∧ w' = w) := by
      have := HC.out
      unfold Lib.trimPrefix at this
      rw [show (⟨#[45]⟩ : ByteArray).data.toList = [45] from rfl, hp] at this
      exact this
    have HR : Hid (numR x = (numN x 4, numB x 4)) := by show _ = _; unfold numR; rw [hp]; rfl
    have HN := Lib.hid (number_any x 4 hx w)
    have HZ : Hid (numB x 4 = false → numN x 4 = 0) := fun h => by unfold numN; rw [h]; rfl
    generalize numR x = R at HR ⊢
    generalize numN x 4 = n at HN HR HZ
    clear HC hp
    cases hb : numB x 4
    · have HN' := HN
      rw [hb] at HN HR
      have HQ : Hid (R = (0, false)) := by show _ = _; rw [HR.out, HZ.out hb]
      clear HN' HZ hb HR
      go_enter Tryz.func77, Tryz.ntmps77
      go_wp2_with (first | (go_at_call 110; (with_reducible refine (HC1.out).mono ?_); rintro e w1 ⟨rfl, hq⟩; obtain rfl := hq.symm) | (go_at_call 111; (with_reducible refine (HN.out).mono ?_); rintro e w1 ⟨rfl, hq⟩; obtain rfl := hq.symm) | fail)
      go_ret2
      exact ⟨by rw [HQ.out]; rfl, rfl⟩
    · rw [hb] at HN HR
      clear HZ hb
      go_enter Tryz.func77, Tryz.ntmps77
      go_wp2_with (first | (go_at_call 110; (with_reducible refine (HC1.out).mono ?_); rintro e w1 ⟨rfl, hq⟩; obtain rfl := hq.symm) | (go_at_call 111; (with_reducible refine (HN.out).mono ?_); rintro e w1 ⟨rfl, hq⟩; obtain rfl := hq.symm) | fail)
      go_ret2
      exact ⟨by rw [HR.out]; rfl, rfl⟩
  · have HC1 : Hid (Calls Tryz.prog 110 #[.string x, .string ⟨#[45]⟩] w fun e w' => e = .returned (.tuple #[.string (toB (x.data.toList.drop 1)), .bool true]) ∧ w' = w) := by
      have := HC.out
      unfold Lib.trimPrefix at this
      rw [show (⟨#[45]⟩ : ByteArray).data.toList = [45] from rfl, hp] at this
      exact this
    have HR : Hid (numR x = (-(numN (toB (x.data.toList.drop 1)) 4), numB (toB (x.data.toList.drop 1)) 4 && !decide (numN (toB (x.data.toList.drop 1)) 4 = 0))) := by show _ = _; unfold numR; rw [hp]; rfl
    have hsz : (toB (x.data.toList.drop 1)).size ≤ maxLen := by
      rw [toB_size, List.length_drop]
      have : x.data.toList.length = x.size := by rw [Array.length_toList]; rfl
      omega
    generalize toB (x.data.toList.drop 1) = y at HC1 HR hsz
    have HN := Lib.hid (number_any y 4 hsz w)
    have hbd := numN_bd y
    have HZ : Hid (numB y 4 = false → numN y 4 = 0) := fun h => by unfold numN; rw [h]; rfl
    generalize numR x = R at HR ⊢
    generalize numN y 4 = n at HN HR HZ hbd
    clear HC hp
    cases hb : numB y 4
    · rw [hb] at HN HR
      have HQ : Hid (R = (0, false)) := by show _ = _; rw [HR.out, HZ.out hb]; rfl
      clear HZ hb HR
      go_enter Tryz.func77, Tryz.ntmps77
      go_wp2_with (first | (go_at_call 110; (with_reducible refine (HC1.out).mono ?_); rintro e w1 ⟨rfl, hq⟩; obtain rfl := hq.symm) | (go_at_call 111; (with_reducible refine (HN.out).mono ?_); rintro e w1 ⟨rfl, hq⟩; obtain rfl := hq.symm) | fail)
      go_ret2
      exact ⟨by rw [HQ.out]; rfl, rfl⟩
    · rw [hb] at HN HR
      clear HZ hb
      by_cases h0 : n = 0
      · subst h0
        go_enter Tryz.func77, Tryz.ntmps77
        go_wp2_with (first | (go_at_call 110; (with_reducible refine (HC1.out).mono ?_); rintro e w1 ⟨rfl, hq⟩; obtain rfl := hq.symm) | (go_at_call 111; (with_reducible refine (HN.out).mono ?_); rintro e w1 ⟨rfl, hq⟩; obtain rfl := hq.symm) | fail)
        go_ret2
        exact ⟨by rw [HR.out]; rfl, rfl⟩
      · have h1 : (n != 0) = true := by simpa using h0
        have HQ : Hid (R = (-n, true)) := by show _ = _; rw [HR.out]; simp [h0]
        clear h0 HR
        go_enter Tryz.func77, Tryz.ntmps77
        go_wp2_with (first | (go_at_call 110; (with_reducible refine (HC1.out).mono ?_); rintro e w1 ⟨rfl, hq⟩; obtain rfl := hq.symm) | (go_at_call 111; (with_reducible refine (HN.out).mono ?_); rintro e w1 ⟨rfl, hq⟩; obtain rfl := hq.symm) | fail)
        go_ret2
        exact ⟨by rw [HQ.out]; rfl, rfl⟩
theorem len0 (n : Nat) : ((n : Int) == 0) = decide (n = 0) := by
  rw [Bool.eq_iff_iff]; simp
theorem mayD_own {D : Drv} (h : D.kind = 1 ∨ D.kind = 2) : mayD D = decide (D.tape.length = 0) := by unfold mayD; rw [if_pos h]
theorem mayD_tape {D : Drv} (h : D.kind = 3) : mayD D = (D.tape.all (fun x => decide (-999 ≤ x) && decide (x ≤ 1000)) && decide (D.tape.length ≤ 64)) := by
  unfold mayD; rw [if_neg (by omega), if_pos h]
theorem mayD_none {D : Drv} (h : ¬ (D.kind = 1 ∨ D.kind = 2)) (h3 : ¬ D.kind = 3) : mayD D = false := by unfold mayD; rw [if_neg h, if_neg h3]
theorem all_bad {l : List Int} {k : Nat} (hk : k < l.length) (h : l[k] < -999 ∨ 1000 < l[k]) : l.all (fun x => decide (-999 ≤ x) && decide (x ≤ 1000)) = false := by
  rw [List.all_eq_false]
  refine ⟨l[k], List.getElem_mem hk, ?_⟩
  simp; omega
set_option maxRecDepth 100000 in
set_option maxHeartbeats 1000000 in
theorem hmay_any (v : Value) (D : Drv) (w : World) (hD : IsDrv w v D) :
    Calls Tryz.prog 78 #[v] w fun e w' => e = .returned (.bool (mayD D)) ∧ Gr w w' := by
  obtain ⟨a, c, rfl, hd⟩ := hD
  obtain ⟨kind, tape⟩ := D
  have HV := Lib.hid hd
  obtain ⟨_, _, hs0, hm, -⟩ := hd
  simp only [Value.slice.injEq, List.length_map] at hs0 hm
  unfold maxLen at hm
  clear hs0
  unfold drvV
  dsimp only at HV ⊢
  have g0 : Gr w (w.alloc (.cells #[.int .i64 kind, .slice a tape.length c] 35)) := (Gr.refl _).alloc _
  by_cases k1 : kind = 1
  · subst k1
    have HR := Lib.hid (mayD_own (D := ⟨1, tape⟩) (.inl rfl))
    generalize mayD ⟨1, tape⟩ = R at HR ⊢
    go_enter Tryz.func78, Tryz.ntmps78
    go_wp2_with fail
    go_ret
    exact ⟨ret_bool (by rw [HR.out]; exact len0 _), g0⟩
  by_cases k2 : kind = 2
  · subst k2
    have HR := Lib.hid (mayD_own (D := ⟨2, tape⟩) (.inr rfl))
    generalize mayD ⟨2, tape⟩ = R at HR ⊢
    go_enter Tryz.func78, Tryz.ntmps78
    go_wp2_with fail
    go_ret
    exact ⟨ret_bool (by rw [HR.out]; exact len0 _), g0⟩
  have t1 : (kind == 1) = false := by simpa using k1
  have t2 : (kind == 2) = false := by simpa using k2
  by_cases k3 : kind = 3
  · subst k3
    have HR := Lib.hid (mayD_tape (D := ⟨3, tape⟩) rfl)
    have HB : Hid (∀ (k : Nat) (hk : k < tape.length), (tape[k] < -999 ∨ 1000 < tape[k]) → mayD ⟨3, tape⟩ = false) := fun k hk h => by rw [HR.out, all_bad hk h]; rfl
    have HG : Hid ((∀ (k : Nat) (hk : k < tape.length), ¬ (tape[k] < -999 ∨ 1000 < tape[k])) → mayD ⟨3, tape⟩ = decide (tape.length ≤ 64)) := fun h => by
      rw [HR.out]
      have : tape.all (fun x => decide (-999 ≤ x) && decide (x ≤ 1000)) = true := by
        rw [List.all_eq_true]
        intro x hx
        obtain ⟨k, hk, rfl⟩ := List.getElem_of_mem hx
        have := h k hk
        simp; omega
      rw [this]; rfl
    generalize mayD ⟨3, tape⟩ = R at HR HB HG ⊢
    clear k1 k2 t1 t2 HR
    go_enter Tryz.func78, Tryz.ntmps78
    go_wp2_with fail
    go_loop [19] (fun x => ∃ k : Nat, x = .int .i64 k ∧ k ≤ tape.length ∧ Hid (∀ (j : Nat) (hj : j < tape.length), j < k → ¬ (tape[j] < -999 ∨ 1000 < tape[j]))) (fun x => tape.length - (intOf x).toNat)
    case atStart => exact ⟨0, rfl, Nat.zero_le _, fun j _ hj => absurd hj (by omega)⟩
    case round =>
      obtain ⟨k, rfl, hk, HP⟩ := hrel
      by_cases hlt : k < tape.length
      · have hk1 : (k : Int) < (tape.length : Int) := by omega
        obtain ⟨bb, o, hs, z, y0⟩ := ints_at HV.out k hlt
        subst hs
        have y1 := (g0.cell _ _ z).trans y0
        have HBk := Lib.hid (HB.out k hlt)
        have HPk : Hid (¬ (tape[k] < -999 ∨ 1000 < tape[k]) → ∀ (j : Nat) (hj : j < tape.length), j < k + 1 → ¬ (tape[j] < -999 ∨ 1000 < tape[j])) := fun h j hj hjk => by
          by_cases e : j = k
          · subst e; exact h
          · exact HP.out j hj (by omega)
        generalize tape[k] = x at y1 HBk HPk
        clear y0
        by_cases h1 : x < -999
        · have HQ := Lib.hid (HBk.out (.inl h1))
          go_wp2_with fail
          go_ret
          exact ⟨ret_bool HQ.out.symm, g0⟩
        by_cases h2 : 1000 < x
        · have HQ := Lib.hid (HBk.out (.inr h2))
          go_wp2_with fail
          go_ret
          exact ⟨ret_bool HQ.out.symm, g0⟩
        have HQ := Lib.hid (HPk.out (by omega))
        go_wp2_with fail
        go_round
        case rel => exact ⟨k + 1, by go_num, hlt, HQ⟩
        case measure => simp [intOf]; omega
      · have hk1 : ¬ (k : Int) < (tape.length : Int) := by omega
        have HQ := Lib.hid (HG.out (fun j hj => HP.out j hj (by omega)))
        go_wp2_with fail
        go_ret
        exact ⟨ret_bool (by rw [HQ.out]; simp <;> omega), g0⟩
  · have HR := Lib.hid (mayD_none (D := ⟨kind, tape⟩) (by dsimp only; omega) k3)
    have t3 : (kind == 3) = false := by simpa using k3
    clear k1 k2 k3
    go_enter Tryz.func78, Tryz.ntmps78
    go_wp2_with fail
    go_ret
    exact ⟨ret_bool HR.out.symm, g0⟩
set_option maxRecDepth 100000 in
set_option maxHeartbeats 1000000 in
theorem refMayD_any (v : Value) (D : Drv) (w : World) (hD : IsDrv w v D) :
    Calls Tryz.prog 15 #[v] w fun e w' => e = .returned (.bool (mayD D)) ∧ Gr w w' := by
  obtain ⟨a, c, rfl, hd⟩ := hD
  obtain ⟨kind, tape⟩ := D
  have HV := Lib.hid hd
  obtain ⟨_, _, hs0, hm, -⟩ := hd
  simp only [Value.slice.injEq, List.length_map] at hs0 hm
  unfold maxLen at hm
  clear hs0
  unfold drvV
  dsimp only at HV ⊢
  have g0 : Gr w (w.alloc (.cells #[.int .i64 kind, .slice a tape.length c] 35)) := (Gr.refl _).alloc _
  by_cases k1 : kind = 1
  · subst k1
    have HR := Lib.hid (mayD_own (D := ⟨1, tape⟩) (.inl rfl))
    generalize mayD ⟨1, tape⟩ = R at HR ⊢
    go_enter Tryz.func15, Tryz.ntmps15
    go_wp2_with fail
    go_ret
    exact ⟨ret_bool (by rw [HR.out]; exact len0 _), g0⟩
  by_cases k2 : kind = 2
  · subst k2
    have HR := Lib.hid (mayD_own (D := ⟨2, tape⟩) (.inr rfl))
    generalize mayD ⟨2, tape⟩ = R at HR ⊢
    go_enter Tryz.func15, Tryz.ntmps15
    go_wp2_with fail
    go_ret
    exact ⟨ret_bool (by rw [HR.out]; exact len0 _), g0⟩
  have t1 : (kind == 1) = false := by simpa using k1
  have t2 : (kind == 2) = false := by simpa using k2
  by_cases k3 : kind = 3
  · subst k3
    have HR := Lib.hid (mayD_tape (D := ⟨3, tape⟩) rfl)
    have HB : Hid (∀ (k : Nat) (hk : k < tape.length), (tape[k] < -999 ∨ 1000 < tape[k]) → mayD ⟨3, tape⟩ = false) := fun k hk h => by rw [HR.out, all_bad hk h]; rfl
    have HG : Hid ((∀ (k : Nat) (hk : k < tape.length), ¬ (tape[k] < -999 ∨ 1000 < tape[k])) → mayD ⟨3, tape⟩ = decide (tape.length ≤ 64)) := fun h => by
      rw [HR.out]
      have : tape.all (fun x => decide (-999 ≤ x) && decide (x ≤ 1000)) = true := by
        rw [List.all_eq_true]
        intro x hx
        obtain ⟨k, hk, rfl⟩ := List.getElem_of_mem hx
        have := h k hk
        simp; omega
      rw [this]; rfl
    generalize mayD ⟨3, tape⟩ = R at HR HB HG ⊢
    clear k1 k2 t1 t2
    by_cases hl : 64 < tape.length
    · have hl1 : 64 < (tape.length : Int) := by omega
      have HQ : Hid (R = false) := by show _ = _; rw [HR.out, decide_eq_false (by dsimp only; omega)]; simp
      go_enter Tryz.func15, Tryz.ntmps15
      go_wp2_with fail
      go_ret
      exact ⟨ret_bool HQ.out.symm, g0⟩
    have hl1 : ¬ 64 < (tape.length : Int) := by omega
    clear HR
    go_enter Tryz.func15, Tryz.ntmps15
    go_wp2_with fail
    go_loop [29] (fun x => ∃ k : Nat, x = .int .i64 k ∧ k ≤ tape.length ∧ Hid (∀ (j : Nat) (hj : j < tape.length), j < k → ¬ (tape[j] < -999 ∨ 1000 < tape[j]))) (fun x => tape.length - (intOf x).toNat)
    case atStart => exact ⟨0, rfl, Nat.zero_le _, fun j _ hj => absurd hj (by omega)⟩
    case round =>
      obtain ⟨k, rfl, hk, HP⟩ := hrel
      by_cases hlt : k < tape.length
      · have hk1 : (k : Int) < (tape.length : Int) := by omega
        obtain ⟨bb, o, hs, z, y0⟩ := ints_at HV.out k hlt
        subst hs
        have y1 := (g0.cell _ _ z).trans y0
        have HBk := Lib.hid (HB.out k hlt)
        have HPk : Hid (¬ (tape[k] < -999 ∨ 1000 < tape[k]) → ∀ (j : Nat) (hj : j < tape.length), j < k + 1 → ¬ (tape[j] < -999 ∨ 1000 < tape[j])) := fun h j hj hjk => by
          by_cases e : j = k
          · subst e; exact h
          · exact HP.out j hj (by omega)
        generalize tape[k] = x at y1 HBk HPk
        clear y0
        by_cases h1 : x < -999
        · have HQ := Lib.hid (HBk.out (.inl h1))
          go_wp2_with fail
          go_ret
          exact ⟨ret_bool HQ.out.symm, g0⟩
        by_cases h2 : 1000 < x
        · have HQ := Lib.hid (HBk.out (.inr h2))
          go_wp2_with fail
          go_ret
          exact ⟨ret_bool HQ.out.symm, g0⟩
        have HQ := Lib.hid (HPk.out (by omega))
        go_wp2_with fail
        go_round
        case rel => exact ⟨k + 1, by go_num, hlt, HQ⟩
        case measure => simp [intOf]; omega
      · have hk1 : ¬ (k : Int) < (tape.length : Int) := by omega
        have HQ := Lib.hid (HG.out (fun j hj => HP.out j hj (by omega)))
        go_wp2_with fail
        go_ret
        exact ⟨ret_bool (by rw [HQ.out]; simp; omega), g0⟩
  · have HR := Lib.hid (mayD_none (D := ⟨kind, tape⟩) (by dsimp only; omega) k3)
    have t3 : (kind != 3) = true := by simpa using k3
    clear k1 k2 k3
    go_enter Tryz.func15, Tryz.ntmps15
    go_wp2_with fail
    go_ret
    exact ⟨ret_bool HR.out.symm, g0⟩
end Go.Proofs.YtaanepadgoefhaaGreatDoor
