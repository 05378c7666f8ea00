/- The reference's row: elements, gates, block lines, lines of no kind. -/
import Derived.Test.YtknmngejjoohdaaGreatDoorRows
import Derived.Test.YtknmngejjoohdaaGreatDoorRDrP2
import Derived.Test.YtknmngejjoohdaaGreatDoorRDrZ
import Derived.Test.YtknmngejjoohdaaGreatDoorRDrD
import Derived.Test.YtknmngejjoohdaaGreatDoorRDrF
import Derived.Test.YtknmngejjoohdaaGreatDoorRDrP1
namespace Go.Proofs.YtknmngejjoohdaaGreatDoor
open Go.ChangeShapes Go.WideShapes Go.ChangeAt Go.RowKit Go.Maps
set_option linter.unusedVariables false
set_option linter.unusedSimpArgs false
theorem trackL : bTrack.toList = [116, 114, 97, 99, 107] := by rw [ByteArray.toList_eq]; rfl
theorem pointsL : bPoints.toList = [112, 111, 105, 110, 116, 115] := by rw [ByteArray.toList_eq]; rfl
theorem crossL : bCross.toList = [99, 114, 111, 115, 115] := by rw [ByteArray.toList_eq]; rfl
theorem gateEL : bGateE.toList = [103, 97, 116, 101] := by rw [ByteArray.toList_eq]; rfl
theorem joinL : bJoin.toList = [106, 111, 105, 110] := by rw [ByteArray.toList_eq]; rfl
theorem signalL : bSignal.toList = [115, 105, 103, 110, 97, 108] := by rw [ByteArray.toList_eq]; rfl
theorem lineL : bLine.toList = [108, 105, 110, 101] := by rw [ByteArray.toList_eq]; rfl
theorem str_no {x y : ByteArray} {l : List UInt8} (hy : y.toList = l) (h : x ≠ y) : (x.toList == l) = false := by rw [str_eqD hy, decide_eq_false h]
theorem str_yes {x y : ByteArray} {l : List UInt8} (hy : y.toList = l) (h : x = y) : (x.toList == l) = true := by rw [str_eqD hy, decide_eq_true h]
set_option maxRecDepth 100000 in
set_option maxHeartbeats 2000000 in
/-- a line of no kind -/
theorem refRow_none (b B k : Nat) (h0 : Option Obj) (v : Value) (x : ByteArray) (T : List ByteArray) (P : Pln) (w0 w : World) (g : Gr w0 w) (hv : IsVals w v ((x :: T).map Value.string)) (hk : kindW x = 0) (hj : x ≠ bJoin) (hs : x ≠ bSignal) (hl : x ≠ bLine) :
    Calls Tryz.prog 42 #[.pointer (some ⟨b, 0, none⟩), v] w ((RetR 28 w0 b B (KL k h0) none) (rowW P (x :: T))) := by
  have HR : Hid (rowW P (x :: T) = .inl 2) := by
    show _ = _
    unfold rowW
    dsimp only
    rw [if_neg (by omega), if_neg hj, if_neg hs, if_neg hl]
  generalize rowW P (x :: T) = R at HR ⊢
  obtain ⟨bb, o, c, rfl, hbb, hlm, HC⟩ := vals_form hv (by simp)
  have y0 : w.cell? ⟨bb, o, none⟩ = some (.string x) := HC.out 0 (by simp)
  have k1 : x ≠ bTrack := fun e => by rw [e] at hk; revert hk; decide
  have k2 : x ≠ bPoints := fun e => by rw [e] at hk; revert hk; decide
  have k3 : x ≠ bCross := fun e => by rw [e] at hk; revert hk; decide
  have k4 : x ≠ bGateE := fun e => by rw [e] at hk; revert hk; decide
  have t1 := str_no trackL k1
  have t2 := str_no pointsL k2
  have t3 := str_no crossL k3
  have t4 := str_no gateEL k4
  have t5 := str_no joinL hj
  have t6 := str_no signalL hs
  have t7 := str_no lineL hl
  simp only [List.length_cons] at hlm ⊢
  unfold maxLen at hlm
  have hn0 : (0 : Int) < ((T.length + 1 : Nat) : Int) := by omega
  clear hv HC hk hj hs hl k1 k2 k3 k4
  generalize T.length + 1 = n at *
  go_enter Tryz.func42, Tryz.ntmps42
  go_wp2_with fail
  (go_ret; exact RetR.no HR.out g)
set_option maxRecDepth 100000 in
set_option maxHeartbeats 4000000 in
/-- tracks, points, crosses -/
theorem refRow_elem (b B k : Nat) (h0 : Option Obj) (v : Value) (x : ByteArray) (T : List ByteArray) (P : Pln) (w0 w : World) (hb : w0.heap.size ≤ b) (g : Gr w0 w) (hK : KL k h0 w) (hkB : k < B) (hkb : k ≠ b) (hR : RdP 28 b B w P none) (hv : IsVals w v ((x :: T).map Value.string)) (hs : ∀ y ∈ T, y.size ≤ maxLen) (hz : P.es.length ≤ 1000000) (hx : x = bTrack ∨ x = bPoints ∨ x = bCross) :
    Calls Tryz.prog 42 #[.pointer (some ⟨b, 0, none⟩), v] w ((RetR 28 w0 b B (KL k h0) none) (elemW P (x :: T))) := by
  obtain ⟨bb, o, c, rfl, hbb, hlm, HC⟩ := vals_form hv (by simp)
  have y0 : w.cell? ⟨bb, o, none⟩ = some (.string x) := HC.out 0 (by simp)
  have hk4 : kindW x ≠ 4 := by rcases hx with rfl | rfl | rfl <;> decide
  have t4 : (x.toList == [103, 97, 116, 101]) = false := str_no gateEL (by rcases hx with rfl | rfl | rfl <;> decide)
  have t5 : (x.toList == [106, 111, 105, 110]) = false := str_no joinL (by rcases hx with rfl | rfl | rfl <;> decide)
  have t6 : (x.toList == [115, 105, 103, 110, 97, 108]) = false := str_no signalL (by rcases hx with rfl | rfl | rfl <;> decide)
  have t7 : (x.toList == [108, 105, 110, 101]) = false := str_no lineL (by rcases hx with rfl | rfl | rfl <;> decide)
  simp only [List.length_cons] at hlm ⊢
  unfold maxLen at hlm
  by_cases hl2 : T.length = 2
  rotate_left
  · have HR : Hid (elemW P (x :: T) = .inl 2) := by
      show _ = _
      match T, hl2 with
      | [], _ => rfl
      | [d], _ =>
        show (if kindW x = 4 ∧ nmB d = true then .inr { P with es := P.es ++ [⟨d, 4, 0⟩] } else .inl 2 : Int ⊕ Pln) = .inl 2
        rw [if_neg (fun e => hk4 e.1)]
      | _ :: _ :: _ :: _, _ => rfl
    generalize elemW P (x :: T) = R at HR ⊢
    have t8 : (((T.length + 1 : Nat) : Int) == 3) = false := beqF (by omega)
    have hn0 : (0 : Int) < ((T.length + 1 : Nat) : Int) := by omega
    clear hs HC hR hK hl2 hv hk4
    generalize T.length + 1 = n at *
    rcases hx with rfl | rfl | rfl
    · have t1 := trackL
      clear hlm
      generalize bTrack = x at *
      have t1 : (x.toList == [116, 114, 97, 99, 107]) = true := by rw [t1]; rfl
      go_enter Tryz.func42, Tryz.ntmps42
      go_wp2_with fail
      (go_ret; exact RetR.no HR.out g)
    · have t2 := pointsL
      have t1 := str_no trackL (show bPoints ≠ bTrack by decide)
      clear hlm
      generalize bPoints = x at *
      have t2 : (x.toList == [112, 111, 105, 110, 116, 115]) = true := by rw [t2]; rfl
      go_enter Tryz.func42, Tryz.ntmps42
      go_wp2_with fail
      (go_ret; exact RetR.no HR.out g)
    · have t3 := crossL
      have t1 := str_no trackL (show bCross ≠ bTrack by decide)
      have t2 := str_no pointsL (show bCross ≠ bPoints by decide)
      clear hlm
      generalize bCross = x at *
      have t3 : (x.toList == [99, 114, 111, 115, 115]) = true := by rw [t3]; rfl
      go_enter Tryz.func42, Tryz.ntmps42
      go_wp2_with fail
      (go_ret; exact RetR.no HR.out g)
  obtain ⟨n, d, rfl⟩ : ∃ n d, T = [n, d] := by
    match T, hl2 with
    | [n, d], _ => exact ⟨n, d, rfl⟩
  have y1 : w.cell? ⟨bb, o + 1, none⟩ = some (.string n) := HC.out 1 (by simp)
  have y2 : w.cell? ⟨bb, o + 2, none⟩ = some (.string d) := HC.out 2 (by simp)
  have HNM := Lib.hid (fun w' => refName_any n (hs n (by simp)) w')
  have HNU := Lib.hid (fun w' => refNum5_any d (hs d (by simp)) w')
  have hE : elemW P [x, n, d] = if kindW x ≠ 4 ∧ nmB n = true ∧ numB d 5 = true then .inr { P with es := P.es ++ [⟨n, kindW x, numN d 5⟩] } else .inl 2 := rfl
  rw [hE]
  clear hE hl2 hs HC hv
  simp only [List.length_cons, List.length_nil] at *
  generalize numN d 5 = N at *
  have hno : (nmB n = false ∨ numB d 5 = false) → (if kindW x ≠ 4 ∧ nmB n = true ∧ numB d 5 = true then .inr { P with es := P.es ++ [⟨n, kindW x, N⟩] } else .inl 2 : Int ⊕ Pln) = .inl 2 := fun h => if_neg (by rintro ⟨-, h1, h2⟩; rcases h with h | h <;> simp_all)
  have hys : nmB n = true → numB d 5 = true → (if kindW x ≠ 4 ∧ nmB n = true ∧ numB d 5 = true then .inr { P with es := P.es ++ [⟨n, kindW x, N⟩] } else .inl 2 : Int ⊕ Pln) = .inr { P with es := P.es ++ [⟨n, kindW x, N⟩] } := fun h1 h2 => if_pos ⟨hk4, h1, h2⟩
  generalize (if kindW x ≠ 4 ∧ nmB n = true ∧ numB d 5 = true then .inr { P with es := P.es ++ [⟨n, kindW x, N⟩] } else .inl 2 : Int ⊕ Pln) = R at hno hys ⊢
  obtain ⟨K, hKx⟩ : ∃ K, K = kindW x := ⟨_, rfl⟩
  rw [← hKx] at hys hk4
  have HNO := Lib.hid hno
  have HYS := Lib.hid hys
  have HRD := Lib.hid hR
  have HKK := Lib.hid hK
  clear hno hys hR hK
  generalize nmB n = q1 at *
  generalize numB d 5 = q2 at *
  obtain ⟨tt, ht0⟩ : ∃ tt : Bool × Bool × Bool, ((x.toList == [116, 114, 97, 99, 107]) = tt.1 ∧ (x.toList == [112, 111, 105, 110, 116, 115]) = tt.2.1 ∧ (x.toList == [99, 114, 111, 115, 115]) = tt.2.2) ∧ ((tt = (true, false, false) ∧ K = 1) ∨ (tt = (false, true, false) ∧ K = 2) ∨ (tt = (false, false, true) ∧ K = 3)) := by
    rcases hx with rfl | rfl | rfl
    · exact ⟨(true, false, false), ⟨str_yes trackL rfl, str_no pointsL (by decide), str_no crossL (by decide)⟩, .inl ⟨rfl, hKx⟩⟩
    · exact ⟨(false, true, false), ⟨str_no trackL (by decide), str_yes pointsL rfl, str_no crossL (by decide)⟩, .inr (.inl ⟨rfl, hKx⟩)⟩
    · exact ⟨(false, false, true), ⟨str_no trackL (by decide), str_no pointsL (by decide), str_yes crossL rfl⟩, .inr (.inr ⟨rfl, hKx⟩)⟩
  obtain ⟨⟨t1, t2, t3⟩, ht⟩ := ht0
  clear hx hKx hk4
  cases q2
  · have HR := Lib.hid (HNO.out (.inr rfl))
    rcases ht with ⟨rfl, rfl⟩ | ⟨rfl, rfl⟩ | ⟨rfl, rfl⟩
    all_goals
      dsimp only at t1 t2 t3
      go_enter Tryz.func42, Tryz.ntmps42
      go_wp2_with (first | (go_at_call 88; (with_reducible refine (HNM.out _).mono ?_); rintro e w5 ⟨rfl, hq⟩; obtain rfl := hq.symm) | (go_at_call 87; (with_reducible refine (HNU.out _).mono ?_); rintro e w6 ⟨rfl, hq⟩; obtain rfl := hq.symm) | fail)
      (go_ret; exact RetR.no HR.out g)
  cases q1
  · have HR := Lib.hid (HNO.out (.inl rfl))
    rcases ht with ⟨rfl, rfl⟩ | ⟨rfl, rfl⟩ | ⟨rfl, rfl⟩
    all_goals
      dsimp only at t1 t2 t3
      go_enter Tryz.func42, Tryz.ntmps42
      go_wp2_with (first | (go_at_call 88; (with_reducible refine (HNM.out _).mono ?_); rintro e w5 ⟨rfl, hq⟩; obtain rfl := hq.symm) | (go_at_call 87; (with_reducible refine (HNU.out _).mono ?_); rintro e w6 ⟨rfl, hq⟩; obtain rfl := hq.symm) | fail)
      (go_ret; exact RetR.no HR.out g)
  have HR := Lib.hid (HYS.out rfl rfl)
  obtain ⟨i0, hi0, hi1, hi2, hi3⟩ := info_parts Tryz.infoEl
  have h1 := HRD.out
  obtain ⟨e, j, s, l, h1, h2⟩ := h1
  have zb := h1.lt
  obtain ⟨hbB, hBz, k1, k2⟩ := id h2
  obtain ⟨ea, ec, rfl⟩ := own_form k1
  have c0 := h1.2.1.2.1
  have fz := h1.frozen 0
  have hfar := bp_far h1 k1 (by decide)
  have H1 := Lib.hid h1
  have H2 := Lib.hid h2
  have K1 := Lib.hid k1
  clear h1 h2 k1 k2 HRD HNO HYS
  rcases ht with ⟨rfl, rfl⟩ | ⟨rfl, rfl⟩ | ⟨rfl, rfl⟩
  · dsimp only at t1 t2 t3
    go_enter Tryz.func42, Tryz.ntmps42
    go_upto_region 10 with (first | (go_at_call 88; (with_reducible refine (HNM.out _).mono ?_); rintro e w5 ⟨rfl, hq⟩; obtain rfl := hq.symm) | (go_at_call 87; (with_reducible refine (HNU.out _).mono ?_); rintro e w6 ⟨rfl, hq⟩; obtain rfl := hq.symm) | fail)
    go_region_law ((refine step_append_lies _ (by rfl) _ _ _ (by rfl) B 80 i0 _ 3 32 Tryz.underlying23 hi0 hi1 hi2 hi3 rfl (by decide) (.slice ea P.es.length ec) P.es.length (P.es.flatMap Ele.cs) (by rfl) ((own_gr K1.out ((Gr.refl _).alloc _)).drew) ⟨w.heap.size, 0, none⟩ 1 1 [.string n, .int .i64 1, .int .i64 N] (by rfl) (by rfl) (World.news_of_block (heap_alloc_new w _)) (by simp [Value.oneCell']) (by omega) (by unfold maxLen; omega) (by omega) (by simp; omega) (w.heap.size + 1) (by simp) ?_; intro gg cap w9 hown hgrow hat hlt; have cu9 := (hgrow.cell_far ⟨b, 0, none⟩ (by simp; omega) (by simpa using Ne.symm hfar)); have fu9 := (hgrow.frozen_far ⟨b, 0, none⟩ (by simp; omega) (by simpa using Ne.symm hfar))))
    all_goals go_wp2_with fail
    all_goals go_ret
    all_goals exact elem_end (x := ⟨n, 1, N⟩) (by decide) hkB hkb H1.out H2.out HKK.out g hb (((Gr.refl w).alloc _).drew) HR.out hgrow hown
  · dsimp only at t1 t2 t3
    go_enter Tryz.func42, Tryz.ntmps42
    go_upto_region 10 with (first | (go_at_call 88; (with_reducible refine (HNM.out _).mono ?_); rintro e w5 ⟨rfl, hq⟩; obtain rfl := hq.symm) | (go_at_call 87; (with_reducible refine (HNU.out _).mono ?_); rintro e w6 ⟨rfl, hq⟩; obtain rfl := hq.symm) | fail)
    go_region_law ((refine step_append_lies _ (by rfl) _ _ _ (by rfl) B 80 i0 _ 3 32 Tryz.underlying23 hi0 hi1 hi2 hi3 rfl (by decide) (.slice ea P.es.length ec) P.es.length (P.es.flatMap Ele.cs) (by rfl) ((own_gr K1.out ((Gr.refl _).alloc _)).drew) ⟨w.heap.size, 0, none⟩ 1 1 [.string n, .int .i64 2, .int .i64 N] (by rfl) (by rfl) (World.news_of_block (heap_alloc_new w _)) (by simp [Value.oneCell']) (by omega) (by unfold maxLen; omega) (by omega) (by simp; omega) (w.heap.size + 1) (by simp) ?_; intro gg cap w9 hown hgrow hat hlt; have cu9 := (hgrow.cell_far ⟨b, 0, none⟩ (by simp; omega) (by simpa using Ne.symm hfar)); have fu9 := (hgrow.frozen_far ⟨b, 0, none⟩ (by simp; omega) (by simpa using Ne.symm hfar))))
    all_goals go_wp2_with fail
    all_goals go_ret
    all_goals exact elem_end (x := ⟨n, 2, N⟩) (by decide) hkB hkb H1.out H2.out HKK.out g hb (((Gr.refl w).alloc _).drew) HR.out hgrow hown
  · dsimp only at t1 t2 t3
    go_enter Tryz.func42, Tryz.ntmps42
    go_upto_region 10 with (first | (go_at_call 88; (with_reducible refine (HNM.out _).mono ?_); rintro e w5 ⟨rfl, hq⟩; obtain rfl := hq.symm) | (go_at_call 87; (with_reducible refine (HNU.out _).mono ?_); rintro e w6 ⟨rfl, hq⟩; obtain rfl := hq.symm) | fail)
    go_region_law ((refine step_append_lies _ (by rfl) _ _ _ (by rfl) B 80 i0 _ 3 32 Tryz.underlying23 hi0 hi1 hi2 hi3 rfl (by decide) (.slice ea P.es.length ec) P.es.length (P.es.flatMap Ele.cs) (by rfl) ((own_gr K1.out ((Gr.refl _).alloc _)).drew) ⟨w.heap.size, 0, none⟩ 1 1 [.string n, .int .i64 3, .int .i64 N] (by rfl) (by rfl) (World.news_of_block (heap_alloc_new w _)) (by simp [Value.oneCell']) (by omega) (by unfold maxLen; omega) (by omega) (by simp; omega) (w.heap.size + 1) (by simp) ?_; intro gg cap w9 hown hgrow hat hlt; have cu9 := (hgrow.cell_far ⟨b, 0, none⟩ (by simp; omega) (by simpa using Ne.symm hfar)); have fu9 := (hgrow.frozen_far ⟨b, 0, none⟩ (by simp; omega) (by simpa using Ne.symm hfar))))
    all_goals go_wp2_with fail
    all_goals go_ret
    all_goals exact elem_end (x := ⟨n, 3, N⟩) (by decide) hkB hkb H1.out H2.out HKK.out g hb (((Gr.refl w).alloc _).drew) HR.out hgrow hown
set_option maxRecDepth 100000 in
set_option maxHeartbeats 4000000 in
/-- gates -/
theorem refRow_gate (b B k : Nat) (h0 : Option Obj) (v : Value) (T : List ByteArray) (P : Pln) (w0 w : World) (hb : w0.heap.size ≤ b) (g : Gr w0 w) (hK : KL k h0 w) (hkB : k < B) (hkb : k ≠ b) (hR : RdP 28 b B w P none) (hv : IsVals w v ((bGateE :: T).map Value.string)) (hs : ∀ y ∈ T, y.size ≤ maxLen) (hz : P.es.length ≤ 1000000) :
    Calls Tryz.prog 42 #[.pointer (some ⟨b, 0, none⟩), v] w ((RetR 28 w0 b B (KL k h0) none) (elemW P (bGateE :: T))) := by
  obtain ⟨bb, o, c, rfl, hbb, hlm, HC⟩ := vals_form hv (by simp)
  have y0 : w.cell? ⟨bb, o, none⟩ = some (.string bGateE) := HC.out 0 (by simp)
  have t1 := str_no trackL (show bGateE ≠ bTrack by decide)
  have t2 := str_no pointsL (show bGateE ≠ bPoints by decide)
  have t3 := str_no crossL (show bGateE ≠ bCross by decide)
  have t4 := str_yes gateEL (show bGateE = bGateE from rfl)
  have t5 := str_no joinL (show bGateE ≠ bJoin by decide)
  have t6 := str_no signalL (show bGateE ≠ bSignal by decide)
  have t7 := str_no lineL (show bGateE ≠ bLine by decide)
  simp only [List.length_cons] at hlm ⊢
  unfold maxLen at hlm
  by_cases hl2 : T.length = 1
  rotate_left
  · have HR : Hid (elemW P (bGateE :: T) = .inl 2) := by
      show _ = _
      match T, hl2 with
      | [], _ => rfl
      | [n, d], _ =>
        show (if kindW bGateE ≠ 4 ∧ nmB n = true ∧ numB d 5 = true then .inr { P with es := P.es ++ [⟨n, kindW bGateE, numN d 5⟩] } else .inl 2 : Int ⊕ Pln) = .inl 2
        rw [if_neg (fun e => e.1 (by decide))]
      | _ :: _ :: _ :: _, _ => rfl
    generalize elemW P (bGateE :: T) = R at HR ⊢
    have t8 : (((T.length + 1 : Nat) : Int) == 2) = false := beqF (by omega)
    have hn0 : (0 : Int) < ((T.length + 1 : Nat) : Int) := by omega
    clear hs HC hR hK hl2 hv hlm
    generalize T.length + 1 = n at *
    generalize bGateE = x at *
    go_enter Tryz.func42, Tryz.ntmps42
    go_wp2_with fail
    (go_ret; exact RetR.no HR.out g)
  obtain ⟨n, rfl⟩ : ∃ n, T = [n] := by
    match T, hl2 with
    | [n], _ => exact ⟨n, rfl⟩
  have y1 : w.cell? ⟨bb, o + 1, none⟩ = some (.string n) := HC.out 1 (by simp)
  have HNM := Lib.hid (fun w' => refName_any n (hs n (by simp)) w')
  have hE : elemW P [bGateE, n] = if nmB n = true then .inr { P with es := P.es ++ [⟨n, 4, 0⟩] } else .inl 2 := by
    show (if kindW bGateE = 4 ∧ nmB n = true then .inr { P with es := P.es ++ [⟨n, 4, 0⟩] } else .inl 2 : Int ⊕ Pln) = _
    have : kindW bGateE = 4 := by decide
    simp [this]
  rw [hE]
  clear hE hl2 hs HC hv
  simp only [List.length_cons, List.length_nil] at *
  generalize bGateE = x at *
  have HRD := Lib.hid hR
  have HKK := Lib.hid hK
  clear hR hK
  cases hq : nmB n
  · have HR : Hid ((if false = true then .inr { P with es := P.es ++ [⟨n, 4, 0⟩] } else .inl 2 : Int ⊕ Pln) = .inl 2) := if_neg (by simp)
    rw [hq] at HNM
    generalize (if false = true then .inr { P with es := P.es ++ [⟨n, 4, 0⟩] } else .inl 2 : Int ⊕ Pln) = R at HR ⊢
    clear HRD HKK
    go_enter Tryz.func42, Tryz.ntmps42
    go_wp2_with (first | (go_at_call 88; (with_reducible refine (HNM.out _).mono ?_); rintro e w5 ⟨rfl, hq⟩; obtain rfl := hq.symm) | fail)
    (go_ret; exact RetR.no HR.out g)
  · have HR : Hid ((if true = true then .inr { P with es := P.es ++ [⟨n, 4, 0⟩] } else .inl 2 : Int ⊕ Pln) = .inr { P with es := P.es ++ [⟨n, 4, 0⟩] }) := if_pos rfl
    rw [hq] at HNM
    generalize (if true = true then .inr { P with es := P.es ++ [⟨n, 4, 0⟩] } else .inl 2 : Int ⊕ Pln) = R at HR ⊢
    clear hq
    obtain ⟨i0, hi0, hi1, hi2, hi3⟩ := info_parts Tryz.infoEl
    have h1 := HRD.out
    obtain ⟨e, j, s, l, h1, h2⟩ := h1
    have zb := h1.lt
    obtain ⟨hbB, hBz, k1, k2⟩ := id h2
    obtain ⟨ea, ec, rfl⟩ := own_form k1
    have c0 := h1.2.1.2.1
    have fz := h1.frozen 0
    have hfar := bp_far h1 k1 (by decide)
    have H1 := Lib.hid h1
    have H2 := Lib.hid h2
    have K1 := Lib.hid k1
    clear h1 h2 k1 k2 HRD
    go_enter Tryz.func42, Tryz.ntmps42
    go_upto_region 13 with (first | (go_at_call 88; (with_reducible refine (HNM.out _).mono ?_); rintro e w5 ⟨rfl, hq⟩; obtain rfl := hq.symm) | fail)
    go_region_law ((refine step_append_lies _ (by rfl) _ _ _ (by rfl) B 80 i0 _ 3 32 Tryz.underlying23 hi0 hi1 hi2 hi3 rfl (by decide) (.slice ea P.es.length ec) P.es.length (P.es.flatMap Ele.cs) (by rfl) ((own_gr K1.out ((Gr.refl _).alloc _)).drew) ⟨w.heap.size, 0, none⟩ 1 1 [.string n, .int .i64 4, .int .i64 0] (by rfl) (by rfl) (World.news_of_block (heap_alloc_new w _)) (by simp [Value.oneCell']) (by omega) (by unfold maxLen; omega) (by omega) (by simp; omega) (w.heap.size + 1) (by simp) ?_; intro gg cap w9 hown hgrow hat hlt; have cu9 := (hgrow.cell_far ⟨b, 0, none⟩ (by simp; omega) (by simpa using Ne.symm hfar)); have fu9 := (hgrow.frozen_far ⟨b, 0, none⟩ (by simp; omega) (by simpa using Ne.symm hfar))))
    all_goals go_wp2_with fail
    all_goals go_ret
    all_goals exact elem_end (x := ⟨n, 4, 0⟩) (by decide) hkB hkb H1.out H2.out HKK.out g hb (((Gr.refl w).alloc _).drew) HR.out hgrow hown
set_option maxRecDepth 100000 in
set_option maxHeartbeats 2000000 in
/-- block lines -/
theorem refRow_line (b B k : Nat) (h0 : Option Obj) (v : Value) (T : List ByteArray) (P : Pln) (w0 w : World) (hb : w0.heap.size ≤ b) (g : Gr w0 w) (hK : KL k h0 w) (hkB : k < B) (hkb : k ≠ b) (hR : RdP 28 b B w P none) (hv : IsVals w v ((bLine :: T).map Value.string)) (hs : ∀ y ∈ T, y.size ≤ maxLen) (hz : SzP 1000000 P) :
    Calls Tryz.prog 42 #[.pointer (some ⟨b, 0, none⟩), v] w ((RetR 28 w0 b B (KL k h0) none) (lineWd P (bLine :: T))) := by
  have HLR := Lib.hid (fun (h3 : ¬ (T.length + 1 < 3 ∨ 42 < T.length + 1)) => refLineRow_any b B k h0 v bLine T P w0 w hb g hK hkB hkb hR hv hs hz h3)
  have hLn : (T.length + 1 < 3 ∨ 42 < T.length + 1) → lineWd P (bLine :: T) = .inl 2 := fun h3 => by
    match T, h3 with
    | [], _ => rfl
    | n :: t, h3 =>
      refine lineWd_len ?_
      simp only [List.length_cons] at h3
      rcases h3 with h3 | h3
      · exact .inl (List.length_eq_zero_iff.1 (by omega))
      · exact .inr (by omega)
  have HLN := Lib.hid hLn
  obtain ⟨bb, o, c, rfl, hbb, hlm, HC⟩ := vals_form hv (by simp)
  have y0 : w.cell? ⟨bb, o, none⟩ = some (.string bLine) := HC.out 0 (by simp)
  simp only [List.length_cons] at hlm HLR ⊢
  unfold maxLen at hlm
  have t1 := str_no trackL (show bLine ≠ bTrack by decide)
  have t2 := str_no pointsL (show bLine ≠ bPoints by decide)
  have t3 := str_no crossL (show bLine ≠ bCross by decide)
  have t4 := str_no gateEL (show bLine ≠ bGateE by decide)
  have t5 := str_no joinL (show bLine ≠ bJoin by decide)
  have t6 := str_no signalL (show bLine ≠ bSignal by decide)
  have t7 := lineL
  generalize lineWd P (bLine :: T) = R at HLR HLN ⊢
  generalize bLine = x at *
  have t8 : (x.toList == [108, 105, 110, 101]) = true := by rw [t7]; rfl
  have hn0 : (0 : Int) < ((T.length + 1 : Nat) : Int) := by omega
  clear hLn hv HC t7 hs
  generalize T.length + 1 = n at *
  by_cases h3 : n < 3 ∨ 42 < n
  · have HR := Lib.hid (HLN.out h3)
    clear HLR HLN hR
    rcases h3 with h3 | h3
    · have n1 : ¬ (3 : Int) ≤ (n : Int) := by omega
      go_enter Tryz.func42, Tryz.ntmps42
      go_wp2_with fail
      (go_ret; exact RetR.no HR.out g)
    · have n1 : (3 : Int) ≤ (n : Int) := by omega
      have n2 : ¬ (n : Int) ≤ 42 := by omega
      go_enter Tryz.func42, Tryz.ntmps42
      go_wp2_with fail
      (go_ret; exact RetR.no HR.out g)
  have HL := Lib.hid (HLR.out h3)
  have n1 : (3 : Int) ≤ (n : Int) := by omega
  have n2 : (n : Int) ≤ 42 := by omega
  clear HLR HLN hR h3
  cases R with
  | inl E =>
    have HL1 : Hid (Calls Tryz.prog 91 #[.pointer (some ⟨b, 0, none⟩), .slice (some ⟨bb, o, none⟩) n c] w fun e w'' => e = .returned (.int .i64 E) ∧ Gr w0 w'') := HL.out
    clear HL
    go_enter Tryz.func42, Tryz.ntmps42
    go_wp2_with (first | (go_at_call 91; (with_reducible refine (HL1.out).mono ?_); rintro e w4 ⟨rfl, g4⟩) | fail)
    go_ret
    exact RetR.no rfl g4
  | inr D =>
    have HL1 : Hid (Calls Tryz.prog 91 #[.pointer (some ⟨b, 0, none⟩), .slice (some ⟨bb, o, none⟩) n c] w fun e w'' => e = .returned (.int .i64 0) ∧ Gr w0 w'' ∧ KL k h0 w'' ∧ RdP 28 b B w'' D none) := HL.out
    clear HL
    go_enter Tryz.func42, Tryz.ntmps42
    go_wp2_with (first | (go_at_call 91; (with_reducible refine (HL1.out).mono ?_); rintro e w4 ⟨rfl, g4, h4, k4⟩; have H4 := Lib.hid h4; have K4 := Lib.hid k4; clear h4 k4) | fail)
    go_ret
    exact RetR.yes rfl g4 H4.out K4.out
end Go.Proofs.YtknmngejjoohdaaGreatDoor
