/- (*reader).take (printed by gen_drh.py). -/
import Derived.Test.YtknmngejjoohdaaGreatDoorRows
import Derived.Test.YtknmngejjoohdaaGreatDoorRDrG
import Derived.Test.YtknmngejjoohdaaGreatDoorRDrD
namespace Go.Proofs.YtknmngejjoohdaaGreatDoor
open Go.ChangeShapes Go.WideShapes Go.ChangeAt Go.RowKit Go.Maps
set_option linter.unusedVariables false
set_option linter.unusedSimpArgs false
theorem lPlanL : bPlan.toList = [112, 108, 97, 110] := by rw [ByteArray.toList_eq]; rfl
theorem lTrackL : bTrack.toList = [116, 114, 97, 99, 107] := by rw [ByteArray.toList_eq]; rfl
theorem lPointsL : bPoints.toList = [112, 111, 105, 110, 116, 115] := by rw [ByteArray.toList_eq]; rfl
theorem lCrossL : bCross.toList = [99, 114, 111, 115, 115] := by rw [ByteArray.toList_eq]; rfl
theorem lGateEL : bGateE.toList = [103, 97, 116, 101] := by rw [ByteArray.toList_eq]; rfl
theorem lJoinL : bJoin.toList = [106, 111, 105, 110] := by rw [ByteArray.toList_eq]; rfl
theorem lSignalL : bSignal.toList = [115, 105, 103, 110, 97, 108] := by rw [ByteArray.toList_eq]; rfl
theorem lLineL : bLine.toList = [108, 105, 110, 101] := by rw [ByteArray.toList_eq]; rfl
def takeL (S : Option Pln) (w : List ByteArray) : Int ⊕ Pln := match S with | none => firstR w | some P => rowW P w
def takeR (S : Option Pln) (x : ByteArray) : Int ⊕ Pln := match wdB x with | none => .inl 2 | some w => takeL S w
theorem takeT_R (S : Option Pln) (x : ByteArray) : takeT S x = if skipB x = true then .inr S else match takeR S x with | .inl e => .inl e | .inr P => .inr (some P) := by
  unfold takeT takeR
  by_cases h : skipB x = true
  · rw [if_pos h, if_pos h]
  · rw [if_neg h, if_neg h]
    cases wdB x with
    | none => rfl
    | some w =>
      dsimp only
      unfold takeW takeL
      cases S with
      | none =>
        dsimp only
        unfold firstR
        cases headW w <;> rfl
      | some P =>
        dsimp only
        cases rowW P w <;> rfl
theorem firstR_not {x : ByteArray} {t : List ByteArray} (h : x ≠ bPlan) : firstR (x :: t) = .inl 2 := by
  unfold firstR
  match t with
  | [a, b, c, d, e] =>
    have : headW [x, a, b, c, d, e] = none := if_neg (fun h' => h h'.1)
    rw [this]
  | [] => rfl
  | [_] => rfl
  | [_, _] => rfl
  | [_, _, _] => rfl
  | [_, _, _, _] => rfl
  | _ :: _ :: _ :: _ :: _ :: _ :: _ => rfl
theorem kindW_no {x : ByteArray} (h1 : x ≠ bTrack) (h2 : x ≠ bPoints) (h3 : x ≠ bCross) (h4 : x ≠ bGateE) : kindW x = 0 := by
  unfold kindW; rw [if_neg h1, if_neg h2, if_neg h3, if_neg h4]
theorem vals_cons {w : World} {v : Value} {x : ByteArray} {t : List ByteArray} (h : IsVals w v ((x :: t).map Value.string)) : ∃ bb o n c, v = .slice (some ⟨bb, o, none⟩) n c ∧ bb < w.heap.size ∧ (n : Int) ≤ 9223372036854775807 ∧ w.cell? ⟨bb, o, none⟩ = some (.string x) ∧ (0 : Int) < (n : Int) ∧ Hid (t ≠ [] → ¬ (n : Int) < 2) ∧ Hid (t = [] → n = 1) := by
  obtain ⟨bb, o, c, rfl, hb, hl, hc⟩ := vals_form h (by simp)
  simp only [List.length_cons] at hl
  unfold maxLen at hl
  refine ⟨bb, o, _, c, rfl, hb, by simp only [List.length_cons]; omega, hc.out 0 (by simp), by simp only [List.length_cons]; omega, fun h => ?_, fun h => by subst h; rfl⟩
  have := List.length_pos_iff.2 h
  simp only [List.length_cons]; omega
theorem elemW_one {P : Pln} {x : ByteArray} : elemW P [x] = .inl 2 := rfl
set_option maxRecDepth 100000 in
set_option maxHeartbeats 4000000 in
theorem rdTake_none (b B k : Nat) (h0 : Option Obj) (s : ByteArray) (x : ByteArray) (t : List ByteArray) (w0 w : World) (hb : w0.heap.size ≤ b) (g : Gr w0 w) (hK : KL k h0 w) (hkB : k < B) (hkb : k ≠ b) (hR : RdP 72 b B w pln0 (some false)) (hs : ∀ y ∈ x :: t, y.size ≤ 1048576)
    (HW1 : Hid (Calls Tryz.prog 63 #[.string s] w fun e w'' => ∃ v, e = .returned (.tuple #[v, .bool true]) ∧ IsVals w'' v ((x :: t).map Value.string) ∧ CapOk v ∧ Gr w w'')) :
    Calls Tryz.prog 38 #[.pointer (some ⟨b, 0, none⟩), .string s] w ((RetR 72 w0 b B (KL k h0) (some true)) (firstR (x :: t))) := by
  have HRD := Lib.hid hR
  have hsm : ∀ y ∈ x :: t, y.size ≤ maxLen := fun y hy => by have := hs y hy; unfold maxLen; omega

  by_cases hx : x = bPlan
  · subst hx
    have f0 : (bPlan.toList == [112, 108, 97, 110]) = true := by rw [str_eqD lPlanL]; decide
    have f9 : (bPlan.toList != [112, 108, 97, 110]) = false := by rw [str_neD lPlanL]; decide
    have f1 : (bPlan.toList == [116, 114, 97, 99, 107]) = false := by rw [str_eqD lTrackL]; decide
    have f2 : (bPlan.toList == [112, 111, 105, 110, 116, 115]) = false := by rw [str_eqD lPointsL]; decide
    have f3 : (bPlan.toList == [99, 114, 111, 115, 115]) = false := by rw [str_eqD lCrossL]; decide
    have f4 : (bPlan.toList == [103, 97, 116, 101]) = false := by rw [str_eqD lGateEL]; decide
    have f5 : (bPlan.toList == [106, 111, 105, 110]) = false := by rw [str_eqD lJoinL]; decide
    have f6 : (bPlan.toList == [115, 105, 103, 110, 97, 108]) = false := by rw [str_eqD lSignalL]; decide
    have f7 : (bPlan.toList == [108, 105, 110, 101]) = false := by rw [str_eqD lLineL]; decide
    have HFI := Lib.hid (fun (v : Value) (w' : World) (h1 : IsVals w' v ((bPlan :: t).map Value.string)) (h2 : CapOk v) (g' : Gr w w') => rdFirst_any b B k h0 v t w0 w' hb (g.trans g') (hK.gr g') hkb (hR.gr g') h1 (fun y hy => hsm y (by simp [hy])))
    clear hR hK hs hsm
    generalize firstR (bPlan :: t) = r at HFI ⊢
    cases r with
    | inl n =>
      have HT1 : Hid (∀ v w', IsVals w' v ((bPlan :: t).map Value.string) → CapOk v → Gr w w' → Calls Tryz.prog 73 #[.pointer (some ⟨b, 0, none⟩), v] w' fun e w'' => e = .returned (.int .i64 n) ∧ Gr w0 w'') := HFI.out
      clear HFI
      go_enter Tryz.func38, Tryz.ntmps38
      go_wp2_with (first | (go_at_call 63; (with_reducible refine (HW1.out).mono ?_); rintro e w1 ⟨v1, rfl, hv1, hc1, g1⟩; have HV1 := Lib.hid hv1; have HC1 := Lib.hid hc1; obtain ⟨bb, o, nn, cc, rfl, zy, hlm, y0, hi0, hn2, hn1⟩ := vals_cons hv1; have d9 := (HRD.out.gr g1).cell9.2.1; have zb := (HRD.out.gr g1).cell9.1; clear hv1 hc1) | ((go_at_call 73; (with_reducible refine (HT1.out _ _ HV1.out HC1.out g1).mono ?_)); rintro e w4 ⟨rfl, g4⟩) | fail)
      go_ret
      exact RetR.no rfl g4
    | inr D =>
      have HT1 : Hid (∀ v w', IsVals w' v ((bPlan :: t).map Value.string) → CapOk v → Gr w w' → Calls Tryz.prog 73 #[.pointer (some ⟨b, 0, none⟩), v] w' fun e w'' => e = .returned (.int .i64 0) ∧ Gr w0 w'' ∧ KL k h0 w'' ∧ RdP 72 b B w'' D (some true)) := HFI.out
      clear HFI
      go_enter Tryz.func38, Tryz.ntmps38
      go_wp2_with (first | (go_at_call 63; (with_reducible refine (HW1.out).mono ?_); rintro e w1 ⟨v1, rfl, hv1, hc1, g1⟩; have HV1 := Lib.hid hv1; have HC1 := Lib.hid hc1; obtain ⟨bb, o, nn, cc, rfl, zy, hlm, y0, hi0, hn2, hn1⟩ := vals_cons hv1; have d9 := (HRD.out.gr g1).cell9.2.1; have zb := (HRD.out.gr g1).cell9.1; clear hv1 hc1) | ((go_at_call 73; (with_reducible refine (HT1.out _ _ HV1.out HC1.out g1).mono ?_)); rintro e w4 ⟨rfl, g4, h4, k4⟩; have H4 := Lib.hid h4; have K4 := Lib.hid k4; clear h4 k4) | fail)
      go_ret
      exact RetR.yes rfl g4 H4.out K4.out
  · rw [firstR_not hx]
    have f0 : (x.toList == [112, 108, 97, 110]) = false := by rw [str_eqD lPlanL, decide_eq_false hx]
    have f9 : (x.toList != [112, 108, 97, 110]) = true := by rw [str_neD lPlanL, decide_eq_false hx]; rfl
    clear hR hK hs hsm hx
    go_enter Tryz.func38, Tryz.ntmps38
    go_wp2_with (first | (go_at_call 63; (with_reducible refine (HW1.out).mono ?_); rintro e w1 ⟨v1, rfl, hv1, hc1, g1⟩; have HV1 := Lib.hid hv1; have HC1 := Lib.hid hc1; obtain ⟨bb, o, nn, cc, rfl, zy, hlm, y0, hi0, hn2, hn1⟩ := vals_cons hv1; have d9 := (HRD.out.gr g1).cell9.2.1; have zb := (HRD.out.gr g1).cell9.1; clear hv1 hc1) | fail)
    go_ret
    exact RetR.no rfl (g.trans g1)
set_option maxRecDepth 100000 in
set_option maxHeartbeats 4000000 in
theorem rdTake_plan (b B k : Nat) (h0 : Option Obj) (s : ByteArray) (t : List ByteArray) (P : Pln) (w0 w : World) (hb : w0.heap.size ≤ b) (g : Gr w0 w) (hK : KL k h0 w) (hkB : k < B) (hkb : k ≠ b) (hR : RdP 72 b B w P (some true)) (hs : ∀ y ∈ bPlan :: t, y.size ≤ 1048576) (hz : SzP 1000000 P)
    (HW1 : Hid (Calls Tryz.prog 63 #[.string s] w fun e w'' => ∃ v, e = .returned (.tuple #[v, .bool true]) ∧ IsVals w'' v ((bPlan :: t).map Value.string) ∧ CapOk v ∧ Gr w w'')) :
    Calls Tryz.prog 38 #[.pointer (some ⟨b, 0, none⟩), .string s] w ((RetR 72 w0 b B (KL k h0) (some true)) (rowW P (bPlan :: t))) := by
  have HRD := Lib.hid hR
  have hsm : ∀ y ∈ bPlan :: t, y.size ≤ maxLen := fun y hy => by have := hs y hy; unfold maxLen; omega

  have hr : rowW P (bPlan :: t) = .inl 2 := rfl
  rw [hr]
  have f0 : (bPlan.toList == [112, 108, 97, 110]) = true := by rw [str_eqD lPlanL]; decide
  have f9 : (bPlan.toList != [112, 108, 97, 110]) = false := by rw [str_neD lPlanL]; decide
  have f1 : (bPlan.toList == [116, 114, 97, 99, 107]) = false := by rw [str_eqD lTrackL]; decide
  have f2 : (bPlan.toList == [112, 111, 105, 110, 116, 115]) = false := by rw [str_eqD lPointsL]; decide
  have f3 : (bPlan.toList == [99, 114, 111, 115, 115]) = false := by rw [str_eqD lCrossL]; decide
  have f4 : (bPlan.toList == [103, 97, 116, 101]) = false := by rw [str_eqD lGateEL]; decide
  have f5 : (bPlan.toList == [106, 111, 105, 110]) = false := by rw [str_eqD lJoinL]; decide
  have f6 : (bPlan.toList == [115, 105, 103, 110, 97, 108]) = false := by rw [str_eqD lSignalL]; decide
  have f7 : (bPlan.toList == [108, 105, 110, 101]) = false := by rw [str_eqD lLineL]; decide
  have HFI : Hid (∀ v w', IsVals w' v ((bPlan :: t).map Value.string) → CapOk v → Gr w w' → Calls Tryz.prog 73 #[.pointer (some ⟨b, 0, none⟩), v] w' fun e w'' => e = .returned (.int .i64 2) ∧ Gr w0 w'') := fun v w' h1 h2 g' => rdFirst_has b B k h0 v (bPlan :: t) P w0 w' (g.trans g') (hR.gr g') h1
  clear hR hK hs hsm hr
  go_enter Tryz.func38, Tryz.ntmps38
  go_wp2_with (first | (go_at_call 63; (with_reducible refine (HW1.out).mono ?_); rintro e w1 ⟨v1, rfl, hv1, hc1, g1⟩; have HV1 := Lib.hid hv1; have HC1 := Lib.hid hc1; obtain ⟨bb, o, nn, cc, rfl, zy, hlm, y0, hi0, hn2, hn1⟩ := vals_cons hv1; have d9 := (HRD.out.gr g1).cell9.2.1; have zb := (HRD.out.gr g1).cell9.1; clear hv1 hc1) | ((go_at_call 73; (with_reducible refine (HFI.out _ _ HV1.out HC1.out g1).mono ?_)); rintro e w4 ⟨rfl, g4⟩) | fail)
  go_ret
  exact RetR.no rfl g4
set_option maxRecDepth 100000 in
set_option maxHeartbeats 4000000 in
theorem rdTake_Track (b B k : Nat) (h0 : Option Obj) (s : ByteArray) (t : List ByteArray) (P : Pln) (w0 w : World) (hb : w0.heap.size ≤ b) (g : Gr w0 w) (hK : KL k h0 w) (hkB : k < B) (hkb : k ≠ b) (hR : RdP 72 b B w P (some true)) (hs : ∀ y ∈ bTrack :: t, y.size ≤ 1048576) (hz : SzP 1000000 P)
    (HW1 : Hid (Calls Tryz.prog 63 #[.string s] w fun e w'' => ∃ v, e = .returned (.tuple #[v, .bool true]) ∧ IsVals w'' v ((bTrack :: t).map Value.string) ∧ CapOk v ∧ Gr w w'')) :
    Calls Tryz.prog 38 #[.pointer (some ⟨b, 0, none⟩), .string s] w ((RetR 72 w0 b B (KL k h0) (some true)) (rowW P (bTrack :: t))) := by
  have HRD := Lib.hid hR
  have hsm : ∀ y ∈ bTrack :: t, y.size ≤ maxLen := fun y hy => by have := hs y hy; unfold maxLen; omega

  have hr : rowW P (bTrack :: t) = elemW P (bTrack :: t) := rfl
  rw [hr]
  have f0 : (bTrack.toList == [112, 108, 97, 110]) = false := by rw [str_eqD lPlanL]; decide
  have f9 : (bTrack.toList != [112, 108, 97, 110]) = true := by rw [str_neD lPlanL]; decide
  have f1 : (bTrack.toList == [116, 114, 97, 99, 107]) = true := by rw [str_eqD lTrackL]; decide
  have f2 : (bTrack.toList == [112, 111, 105, 110, 116, 115]) = false := by rw [str_eqD lPointsL]; decide
  have f3 : (bTrack.toList == [99, 114, 111, 115, 115]) = false := by rw [str_eqD lCrossL]; decide
  have f4 : (bTrack.toList == [103, 97, 116, 101]) = false := by rw [str_eqD lGateEL]; decide
  have f5 : (bTrack.toList == [106, 111, 105, 110]) = false := by rw [str_eqD lJoinL]; decide
  have f6 : (bTrack.toList == [115, 105, 103, 110, 97, 108]) = false := by rw [str_eqD lSignalL]; decide
  have f7 : (bTrack.toList == [108, 105, 110, 101]) = false := by rw [str_eqD lLineL]; decide
  by_cases ht : t = []
  · subst ht
    rw [elemW_one]
    clear hR hK hs hsm hr
    go_enter Tryz.func38, Tryz.ntmps38
    go_wp2_with (first | ((go_at_call 63; (with_reducible refine (HW1.out).mono ?_); rintro e w1 ⟨v1, rfl, hv1, hc1, g1⟩; have HV1 := Lib.hid hv1; have HC1 := Lib.hid hc1; obtain ⟨bb, o, nn, cc, rfl, zy, hlm, y0, hi0, hn2, hn1⟩ := vals_cons hv1; have d9 := (HRD.out.gr g1).cell9.2.1; have zb := (HRD.out.gr g1).cell9.1; clear hv1 hc1); have hl2 := hn1.out rfl; subst hl2) | fail)
    go_ret
    exact RetR.no rfl (g.trans g1)
  · have HT0 := Lib.hid ht
    have HFI := Lib.hid (fun (v : Value) (w' : World) (h1 : IsVals w' v ((bTrack :: t).map Value.string)) (h2 : CapOk v) (g' : Gr w w') => rdElem_any b B k h0 v bTrack t P 0 w0 w' hb (g.trans g') (hK.gr g') hkB hkb (hR.gr g') h1 hsm (by decide) ht hz.es)
    clear hR hK hs hsm hr ht
    generalize elemW P (bTrack :: t) = r at HFI ⊢
    cases r with
    | inl n =>
      have HT1 : Hid (∀ v w', IsVals w' v ((bTrack :: t).map Value.string) → CapOk v → Gr w w' → Calls Tryz.prog 74 #[.pointer (some ⟨b, 0, none⟩), v] w' fun e w'' => e = .returned (.int .i64 n) ∧ Gr w0 w'') := HFI.out
      clear HFI
      go_enter Tryz.func38, Tryz.ntmps38
      go_wp2_with (first | ((go_at_call 63; (with_reducible refine (HW1.out).mono ?_); rintro e w1 ⟨v1, rfl, hv1, hc1, g1⟩; have HV1 := Lib.hid hv1; have HC1 := Lib.hid hc1; obtain ⟨bb, o, nn, cc, rfl, zy, hlm, y0, hi0, hn2, hn1⟩ := vals_cons hv1; have d9 := (HRD.out.gr g1).cell9.2.1; have zb := (HRD.out.gr g1).cell9.1; clear hv1 hc1); have hl2 := hn2.out HT0.out) | ((go_at_call 74; (with_reducible refine (HT1.out _ _ HV1.out HC1.out g1).mono ?_)); rintro e w4 ⟨rfl, g4⟩) | fail)
      go_ret
      exact RetR.no rfl g4
    | inr D =>
      have HT1 : Hid (∀ v w', IsVals w' v ((bTrack :: t).map Value.string) → CapOk v → Gr w w' → Calls Tryz.prog 74 #[.pointer (some ⟨b, 0, none⟩), v] w' fun e w'' => e = .returned (.int .i64 0) ∧ Gr w0 w'' ∧ KL k h0 w'' ∧ RdP 72 b B w'' D (some true)) := HFI.out
      clear HFI
      go_enter Tryz.func38, Tryz.ntmps38
      go_wp2_with (first | ((go_at_call 63; (with_reducible refine (HW1.out).mono ?_); rintro e w1 ⟨v1, rfl, hv1, hc1, g1⟩; have HV1 := Lib.hid hv1; have HC1 := Lib.hid hc1; obtain ⟨bb, o, nn, cc, rfl, zy, hlm, y0, hi0, hn2, hn1⟩ := vals_cons hv1; have d9 := (HRD.out.gr g1).cell9.2.1; have zb := (HRD.out.gr g1).cell9.1; clear hv1 hc1); have hl2 := hn2.out HT0.out) | ((go_at_call 74; (with_reducible refine (HT1.out _ _ HV1.out HC1.out g1).mono ?_)); rintro e w4 ⟨rfl, g4, h4, k4⟩; have H4 := Lib.hid h4; have K4 := Lib.hid k4; clear h4 k4) | fail)
      go_ret
      exact RetR.yes rfl g4 H4.out K4.out
set_option maxRecDepth 100000 in
set_option maxHeartbeats 4000000 in
theorem rdTake_Points (b B k : Nat) (h0 : Option Obj) (s : ByteArray) (t : List ByteArray) (P : Pln) (w0 w : World) (hb : w0.heap.size ≤ b) (g : Gr w0 w) (hK : KL k h0 w) (hkB : k < B) (hkb : k ≠ b) (hR : RdP 72 b B w P (some true)) (hs : ∀ y ∈ bPoints :: t, y.size ≤ 1048576) (hz : SzP 1000000 P)
    (HW1 : Hid (Calls Tryz.prog 63 #[.string s] w fun e w'' => ∃ v, e = .returned (.tuple #[v, .bool true]) ∧ IsVals w'' v ((bPoints :: t).map Value.string) ∧ CapOk v ∧ Gr w w'')) :
    Calls Tryz.prog 38 #[.pointer (some ⟨b, 0, none⟩), .string s] w ((RetR 72 w0 b B (KL k h0) (some true)) (rowW P (bPoints :: t))) := by
  have HRD := Lib.hid hR
  have hsm : ∀ y ∈ bPoints :: t, y.size ≤ maxLen := fun y hy => by have := hs y hy; unfold maxLen; omega

  have hr : rowW P (bPoints :: t) = elemW P (bPoints :: t) := rfl
  rw [hr]
  have f0 : (bPoints.toList == [112, 108, 97, 110]) = false := by rw [str_eqD lPlanL]; decide
  have f9 : (bPoints.toList != [112, 108, 97, 110]) = true := by rw [str_neD lPlanL]; decide
  have f1 : (bPoints.toList == [116, 114, 97, 99, 107]) = false := by rw [str_eqD lTrackL]; decide
  have f2 : (bPoints.toList == [112, 111, 105, 110, 116, 115]) = true := by rw [str_eqD lPointsL]; decide
  have f3 : (bPoints.toList == [99, 114, 111, 115, 115]) = false := by rw [str_eqD lCrossL]; decide
  have f4 : (bPoints.toList == [103, 97, 116, 101]) = false := by rw [str_eqD lGateEL]; decide
  have f5 : (bPoints.toList == [106, 111, 105, 110]) = false := by rw [str_eqD lJoinL]; decide
  have f6 : (bPoints.toList == [115, 105, 103, 110, 97, 108]) = false := by rw [str_eqD lSignalL]; decide
  have f7 : (bPoints.toList == [108, 105, 110, 101]) = false := by rw [str_eqD lLineL]; decide
  by_cases ht : t = []
  · subst ht
    rw [elemW_one]
    clear hR hK hs hsm hr
    go_enter Tryz.func38, Tryz.ntmps38
    go_wp2_with (first | ((go_at_call 63; (with_reducible refine (HW1.out).mono ?_); rintro e w1 ⟨v1, rfl, hv1, hc1, g1⟩; have HV1 := Lib.hid hv1; have HC1 := Lib.hid hc1; obtain ⟨bb, o, nn, cc, rfl, zy, hlm, y0, hi0, hn2, hn1⟩ := vals_cons hv1; have d9 := (HRD.out.gr g1).cell9.2.1; have zb := (HRD.out.gr g1).cell9.1; clear hv1 hc1); have hl2 := hn1.out rfl; subst hl2) | fail)
    go_ret
    exact RetR.no rfl (g.trans g1)
  · have HT0 := Lib.hid ht
    have HFI := Lib.hid (fun (v : Value) (w' : World) (h1 : IsVals w' v ((bPoints :: t).map Value.string)) (h2 : CapOk v) (g' : Gr w w') => rdElem_any b B k h0 v bPoints t P 0 w0 w' hb (g.trans g') (hK.gr g') hkB hkb (hR.gr g') h1 hsm (by decide) ht hz.es)
    clear hR hK hs hsm hr ht
    generalize elemW P (bPoints :: t) = r at HFI ⊢
    cases r with
    | inl n =>
      have HT1 : Hid (∀ v w', IsVals w' v ((bPoints :: t).map Value.string) → CapOk v → Gr w w' → Calls Tryz.prog 74 #[.pointer (some ⟨b, 0, none⟩), v] w' fun e w'' => e = .returned (.int .i64 n) ∧ Gr w0 w'') := HFI.out
      clear HFI
      go_enter Tryz.func38, Tryz.ntmps38
      go_wp2_with (first | ((go_at_call 63; (with_reducible refine (HW1.out).mono ?_); rintro e w1 ⟨v1, rfl, hv1, hc1, g1⟩; have HV1 := Lib.hid hv1; have HC1 := Lib.hid hc1; obtain ⟨bb, o, nn, cc, rfl, zy, hlm, y0, hi0, hn2, hn1⟩ := vals_cons hv1; have d9 := (HRD.out.gr g1).cell9.2.1; have zb := (HRD.out.gr g1).cell9.1; clear hv1 hc1); have hl2 := hn2.out HT0.out) | ((go_at_call 74; (with_reducible refine (HT1.out _ _ HV1.out HC1.out g1).mono ?_)); rintro e w4 ⟨rfl, g4⟩) | fail)
      go_ret
      exact RetR.no rfl g4
    | inr D =>
      have HT1 : Hid (∀ v w', IsVals w' v ((bPoints :: t).map Value.string) → CapOk v → Gr w w' → Calls Tryz.prog 74 #[.pointer (some ⟨b, 0, none⟩), v] w' fun e w'' => e = .returned (.int .i64 0) ∧ Gr w0 w'' ∧ KL k h0 w'' ∧ RdP 72 b B w'' D (some true)) := HFI.out
      clear HFI
      go_enter Tryz.func38, Tryz.ntmps38
      go_wp2_with (first | ((go_at_call 63; (with_reducible refine (HW1.out).mono ?_); rintro e w1 ⟨v1, rfl, hv1, hc1, g1⟩; have HV1 := Lib.hid hv1; have HC1 := Lib.hid hc1; obtain ⟨bb, o, nn, cc, rfl, zy, hlm, y0, hi0, hn2, hn1⟩ := vals_cons hv1; have d9 := (HRD.out.gr g1).cell9.2.1; have zb := (HRD.out.gr g1).cell9.1; clear hv1 hc1); have hl2 := hn2.out HT0.out) | ((go_at_call 74; (with_reducible refine (HT1.out _ _ HV1.out HC1.out g1).mono ?_)); rintro e w4 ⟨rfl, g4, h4, k4⟩; have H4 := Lib.hid h4; have K4 := Lib.hid k4; clear h4 k4) | fail)
      go_ret
      exact RetR.yes rfl g4 H4.out K4.out
set_option maxRecDepth 100000 in
set_option maxHeartbeats 4000000 in
theorem rdTake_Cross (b B k : Nat) (h0 : Option Obj) (s : ByteArray) (t : List ByteArray) (P : Pln) (w0 w : World) (hb : w0.heap.size ≤ b) (g : Gr w0 w) (hK : KL k h0 w) (hkB : k < B) (hkb : k ≠ b) (hR : RdP 72 b B w P (some true)) (hs : ∀ y ∈ bCross :: t, y.size ≤ 1048576) (hz : SzP 1000000 P)
    (HW1 : Hid (Calls Tryz.prog 63 #[.string s] w fun e w'' => ∃ v, e = .returned (.tuple #[v, .bool true]) ∧ IsVals w'' v ((bCross :: t).map Value.string) ∧ CapOk v ∧ Gr w w'')) :
    Calls Tryz.prog 38 #[.pointer (some ⟨b, 0, none⟩), .string s] w ((RetR 72 w0 b B (KL k h0) (some true)) (rowW P (bCross :: t))) := by
  have HRD := Lib.hid hR
  have hsm : ∀ y ∈ bCross :: t, y.size ≤ maxLen := fun y hy => by have := hs y hy; unfold maxLen; omega

  have hr : rowW P (bCross :: t) = elemW P (bCross :: t) := rfl
  rw [hr]
  have f0 : (bCross.toList == [112, 108, 97, 110]) = false := by rw [str_eqD lPlanL]; decide
  have f9 : (bCross.toList != [112, 108, 97, 110]) = true := by rw [str_neD lPlanL]; decide
  have f1 : (bCross.toList == [116, 114, 97, 99, 107]) = false := by rw [str_eqD lTrackL]; decide
  have f2 : (bCross.toList == [112, 111, 105, 110, 116, 115]) = false := by rw [str_eqD lPointsL]; decide
  have f3 : (bCross.toList == [99, 114, 111, 115, 115]) = true := by rw [str_eqD lCrossL]; decide
  have f4 : (bCross.toList == [103, 97, 116, 101]) = false := by rw [str_eqD lGateEL]; decide
  have f5 : (bCross.toList == [106, 111, 105, 110]) = false := by rw [str_eqD lJoinL]; decide
  have f6 : (bCross.toList == [115, 105, 103, 110, 97, 108]) = false := by rw [str_eqD lSignalL]; decide
  have f7 : (bCross.toList == [108, 105, 110, 101]) = false := by rw [str_eqD lLineL]; decide
  by_cases ht : t = []
  · subst ht
    rw [elemW_one]
    clear hR hK hs hsm hr
    go_enter Tryz.func38, Tryz.ntmps38
    go_wp2_with (first | ((go_at_call 63; (with_reducible refine (HW1.out).mono ?_); rintro e w1 ⟨v1, rfl, hv1, hc1, g1⟩; have HV1 := Lib.hid hv1; have HC1 := Lib.hid hc1; obtain ⟨bb, o, nn, cc, rfl, zy, hlm, y0, hi0, hn2, hn1⟩ := vals_cons hv1; have d9 := (HRD.out.gr g1).cell9.2.1; have zb := (HRD.out.gr g1).cell9.1; clear hv1 hc1); have hl2 := hn1.out rfl; subst hl2) | fail)
    go_ret
    exact RetR.no rfl (g.trans g1)
  · have HT0 := Lib.hid ht
    have HFI := Lib.hid (fun (v : Value) (w' : World) (h1 : IsVals w' v ((bCross :: t).map Value.string)) (h2 : CapOk v) (g' : Gr w w') => rdElem_any b B k h0 v bCross t P 0 w0 w' hb (g.trans g') (hK.gr g') hkB hkb (hR.gr g') h1 hsm (by decide) ht hz.es)
    clear hR hK hs hsm hr ht
    generalize elemW P (bCross :: t) = r at HFI ⊢
    cases r with
    | inl n =>
      have HT1 : Hid (∀ v w', IsVals w' v ((bCross :: t).map Value.string) → CapOk v → Gr w w' → Calls Tryz.prog 74 #[.pointer (some ⟨b, 0, none⟩), v] w' fun e w'' => e = .returned (.int .i64 n) ∧ Gr w0 w'') := HFI.out
      clear HFI
      go_enter Tryz.func38, Tryz.ntmps38
      go_wp2_with (first | ((go_at_call 63; (with_reducible refine (HW1.out).mono ?_); rintro e w1 ⟨v1, rfl, hv1, hc1, g1⟩; have HV1 := Lib.hid hv1; have HC1 := Lib.hid hc1; obtain ⟨bb, o, nn, cc, rfl, zy, hlm, y0, hi0, hn2, hn1⟩ := vals_cons hv1; have d9 := (HRD.out.gr g1).cell9.2.1; have zb := (HRD.out.gr g1).cell9.1; clear hv1 hc1); have hl2 := hn2.out HT0.out) | ((go_at_call 74; (with_reducible refine (HT1.out _ _ HV1.out HC1.out g1).mono ?_)); rintro e w4 ⟨rfl, g4⟩) | fail)
      go_ret
      exact RetR.no rfl g4
    | inr D =>
      have HT1 : Hid (∀ v w', IsVals w' v ((bCross :: t).map Value.string) → CapOk v → Gr w w' → Calls Tryz.prog 74 #[.pointer (some ⟨b, 0, none⟩), v] w' fun e w'' => e = .returned (.int .i64 0) ∧ Gr w0 w'' ∧ KL k h0 w'' ∧ RdP 72 b B w'' D (some true)) := HFI.out
      clear HFI
      go_enter Tryz.func38, Tryz.ntmps38
      go_wp2_with (first | ((go_at_call 63; (with_reducible refine (HW1.out).mono ?_); rintro e w1 ⟨v1, rfl, hv1, hc1, g1⟩; have HV1 := Lib.hid hv1; have HC1 := Lib.hid hc1; obtain ⟨bb, o, nn, cc, rfl, zy, hlm, y0, hi0, hn2, hn1⟩ := vals_cons hv1; have d9 := (HRD.out.gr g1).cell9.2.1; have zb := (HRD.out.gr g1).cell9.1; clear hv1 hc1); have hl2 := hn2.out HT0.out) | ((go_at_call 74; (with_reducible refine (HT1.out _ _ HV1.out HC1.out g1).mono ?_)); rintro e w4 ⟨rfl, g4, h4, k4⟩; have H4 := Lib.hid h4; have K4 := Lib.hid k4; clear h4 k4) | fail)
      go_ret
      exact RetR.yes rfl g4 H4.out K4.out
set_option maxRecDepth 100000 in
set_option maxHeartbeats 4000000 in
theorem rdTake_GateE (b B k : Nat) (h0 : Option Obj) (s : ByteArray) (t : List ByteArray) (P : Pln) (w0 w : World) (hb : w0.heap.size ≤ b) (g : Gr w0 w) (hK : KL k h0 w) (hkB : k < B) (hkb : k ≠ b) (hR : RdP 72 b B w P (some true)) (hs : ∀ y ∈ bGateE :: t, y.size ≤ 1048576) (hz : SzP 1000000 P)
    (HW1 : Hid (Calls Tryz.prog 63 #[.string s] w fun e w'' => ∃ v, e = .returned (.tuple #[v, .bool true]) ∧ IsVals w'' v ((bGateE :: t).map Value.string) ∧ CapOk v ∧ Gr w w'')) :
    Calls Tryz.prog 38 #[.pointer (some ⟨b, 0, none⟩), .string s] w ((RetR 72 w0 b B (KL k h0) (some true)) (rowW P (bGateE :: t))) := by
  have HRD := Lib.hid hR
  have hsm : ∀ y ∈ bGateE :: t, y.size ≤ maxLen := fun y hy => by have := hs y hy; unfold maxLen; omega

  have hr : rowW P (bGateE :: t) = elemW P (bGateE :: t) := rfl
  rw [hr]
  have f0 : (bGateE.toList == [112, 108, 97, 110]) = false := by rw [str_eqD lPlanL]; decide
  have f9 : (bGateE.toList != [112, 108, 97, 110]) = true := by rw [str_neD lPlanL]; decide
  have f1 : (bGateE.toList == [116, 114, 97, 99, 107]) = false := by rw [str_eqD lTrackL]; decide
  have f2 : (bGateE.toList == [112, 111, 105, 110, 116, 115]) = false := by rw [str_eqD lPointsL]; decide
  have f3 : (bGateE.toList == [99, 114, 111, 115, 115]) = false := by rw [str_eqD lCrossL]; decide
  have f4 : (bGateE.toList == [103, 97, 116, 101]) = true := by rw [str_eqD lGateEL]; decide
  have f5 : (bGateE.toList == [106, 111, 105, 110]) = false := by rw [str_eqD lJoinL]; decide
  have f6 : (bGateE.toList == [115, 105, 103, 110, 97, 108]) = false := by rw [str_eqD lSignalL]; decide
  have f7 : (bGateE.toList == [108, 105, 110, 101]) = false := by rw [str_eqD lLineL]; decide
  by_cases ht : t = []
  · subst ht
    rw [elemW_one]
    clear hR hK hs hsm hr
    go_enter Tryz.func38, Tryz.ntmps38
    go_wp2_with (first | ((go_at_call 63; (with_reducible refine (HW1.out).mono ?_); rintro e w1 ⟨v1, rfl, hv1, hc1, g1⟩; have HV1 := Lib.hid hv1; have HC1 := Lib.hid hc1; obtain ⟨bb, o, nn, cc, rfl, zy, hlm, y0, hi0, hn2, hn1⟩ := vals_cons hv1; have d9 := (HRD.out.gr g1).cell9.2.1; have zb := (HRD.out.gr g1).cell9.1; clear hv1 hc1); have hl2 := hn1.out rfl; subst hl2) | fail)
    go_ret
    exact RetR.no rfl (g.trans g1)
  · have HT0 := Lib.hid ht
    have HFI := Lib.hid (fun (v : Value) (w' : World) (h1 : IsVals w' v ((bGateE :: t).map Value.string)) (h2 : CapOk v) (g' : Gr w w') => rdElem_any b B k h0 v bGateE t P 0 w0 w' hb (g.trans g') (hK.gr g') hkB hkb (hR.gr g') h1 hsm (by decide) ht hz.es)
    clear hR hK hs hsm hr ht
    generalize elemW P (bGateE :: t) = r at HFI ⊢
    cases r with
    | inl n =>
      have HT1 : Hid (∀ v w', IsVals w' v ((bGateE :: t).map Value.string) → CapOk v → Gr w w' → Calls Tryz.prog 74 #[.pointer (some ⟨b, 0, none⟩), v] w' fun e w'' => e = .returned (.int .i64 n) ∧ Gr w0 w'') := HFI.out
      clear HFI
      go_enter Tryz.func38, Tryz.ntmps38
      go_wp2_with (first | ((go_at_call 63; (with_reducible refine (HW1.out).mono ?_); rintro e w1 ⟨v1, rfl, hv1, hc1, g1⟩; have HV1 := Lib.hid hv1; have HC1 := Lib.hid hc1; obtain ⟨bb, o, nn, cc, rfl, zy, hlm, y0, hi0, hn2, hn1⟩ := vals_cons hv1; have d9 := (HRD.out.gr g1).cell9.2.1; have zb := (HRD.out.gr g1).cell9.1; clear hv1 hc1); have hl2 := hn2.out HT0.out) | ((go_at_call 74; (with_reducible refine (HT1.out _ _ HV1.out HC1.out g1).mono ?_)); rintro e w4 ⟨rfl, g4⟩) | fail)
      go_ret
      exact RetR.no rfl g4
    | inr D =>
      have HT1 : Hid (∀ v w', IsVals w' v ((bGateE :: t).map Value.string) → CapOk v → Gr w w' → Calls Tryz.prog 74 #[.pointer (some ⟨b, 0, none⟩), v] w' fun e w'' => e = .returned (.int .i64 0) ∧ Gr w0 w'' ∧ KL k h0 w'' ∧ RdP 72 b B w'' D (some true)) := HFI.out
      clear HFI
      go_enter Tryz.func38, Tryz.ntmps38
      go_wp2_with (first | ((go_at_call 63; (with_reducible refine (HW1.out).mono ?_); rintro e w1 ⟨v1, rfl, hv1, hc1, g1⟩; have HV1 := Lib.hid hv1; have HC1 := Lib.hid hc1; obtain ⟨bb, o, nn, cc, rfl, zy, hlm, y0, hi0, hn2, hn1⟩ := vals_cons hv1; have d9 := (HRD.out.gr g1).cell9.2.1; have zb := (HRD.out.gr g1).cell9.1; clear hv1 hc1); have hl2 := hn2.out HT0.out) | ((go_at_call 74; (with_reducible refine (HT1.out _ _ HV1.out HC1.out g1).mono ?_)); rintro e w4 ⟨rfl, g4, h4, k4⟩; have H4 := Lib.hid h4; have K4 := Lib.hid k4; clear h4 k4) | fail)
      go_ret
      exact RetR.yes rfl g4 H4.out K4.out
set_option maxRecDepth 100000 in
set_option maxHeartbeats 4000000 in
theorem rdTake_Join (b B k : Nat) (h0 : Option Obj) (s : ByteArray) (t : List ByteArray) (P : Pln) (w0 w : World) (hb : w0.heap.size ≤ b) (g : Gr w0 w) (hK : KL k h0 w) (hkB : k < B) (hkb : k ≠ b) (hR : RdP 72 b B w P (some true)) (hs : ∀ y ∈ bJoin :: t, y.size ≤ 1048576) (hz : SzP 1000000 P)
    (HW1 : Hid (Calls Tryz.prog 63 #[.string s] w fun e w'' => ∃ v, e = .returned (.tuple #[v, .bool true]) ∧ IsVals w'' v ((bJoin :: t).map Value.string) ∧ CapOk v ∧ Gr w w'')) :
    Calls Tryz.prog 38 #[.pointer (some ⟨b, 0, none⟩), .string s] w ((RetR 72 w0 b B (KL k h0) (some true)) (rowW P (bJoin :: t))) := by
  have HRD := Lib.hid hR
  have hsm : ∀ y ∈ bJoin :: t, y.size ≤ maxLen := fun y hy => by have := hs y hy; unfold maxLen; omega

  have hr : rowW P (bJoin :: t) = joinW P (bJoin :: t) := rfl
  rw [hr]
  have f0 : (bJoin.toList == [112, 108, 97, 110]) = false := by rw [str_eqD lPlanL]; decide
  have f9 : (bJoin.toList != [112, 108, 97, 110]) = true := by rw [str_neD lPlanL]; decide
  have f1 : (bJoin.toList == [116, 114, 97, 99, 107]) = false := by rw [str_eqD lTrackL]; decide
  have f2 : (bJoin.toList == [112, 111, 105, 110, 116, 115]) = false := by rw [str_eqD lPointsL]; decide
  have f3 : (bJoin.toList == [99, 114, 111, 115, 115]) = false := by rw [str_eqD lCrossL]; decide
  have f4 : (bJoin.toList == [103, 97, 116, 101]) = false := by rw [str_eqD lGateEL]; decide
  have f5 : (bJoin.toList == [106, 111, 105, 110]) = true := by rw [str_eqD lJoinL]; decide
  have f6 : (bJoin.toList == [115, 105, 103, 110, 97, 108]) = false := by rw [str_eqD lSignalL]; decide
  have f7 : (bJoin.toList == [108, 105, 110, 101]) = false := by rw [str_eqD lLineL]; decide
  have HFI := Lib.hid (fun (v : Value) (w' : World) (h1 : IsVals w' v ((bJoin :: t).map Value.string)) (h2 : CapOk v) (g' : Gr w w') => rdJoin_any b B k h0 v (bJoin :: t) P w0 w' hb (g.trans g') (hK.gr g') hkB hkb (hR.gr g') h1 h2 (by simp) hs hz)
  clear hR hK hs hsm hr
  generalize joinW P (bJoin :: t) = r at HFI ⊢
  cases r with
  | inl n =>
    have HT1 : Hid (∀ v w', IsVals w' v ((bJoin :: t).map Value.string) → CapOk v → Gr w w' → Calls Tryz.prog 75 #[.pointer (some ⟨b, 0, none⟩), v] w' fun e w'' => e = .returned (.int .i64 n) ∧ Gr w0 w'') := HFI.out
    clear HFI
    go_enter Tryz.func38, Tryz.ntmps38
    go_wp2_with (first | (go_at_call 63; (with_reducible refine (HW1.out).mono ?_); rintro e w1 ⟨v1, rfl, hv1, hc1, g1⟩; have HV1 := Lib.hid hv1; have HC1 := Lib.hid hc1; obtain ⟨bb, o, nn, cc, rfl, zy, hlm, y0, hi0, hn2, hn1⟩ := vals_cons hv1; have d9 := (HRD.out.gr g1).cell9.2.1; have zb := (HRD.out.gr g1).cell9.1; clear hv1 hc1) | ((go_at_call 75; (with_reducible refine (HT1.out _ _ HV1.out HC1.out g1).mono ?_)); rintro e w4 ⟨rfl, g4⟩) | fail)
    go_ret
    exact RetR.no rfl g4
  | inr D =>
    have HT1 : Hid (∀ v w', IsVals w' v ((bJoin :: t).map Value.string) → CapOk v → Gr w w' → Calls Tryz.prog 75 #[.pointer (some ⟨b, 0, none⟩), v] w' fun e w'' => e = .returned (.int .i64 0) ∧ Gr w0 w'' ∧ KL k h0 w'' ∧ RdP 72 b B w'' D (some true)) := HFI.out
    clear HFI
    go_enter Tryz.func38, Tryz.ntmps38
    go_wp2_with (first | (go_at_call 63; (with_reducible refine (HW1.out).mono ?_); rintro e w1 ⟨v1, rfl, hv1, hc1, g1⟩; have HV1 := Lib.hid hv1; have HC1 := Lib.hid hc1; obtain ⟨bb, o, nn, cc, rfl, zy, hlm, y0, hi0, hn2, hn1⟩ := vals_cons hv1; have d9 := (HRD.out.gr g1).cell9.2.1; have zb := (HRD.out.gr g1).cell9.1; clear hv1 hc1) | ((go_at_call 75; (with_reducible refine (HT1.out _ _ HV1.out HC1.out g1).mono ?_)); rintro e w4 ⟨rfl, g4, h4, k4⟩; have H4 := Lib.hid h4; have K4 := Lib.hid k4; clear h4 k4) | fail)
    go_ret
    exact RetR.yes rfl g4 H4.out K4.out
set_option maxRecDepth 100000 in
set_option maxHeartbeats 4000000 in
theorem rdTake_Signal (b B k : Nat) (h0 : Option Obj) (s : ByteArray) (t : List ByteArray) (P : Pln) (w0 w : World) (hb : w0.heap.size ≤ b) (g : Gr w0 w) (hK : KL k h0 w) (hkB : k < B) (hkb : k ≠ b) (hR : RdP 72 b B w P (some true)) (hs : ∀ y ∈ bSignal :: t, y.size ≤ 1048576) (hz : SzP 1000000 P)
    (HW1 : Hid (Calls Tryz.prog 63 #[.string s] w fun e w'' => ∃ v, e = .returned (.tuple #[v, .bool true]) ∧ IsVals w'' v ((bSignal :: t).map Value.string) ∧ CapOk v ∧ Gr w w'')) :
    Calls Tryz.prog 38 #[.pointer (some ⟨b, 0, none⟩), .string s] w ((RetR 72 w0 b B (KL k h0) (some true)) (rowW P (bSignal :: t))) := by
  have HRD := Lib.hid hR
  have hsm : ∀ y ∈ bSignal :: t, y.size ≤ maxLen := fun y hy => by have := hs y hy; unfold maxLen; omega

  have hr : rowW P (bSignal :: t) = signalW P (bSignal :: t) := rfl
  rw [hr]
  have f0 : (bSignal.toList == [112, 108, 97, 110]) = false := by rw [str_eqD lPlanL]; decide
  have f9 : (bSignal.toList != [112, 108, 97, 110]) = true := by rw [str_neD lPlanL]; decide
  have f1 : (bSignal.toList == [116, 114, 97, 99, 107]) = false := by rw [str_eqD lTrackL]; decide
  have f2 : (bSignal.toList == [112, 111, 105, 110, 116, 115]) = false := by rw [str_eqD lPointsL]; decide
  have f3 : (bSignal.toList == [99, 114, 111, 115, 115]) = false := by rw [str_eqD lCrossL]; decide
  have f4 : (bSignal.toList == [103, 97, 116, 101]) = false := by rw [str_eqD lGateEL]; decide
  have f5 : (bSignal.toList == [106, 111, 105, 110]) = false := by rw [str_eqD lJoinL]; decide
  have f6 : (bSignal.toList == [115, 105, 103, 110, 97, 108]) = true := by rw [str_eqD lSignalL]; decide
  have f7 : (bSignal.toList == [108, 105, 110, 101]) = false := by rw [str_eqD lLineL]; decide
  have HFI := Lib.hid (fun (v : Value) (w' : World) (h1 : IsVals w' v ((bSignal :: t).map Value.string)) (h2 : CapOk v) (g' : Gr w w') => rdSignal_any b B k h0 v (bSignal :: t) P w0 w' hb (g.trans g') (hK.gr g') hkB hkb (hR.gr g') h1 (by simp) hs hz)
  clear hR hK hs hsm hr
  generalize signalW P (bSignal :: t) = r at HFI ⊢
  cases r with
  | inl n =>
    have HT1 : Hid (∀ v w', IsVals w' v ((bSignal :: t).map Value.string) → CapOk v → Gr w w' → Calls Tryz.prog 76 #[.pointer (some ⟨b, 0, none⟩), v] w' fun e w'' => e = .returned (.int .i64 n) ∧ Gr w0 w'') := HFI.out
    clear HFI
    go_enter Tryz.func38, Tryz.ntmps38
    go_wp2_with (first | (go_at_call 63; (with_reducible refine (HW1.out).mono ?_); rintro e w1 ⟨v1, rfl, hv1, hc1, g1⟩; have HV1 := Lib.hid hv1; have HC1 := Lib.hid hc1; obtain ⟨bb, o, nn, cc, rfl, zy, hlm, y0, hi0, hn2, hn1⟩ := vals_cons hv1; have d9 := (HRD.out.gr g1).cell9.2.1; have zb := (HRD.out.gr g1).cell9.1; clear hv1 hc1) | ((go_at_call 76; (with_reducible refine (HT1.out _ _ HV1.out HC1.out g1).mono ?_)); rintro e w4 ⟨rfl, g4⟩) | fail)
    go_ret
    exact RetR.no rfl g4
  | inr D =>
    have HT1 : Hid (∀ v w', IsVals w' v ((bSignal :: t).map Value.string) → CapOk v → Gr w w' → Calls Tryz.prog 76 #[.pointer (some ⟨b, 0, none⟩), v] w' fun e w'' => e = .returned (.int .i64 0) ∧ Gr w0 w'' ∧ KL k h0 w'' ∧ RdP 72 b B w'' D (some true)) := HFI.out
    clear HFI
    go_enter Tryz.func38, Tryz.ntmps38
    go_wp2_with (first | (go_at_call 63; (with_reducible refine (HW1.out).mono ?_); rintro e w1 ⟨v1, rfl, hv1, hc1, g1⟩; have HV1 := Lib.hid hv1; have HC1 := Lib.hid hc1; obtain ⟨bb, o, nn, cc, rfl, zy, hlm, y0, hi0, hn2, hn1⟩ := vals_cons hv1; have d9 := (HRD.out.gr g1).cell9.2.1; have zb := (HRD.out.gr g1).cell9.1; clear hv1 hc1) | ((go_at_call 76; (with_reducible refine (HT1.out _ _ HV1.out HC1.out g1).mono ?_)); rintro e w4 ⟨rfl, g4, h4, k4⟩; have H4 := Lib.hid h4; have K4 := Lib.hid k4; clear h4 k4) | fail)
    go_ret
    exact RetR.yes rfl g4 H4.out K4.out
set_option maxRecDepth 100000 in
set_option maxHeartbeats 4000000 in
theorem rdTake_Line (b B k : Nat) (h0 : Option Obj) (s : ByteArray) (t : List ByteArray) (P : Pln) (w0 w : World) (hb : w0.heap.size ≤ b) (g : Gr w0 w) (hK : KL k h0 w) (hkB : k < B) (hkb : k ≠ b) (hR : RdP 72 b B w P (some true)) (hs : ∀ y ∈ bLine :: t, y.size ≤ 1048576) (hz : SzP 1000000 P)
    (HW1 : Hid (Calls Tryz.prog 63 #[.string s] w fun e w'' => ∃ v, e = .returned (.tuple #[v, .bool true]) ∧ IsVals w'' v ((bLine :: t).map Value.string) ∧ CapOk v ∧ Gr w w'')) :
    Calls Tryz.prog 38 #[.pointer (some ⟨b, 0, none⟩), .string s] w ((RetR 72 w0 b B (KL k h0) (some true)) (rowW P (bLine :: t))) := by
  have HRD := Lib.hid hR
  have hsm : ∀ y ∈ bLine :: t, y.size ≤ maxLen := fun y hy => by have := hs y hy; unfold maxLen; omega

  have hr : rowW P (bLine :: t) = lineWd P (bLine :: t) := rfl
  rw [hr]
  have f0 : (bLine.toList == [112, 108, 97, 110]) = false := by rw [str_eqD lPlanL]; decide
  have f9 : (bLine.toList != [112, 108, 97, 110]) = true := by rw [str_neD lPlanL]; decide
  have f1 : (bLine.toList == [116, 114, 97, 99, 107]) = false := by rw [str_eqD lTrackL]; decide
  have f2 : (bLine.toList == [112, 111, 105, 110, 116, 115]) = false := by rw [str_eqD lPointsL]; decide
  have f3 : (bLine.toList == [99, 114, 111, 115, 115]) = false := by rw [str_eqD lCrossL]; decide
  have f4 : (bLine.toList == [103, 97, 116, 101]) = false := by rw [str_eqD lGateEL]; decide
  have f5 : (bLine.toList == [106, 111, 105, 110]) = false := by rw [str_eqD lJoinL]; decide
  have f6 : (bLine.toList == [115, 105, 103, 110, 97, 108]) = false := by rw [str_eqD lSignalL]; decide
  have f7 : (bLine.toList == [108, 105, 110, 101]) = true := by rw [str_eqD lLineL]; decide
  have HFI := Lib.hid (fun (v : Value) (w' : World) (h1 : IsVals w' v ((bLine :: t).map Value.string)) (h2 : CapOk v) (g' : Gr w w') => rdLine_any b B k h0 v bLine t P w0 w' hb (g.trans g') (hK.gr g') hkB hkb (hR.gr g') h1 h2 (fun y hy => hsm y (by simp [hy])) hz)
  clear hR hK hs hsm hr
  generalize lineWd P (bLine :: t) = r at HFI ⊢
  cases r with
  | inl n =>
    have HT1 : Hid (∀ v w', IsVals w' v ((bLine :: t).map Value.string) → CapOk v → Gr w w' → Calls Tryz.prog 77 #[.pointer (some ⟨b, 0, none⟩), v] w' fun e w'' => e = .returned (.int .i64 n) ∧ Gr w0 w'') := HFI.out
    clear HFI
    go_enter Tryz.func38, Tryz.ntmps38
    go_wp2_with (first | (go_at_call 63; (with_reducible refine (HW1.out).mono ?_); rintro e w1 ⟨v1, rfl, hv1, hc1, g1⟩; have HV1 := Lib.hid hv1; have HC1 := Lib.hid hc1; obtain ⟨bb, o, nn, cc, rfl, zy, hlm, y0, hi0, hn2, hn1⟩ := vals_cons hv1; have d9 := (HRD.out.gr g1).cell9.2.1; have zb := (HRD.out.gr g1).cell9.1; clear hv1 hc1) | ((go_at_call 77; (with_reducible refine (HT1.out _ _ HV1.out HC1.out g1).mono ?_)); rintro e w4 ⟨rfl, g4⟩) | fail)
    go_ret
    exact RetR.no rfl g4
  | inr D =>
    have HT1 : Hid (∀ v w', IsVals w' v ((bLine :: t).map Value.string) → CapOk v → Gr w w' → Calls Tryz.prog 77 #[.pointer (some ⟨b, 0, none⟩), v] w' fun e w'' => e = .returned (.int .i64 0) ∧ Gr w0 w'' ∧ KL k h0 w'' ∧ RdP 72 b B w'' D (some true)) := HFI.out
    clear HFI
    go_enter Tryz.func38, Tryz.ntmps38
    go_wp2_with (first | (go_at_call 63; (with_reducible refine (HW1.out).mono ?_); rintro e w1 ⟨v1, rfl, hv1, hc1, g1⟩; have HV1 := Lib.hid hv1; have HC1 := Lib.hid hc1; obtain ⟨bb, o, nn, cc, rfl, zy, hlm, y0, hi0, hn2, hn1⟩ := vals_cons hv1; have d9 := (HRD.out.gr g1).cell9.2.1; have zb := (HRD.out.gr g1).cell9.1; clear hv1 hc1) | ((go_at_call 77; (with_reducible refine (HT1.out _ _ HV1.out HC1.out g1).mono ?_)); rintro e w4 ⟨rfl, g4, h4, k4⟩; have H4 := Lib.hid h4; have K4 := Lib.hid k4; clear h4 k4) | fail)
    go_ret
    exact RetR.yes rfl g4 H4.out K4.out
set_option maxRecDepth 100000 in
set_option maxHeartbeats 4000000 in
theorem rdTake_other (b B k : Nat) (h0 : Option Obj) (s : ByteArray) (x : ByteArray) (t : List ByteArray) (P : Pln) (w0 w : World) (hb : w0.heap.size ≤ b) (g : Gr w0 w) (hK : KL k h0 w) (hkB : k < B) (hkb : k ≠ b) (hR : RdP 72 b B w P (some true)) (hs : ∀ y ∈ x :: t, y.size ≤ 1048576) (hz : SzP 1000000 P)
    (q0 : x ≠ bPlan) (q1 : x ≠ bTrack) (q2 : x ≠ bPoints) (q3 : x ≠ bCross) (q4 : x ≠ bGateE) (q5 : x ≠ bJoin) (q6 : x ≠ bSignal) (q7 : x ≠ bLine) 
    (HW1 : Hid (Calls Tryz.prog 63 #[.string s] w fun e w'' => ∃ v, e = .returned (.tuple #[v, .bool true]) ∧ IsVals w'' v ((x :: t).map Value.string) ∧ CapOk v ∧ Gr w w'')) :
    Calls Tryz.prog 38 #[.pointer (some ⟨b, 0, none⟩), .string s] w ((RetR 72 w0 b B (KL k h0) (some true)) (rowW P (x :: t))) := by
  have HRD := Lib.hid hR
  have hsm : ∀ y ∈ x :: t, y.size ≤ maxLen := fun y hy => by have := hs y hy; unfold maxLen; omega

  have hr : rowW P (x :: t) = .inl 2 := by unfold rowW; dsimp only; rw [if_neg (by rw [kindW_no q1 q2 q3 q4]; simp), if_neg q5, if_neg q6, if_neg q7]
  rw [hr]
  have f0 : (x.toList == [112, 108, 97, 110]) = false := by rw [str_eqD lPlanL, decide_eq_false q0]
  have f1 : (x.toList == [116, 114, 97, 99, 107]) = false := by rw [str_eqD lTrackL, decide_eq_false q1]
  have f2 : (x.toList == [112, 111, 105, 110, 116, 115]) = false := by rw [str_eqD lPointsL, decide_eq_false q2]
  have f3 : (x.toList == [99, 114, 111, 115, 115]) = false := by rw [str_eqD lCrossL, decide_eq_false q3]
  have f4 : (x.toList == [103, 97, 116, 101]) = false := by rw [str_eqD lGateEL, decide_eq_false q4]
  have f5 : (x.toList == [106, 111, 105, 110]) = false := by rw [str_eqD lJoinL, decide_eq_false q5]
  have f6 : (x.toList == [115, 105, 103, 110, 97, 108]) = false := by rw [str_eqD lSignalL, decide_eq_false q6]
  have f7 : (x.toList == [108, 105, 110, 101]) = false := by rw [str_eqD lLineL, decide_eq_false q7]
  have f9 : (x.toList != [112, 108, 97, 110]) = true := by rw [str_neD lPlanL, decide_eq_false q0]; rfl
  clear hR hK hs hsm hr q0 q1 q2 q3 q4 q5 q6 q7
  go_enter Tryz.func38, Tryz.ntmps38
  go_wp2_with (first | (go_at_call 63; (with_reducible refine (HW1.out).mono ?_); rintro e w1 ⟨v1, rfl, hv1, hc1, g1⟩; have HV1 := Lib.hid hv1; have HC1 := Lib.hid hc1; obtain ⟨bb, o, nn, cc, rfl, zy, hlm, y0, hi0, hn2, hn1⟩ := vals_cons hv1; have d9 := (HRD.out.gr g1).cell9.2.1; have zb := (HRD.out.gr g1).cell9.1; clear hv1 hc1) | fail)
  go_ret
  exact RetR.no rfl (g.trans g1)
set_option maxRecDepth 100000 in
set_option maxHeartbeats 1000000 in
theorem rdTake_any (b B k : Nat) (h0 : Option Obj) (s : ByteArray) (S : Option Pln) (w0 w : World) (ht : w.ShapedOpen Tryz.prog) (hb : w0.heap.size ≤ b) (g : Gr w0 w) (hK : KL k h0 w) (hkB : k < B) (hkb : k ≠ b) (hR : RdP 72 b B w (S.getD pln0) (some S.isSome)) (hs : s.size ≤ 1048576) (hz : SzO 1000000 S) :
    Calls Tryz.prog 38 #[.pointer (some ⟨b, 0, none⟩), .string s] w ((RetR 72 w0 b B (KL k h0) (some true)) (takeR S s)) := by
  have HW := words_cap s hs w ht
  unfold takeR
  cases hw : wdB s with
  | none =>
    dsimp only
    have HW1 : Hid (Calls Tryz.prog 63 #[.string s] w fun e w'' => ∃ v, e = .returned (.tuple #[v, .bool false]) ∧ Gr w w'') := by
      rw [hw] at HW
      exact HW.mono fun e w2 ⟨v, he, _, _, hg⟩ => ⟨v, he, hg⟩
    clear HW hw hz hR hK
    go_enter Tryz.func38, Tryz.ntmps38
    go_wp2_with (first | (go_at_call 63; (with_reducible refine (HW1.out).mono ?_); rintro e w4 ⟨v4, rfl, g4⟩) | fail)
    go_ret
    exact RetR.no rfl (g.trans g4)
  | some L =>
    dsimp only
    have HW1 : Hid (Calls Tryz.prog 63 #[.string s] w fun e w'' => ∃ v, e = .returned (.tuple #[v, .bool true]) ∧ IsVals w'' v (L.map Value.string) ∧ CapOk v ∧ Gr w w'') := by
      rw [hw] at HW
      exact HW
    obtain ⟨hne, -, hsz⟩ := wdS_ne hw
    have hsm : ∀ x ∈ L, x.size ≤ 1048576 := fun x hx => by have := hsz x hx; omega
    cases L with
    | nil => exact absurd rfl hne
    | cons x t =>
    unfold takeL
    cases S with
    | none => exact rdTake_none b B k h0 s x t w0 w hb g hK hkB hkb hR hsm HW1
    | some P =>
      have hP := hz P rfl
      dsimp only
      by_cases q0 : x = bPlan
      · subst q0; exact rdTake_plan b B k h0 s t P w0 w hb g hK hkB hkb hR hsm hP HW1
      by_cases q1 : x = bTrack
      · subst q1; exact rdTake_Track b B k h0 s t P w0 w hb g hK hkB hkb hR hsm hP HW1
      by_cases q2 : x = bPoints
      · subst q2; exact rdTake_Points b B k h0 s t P w0 w hb g hK hkB hkb hR hsm hP HW1
      by_cases q3 : x = bCross
      · subst q3; exact rdTake_Cross b B k h0 s t P w0 w hb g hK hkB hkb hR hsm hP HW1
      by_cases q4 : x = bGateE
      · subst q4; exact rdTake_GateE b B k h0 s t P w0 w hb g hK hkB hkb hR hsm hP HW1
      by_cases q5 : x = bJoin
      · subst q5; exact rdTake_Join b B k h0 s t P w0 w hb g hK hkB hkb hR hsm hP HW1
      by_cases q6 : x = bSignal
      · subst q6; exact rdTake_Signal b B k h0 s t P w0 w hb g hK hkB hkb hR hsm hP HW1
      by_cases q7 : x = bLine
      · subst q7; exact rdTake_Line b B k h0 s t P w0 w hb g hK hkB hkb hR hsm hP HW1
      exact rdTake_other b B k h0 s x t P w0 w hb g hK hkB hkb hR hsm hP q0 q1 q2 q3 q4 q5 q6 q7 HW1
end Go.Proofs.YtknmngejjoohdaaGreatDoor
