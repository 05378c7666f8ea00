/- (*reader).first. -/
import Derived.Test.YtknmngejjoohdaaGreatDoorRows
import Derived.Test.YtknmngejjoohdaaGreatDoorB22
import Derived.Test.YtknmngejjoohdaaGreatDoorB12
import Derived.Test.YtknmngejjoohdaaGreatDoorB18
import Derived.Deep.RegionLaw
namespace Go.Proofs.YtknmngejjoohdaaGreatDoor
open Go.ChangeShapes Go.WideShapes Go.ChangeAt Go.RowKit Go.Maps
set_option linter.unusedVariables false
set_option linter.unusedSimpArgs false
theorem vals_form {w : World} {v : Value} {L : List ByteArray} (h : IsVals w v (L.map Value.string)) (hne : L ≠ []) :
    ∃ bb o c, v = .slice (some ⟨bb, o, none⟩) L.length c ∧ bb < w.heap.size ∧ L.length ≤ maxLen ∧ Hid (∀ i (hi : i < L.length), w.cell? ⟨bb, o + i, none⟩ = some (.string L[i])) := by
  obtain ⟨a', c', rfl, hm, hx⟩ := h
  rw [List.length_map] at hm ⊢
  rcases hx with hx | ⟨bb, o, rfl, hbb, hcell⟩
  · exact absurd (List.length_eq_zero_iff.1 (by simpa using hx)) hne
  · exact ⟨bb, o, c', rfl, hbb, hm, fun i hi => hcell i _ (by simp [hi])⟩
theorem RdP.box {T : TypeId} {b B : Nat} {w : World} {P : Pln} {q : Bool} (h : RdP T b B w P (some q)) : b < w.heap.size ∧ w.cell? ⟨b, 4, none⟩ = some (.int .i64 P.top) ∧ w.cell? ⟨b, 5, none⟩ = some (.int .i64 P.brake) ∧ w.cell? ⟨b, 6, none⟩ = some (.int .i64 P.margin) ∧ w.cell? ⟨b, 7, none⟩ = some (.int .i64 P.throw) ∧ w.cell? ⟨b, 8, none⟩ = some (.bool P.hard) ∧ w.cell? ⟨b, 9, none⟩ = some (.bool q) ∧
    w.frozen? ⟨b, 4, none⟩ = false ∧ w.frozen? ⟨b, 5, none⟩ = false ∧ w.frozen? ⟨b, 6, none⟩ = false ∧ w.frozen? ⟨b, 7, none⟩ = false ∧ w.frozen? ⟨b, 8, none⟩ = false ∧ w.frozen? ⟨b, 9, none⟩ = false := by
  obtain ⟨e, j, s, l, h1, h2⟩ := h
  have f := h1.frozen
  obtain ⟨-, ⟨z, c0, c1, c2, c3, c4, c5, c6, c7, c8⟩, hm⟩ := id h1
  exact ⟨z, c4, c5, c6, c7, c8, hm q rfl, f 4, f 5, f 6, f 7, f 8, f 9⟩
theorem softL : bSoft.toList = [115, 111, 102, 116] := by rw [ByteArray.toList_eq]; rfl
theorem hardL : bHard.toList = [104, 97, 114, 100] := by rw [ByteArray.toList_eq]; rfl
theorem str_eqD {x y : ByteArray} {l : List UInt8} (hy : y.toList = l) : (x.toList == l) = decide (x = y) := by
  by_cases h : x = y
  · subst h; rw [hy]; simp
  · rw [← hy, str_ne h]; simp [h]
theorem str_neD {x y : ByteArray} {l : List UInt8} (hy : y.toList = l) : (x.toList != l) = !decide (x = y) := by
  rw [← str_eqD hy]; rfl
def firstR (L : List ByteArray) : Int ⊕ Pln := match headW L with | none => .inl 2 | some h => .inr (withH pln0 h)
theorem firstR_len {t : List ByteArray} (h : t.length + 1 ≠ 6) : firstR (bPlan :: t) = .inl 2 := by
  match t, h with
  | [], _ => rfl
  | [_], _ => rfl
  | [_, _], _ => rfl
  | [_, _, _], _ => rfl
  | [_, _, _, _], _ => rfl
  | [_, _, _, _, _], h => exact absurd rfl h
  | _ :: _ :: _ :: _ :: _ :: _ :: _, _ => rfl
theorem firstR_six (a b c d h : ByteArray) : firstR [bPlan, a, b, c, d, h] = if (h = bSoft ∨ h = bHard) ∧ numB a 5 = true ∧ numB b 5 = true ∧ numB c 5 = true ∧ numB d 5 = true then .inr (withH pln0 (numN a 5, numN b 5, numN c 5, numN d 5, decide (h = bHard))) else .inl 2 := by
  show (match (if bPlan = bPlan ∧ (h = bSoft ∨ h = bHard) ∧ numB a 5 = true ∧ numB b 5 = true ∧ numB c 5 = true ∧ numB d 5 = true then some (numN a 5, numN b 5, numN c 5, numN d 5, decide (h = bHard)) else none) with | none => .inl 2 | some h => .inr (withH pln0 h) : Int ⊕ Pln) = _
  by_cases hh : (h = bSoft ∨ h = bHard) ∧ numB a 5 = true ∧ numB b 5 = true ∧ numB c 5 = true ∧ numB d 5 = true
  · rw [if_pos hh, if_pos ⟨rfl, hh⟩]
  · rw [if_neg hh, if_neg (fun e => hh e.2)]
set_option maxRecDepth 100000 in
set_option maxHeartbeats 1000000 in
theorem rdFirst_has (b B k : Nat) (h0 : Option Obj) (v : Value) (L : List ByteArray) (P : Pln) (w0 w : World) (g : Gr w0 w) (hR : RdP 72 b B w P (some true)) (hv : IsVals w v (L.map Value.string)) :
    Calls Tryz.prog 73 #[.pointer (some ⟨b, 0, none⟩), v] w ((RetR 72 w0 b B (KL k h0) (some true)) (.inl 2)) := by
  have HR : Hid ((.inl 2 : Int ⊕ Pln) = .inl 2) := rfl
  have HG := g
  obtain ⟨z, d4, d5, d6, d7, d8, d9, f4, f5, f6, f7, f8, f9⟩ := hR.box
  clear hR
  go_enter Tryz.func73, Tryz.ntmps73
  go_wp2_with fail
  (go_ret; first | exact RetR.no rfl HG | exact RetR.no HR.out HG)
set_option maxRecDepth 100000 in
set_option maxHeartbeats 4000000 in
theorem rdFirst_any (b B k : Nat) (h0 : Option Obj) (v : Value) (t : List ByteArray) (w0 w : World) (hb : w0.heap.size ≤ b) (g : Gr w0 w) (hK : KL k h0 w) (hkb : k ≠ b) (hR : RdP 72 b B w pln0 (some false)) (hv : IsVals w v ((bPlan :: t).map Value.string)) (hs : ∀ x ∈ t, x.size ≤ maxLen) :
    Calls Tryz.prog 73 #[.pointer (some ⟨b, 0, none⟩), v] w ((RetR 72 w0 b B (KL k h0) (some true)) (firstR (bPlan :: t))) := by
  have HG := g
  obtain ⟨bb, o, c, rfl, hbb, hlm, HC⟩ := vals_form hv (by simp)
  simp only [List.length_cons] at hlm ⊢
  unfold maxLen at hlm
  obtain ⟨z, d4, d5, d6, d7, d8, d9, f4, f5, f6, f7, f8, f9⟩ := hR.box
  by_cases h6 : t.length + 1 = 6
  rotate_left
  · have HR := Lib.hid (firstR_len h6)
    clear hv HC
    generalize t.length + 1 = n at *
    have t6 : ((n : Int) != 6) = true := bneT (by omega)
    clear hR h6
    go_enter Tryz.func73, Tryz.ntmps73
    go_wp2_with fail
    (go_ret; first | exact RetR.no rfl HG | exact RetR.no HR.out HG)
  obtain ⟨xa, xb, xc, xd, xh, rfl⟩ : ∃ a b c d h, t = [a, b, c, d, h] := by
    match t, h6 with
    | [a, b, c, d, h], _ => exact ⟨a, b, c, d, h, rfl⟩
  have y1 : w.cell? ⟨bb, o + 1, none⟩ = some (.string xa) := HC.out 1 (by simp)
  have y2 : w.cell? ⟨bb, o + 2, none⟩ = some (.string xb) := HC.out 2 (by simp)
  have y3 : w.cell? ⟨bb, o + 3, none⟩ = some (.string xc) := HC.out 3 (by simp)
  have y4 : w.cell? ⟨bb, o + 4, none⟩ = some (.string xd) := HC.out 4 (by simp)
  have y5 : w.cell? ⟨bb, o + 5, none⟩ = some (.string xh) := HC.out 5 (by simp)
  have hfar : bb ≠ b := hR.far y1
  have ha : xa.size ≤ maxLen := hs xa (by simp)
  have hb' : xb.size ≤ maxLen := hs xb (by simp)
  have hc : xc.size ≤ maxLen := hs xc (by simp)
  have hd : xd.size ≤ maxLen := hs xd (by simp)
  have HN1 := Lib.hid (fun w' => number_any xa 5 ha w')
  have HN2 := Lib.hid (fun w' => number_any xb 5 hb' w')
  have HN3 := Lib.hid (fun w' => number_any xc 5 hc w')
  have HN4 := Lib.hid (fun w' => number_any xd 5 hd w')
  have hF := firstR_six xa xb xc xd xh
  generalize firstR [bPlan, xa, xb, xc, xd, xh] = R at hF ⊢
  generalize numB xa 5 = q1 at *
  generalize numN xa 5 = n1 at *
  generalize numB xb 5 = q2 at *
  generalize numN xb 5 = n2 at *
  generalize numB xc 5 = q3 at *
  generalize numN xc 5 = n3 at *
  generalize numB xd 5 = q4 at *
  generalize numN xd 5 = n4 at *
  have HF := Lib.hid hF
  have e1 := str_neD (x := xh) softL
  have e2 := str_neD (x := xh) hardL
  have e3 := str_eqD (x := xh) hardL
  have e4 := str_eqD (x := xh) softL
  clear hF ha hb' hc hd hs HC hv
  simp only [List.length_cons, List.length_nil] at *
  by_cases hh : xh = bSoft ∨ xh = bHard
  rotate_left
  · have HR : Hid (R = .inl 2) := by show _ = _; rw [HF.out, if_neg (fun e => hh e.1)]
    rw [decide_eq_false (fun e => hh (.inl e))] at e1 e4
    rw [decide_eq_false (fun e => hh (.inr e))] at e2 e3
    simp only [Bool.not_false] at e1 e2
    clear hR hh h6 HF
    go_enter Tryz.func73, Tryz.ntmps73
    go_wp2_with fail
    (go_ret; first | exact RetR.no rfl HG | exact RetR.no HR.out HG)
  have HF1 : Hid (R = if q1 = true ∧ q2 = true ∧ q3 = true ∧ q4 = true then .inr (withH pln0 (n1, n2, n3, n4, decide (xh = bHard))) else .inl 2) := by
    show _ = _
    rw [HF.out]
    by_cases h : q1 = true ∧ q2 = true ∧ q3 = true ∧ q4 = true
    · rw [if_pos h, if_pos ⟨hh, h⟩]
    · rw [if_neg h, if_neg (fun e => h e.2)]
  have hcase : ∃ p : Bool, decide (xh = bHard) = p ∧ (decide (xh = bSoft) = !p) := by
    rcases hh with rfl | rfl
    · exact ⟨false, by decide, by decide⟩
    · exact ⟨true, by decide, by decide⟩
  obtain ⟨p, hp1, hp2⟩ := hcase
  rw [hp1] at e2 e3 HF1
  rw [hp2] at e1 e4
  clear HF hh hp1 hp2 h6
  have HRD := Lib.hid hR
  have HKK := Lib.hid hK
  clear hR hK
  have tp : ((!(!p)) && !p) = false := by cases p <;> rfl
  have tp2 : (if (!(!p)) = true then !p else false) = false := by cases p <;> rfl
  have hbw : b ≠ w.heap.size := Nat.ne_of_lt z
  have hz1 : w.heap.size < ((w.alloc (.cells #[.pointer (some ⟨b, 4, none⟩), .pointer (some ⟨b, 5, none⟩), .pointer (some ⟨b, 6, none⟩), .pointer (some ⟨b, 7, none⟩)] 184)).drew).heap.size := by simp
  have hbb1 : bb < ((w.alloc (.cells #[.pointer (some ⟨b, 4, none⟩), .pointer (some ⟨b, 5, none⟩), .pointer (some ⟨b, 6, none⟩), .pointer (some ⟨b, 7, none⟩)] 184)).drew).heap.size := by simp; omega
  have GQ : Gr w (w.alloc (.cells #[.pointer (some ⟨b, 4, none⟩), .pointer (some ⟨b, 5, none⟩), .pointer (some ⟨b, 6, none⟩), .pointer (some ⟨b, 7, none⟩)] 184)).drew := ((Gr.refl _).alloc _).drew
  have HT : Hid (∀ wr, Fb b (w.alloc (.cells #[.pointer (some ⟨b, 4, none⟩), .pointer (some ⟨b, 5, none⟩), .pointer (some ⟨b, 6, none⟩), .pointer (some ⟨b, 7, none⟩)] 184)).drew wr → w.heap.size < wr.heap.size ∧ bb < wr.heap.size ∧ wr.cell? ⟨w.heap.size, 0, none⟩ = some (.pointer (some ⟨b, 4, none⟩)) ∧ wr.cell? ⟨w.heap.size, 1, none⟩ = some (.pointer (some ⟨b, 5, none⟩)) ∧ wr.cell? ⟨w.heap.size, 2, none⟩ = some (.pointer (some ⟨b, 6, none⟩)) ∧ wr.cell? ⟨w.heap.size, 3, none⟩ = some (.pointer (some ⟨b, 7, none⟩)) ∧ wr.cell? ⟨bb, o + 1, none⟩ = some (.string xa) ∧ wr.cell? ⟨bb, o + 2, none⟩ = some (.string xb) ∧ wr.cell? ⟨bb, o + 3, none⟩ = some (.string xc) ∧ wr.cell? ⟨bb, o + 4, none⟩ = some (.string xd) ∧ wr.cell? ⟨bb, o + 5, none⟩ = some (.string xh)) := fun wr h =>
    ⟨h.lt hz1, h.lt hbb1, (h.cell _ (Ne.symm hbw) hz1).trans (by go_simp), (h.cell _ (Ne.symm hbw) hz1).trans (by go_simp), (h.cell _ (Ne.symm hbw) hz1).trans (by go_simp), (h.cell _ (Ne.symm hbw) hz1).trans (by go_simp), ((h.cell _ hfar hbb1).trans (GQ.cell _ _ hbb)).trans y1, ((h.cell _ hfar hbb1).trans (GQ.cell _ _ hbb)).trans y2, ((h.cell _ hfar hbb1).trans (GQ.cell _ _ hbb)).trans y3, ((h.cell _ hfar hbb1).trans (GQ.cell _ _ hbb)).trans y4, ((h.cell _ hfar hbb1).trans (GQ.cell _ _ hbb)).trans y5⟩
  have R0 := Lib.hid (HRD.out.gr GQ)
  have K0 := Lib.hid (HKK.out.gr GQ)
  have G0 := g.trans GQ
  clear d4 d5 d6 d7 d8 f4 f5 f6 f7 f8 f9
  cases p <;> simp only [Bool.not_true, Bool.not_false] at e1 e2 e3 e4
  all_goals
    go_enter Tryz.func73, Tryz.ntmps73
    go_upto_region 3 with fail
    go_region
    go_wp2_with fail
    clear d9 y1 y2 y3 y4 y5
    go_loopw [6, 7, 8, 9, 50] (fun _ _ _ _ x wr => Fb b (w.alloc (.cells #[.pointer (some ⟨b, 4, none⟩), .pointer (some ⟨b, 5, none⟩), .pointer (some ⟨b, 6, none⟩), .pointer (some ⟨b, 7, none⟩)] 184)).drew wr ∧ Gr w0 wr ∧ KL k h0 wr ∧ ((x = .int .i64 0 ∧ RdP 72 b B wr pln0 (some false)) ∨ (x = .int .i64 1 ∧ q1 = true ∧ RdP 72 b B wr (setN pln0 0 n1) (some false)) ∨ (x = .int .i64 2 ∧ (q1 = true ∧ q2 = true) ∧ RdP 72 b B wr (setN (setN pln0 0 n1) 1 n2) (some false)) ∨ (x = .int .i64 3 ∧ (q1 = true ∧ q2 = true ∧ q3 = true) ∧ RdP 72 b B wr (setN (setN (setN pln0 0 n1) 1 n2) 2 n3) (some false)) ∨ (x = .int .i64 4 ∧ (q1 = true ∧ q2 = true ∧ q3 = true ∧ q4 = true) ∧ RdP 72 b B wr (setN (setN (setN (setN pln0 0 n1) 1 n2) 2 n3) 3 n4) (some false)))) (fun _ _ _ _ x _ => 4 - (intOf x).toNat)
    case atStart => exact ⟨Fb.refl _ _, G0, K0.out, .inl ⟨rfl, R0.out⟩⟩
    case round =>
      clear hz1 hbb1 G0 GQ z
      obtain ⟨hfb, HG, hkk, hst⟩ := hrel
      obtain ⟨zt, zw, p0, p1, p2, p3, y1, y2, y3, y4, y5⟩ := HT.out _ hfb
      rcases hst with ⟨rfl, hr⟩ | ⟨rfl, hqq, hr⟩ | ⟨rfl, hqq, hr⟩ | ⟨rfl, hqq, hr⟩ | ⟨rfl, hqq, hr⟩
      · obtain ⟨z, d4, d5, d6, d7, d8, d9, f4, f5, f6, f7, f8, f9⟩ := hr.box
        have HRR := Lib.hid hr
        clear hr
        cases q1
        · have HR : Hid (R = .inl 2) := by show _ = _; rw [HF1.out, if_neg (by simp)]
          go_wp2_with (first | (go_at_call 133; (with_reducible refine (HN1.out _).mono ?_); rintro e w4 ⟨rfl, hq⟩; obtain rfl := hq.symm) | fail)
          (go_ret; first | exact RetR.no rfl HG | exact RetR.no HR.out HG)
        · go_wp2_with (first | (go_at_call 133; (with_reducible refine (HN1.out _).mono ?_); rintro e w4 ⟨rfl, hq⟩; obtain rfl := hq.symm) | fail)
          go_roundw
          case rel => exact ⟨hfb.set _ _, HG.setCell hb _, hkk.set hkb _, .inr (.inl ⟨rfl, (by first | trivial | simp), HRR.out.num 0 (by omega) n1⟩)⟩
          case measure => simp [intOf]
      · obtain ⟨z, d4, d5, d6, d7, d8, d9, f4, f5, f6, f7, f8, f9⟩ := hr.box
        have HRR := Lib.hid hr
        clear hr
        cases q2
        · have HR : Hid (R = .inl 2) := by show _ = _; rw [HF1.out, if_neg (by simp)]
          go_wp2_with (first | (go_at_call 133; (with_reducible refine (HN2.out _).mono ?_); rintro e w4 ⟨rfl, hq⟩; obtain rfl := hq.symm) | fail)
          (go_ret; first | exact RetR.no rfl HG | exact RetR.no HR.out HG)
        · go_wp2_with (first | (go_at_call 133; (with_reducible refine (HN2.out _).mono ?_); rintro e w4 ⟨rfl, hq⟩; obtain rfl := hq.symm) | fail)
          go_roundw
          case rel => exact ⟨hfb.set _ _, HG.setCell hb _, hkk.set hkb _, .inr (.inr (.inl ⟨rfl, (by first | exact ⟨hqq, rfl⟩ | simpa using hqq), HRR.out.num 1 (by omega) n2⟩))⟩
          case measure => simp [intOf]
      · obtain ⟨z, d4, d5, d6, d7, d8, d9, f4, f5, f6, f7, f8, f9⟩ := hr.box
        have HRR := Lib.hid hr
        clear hr
        cases q3
        · have HR : Hid (R = .inl 2) := by show _ = _; rw [HF1.out, if_neg (by simp)]
          go_wp2_with (first | (go_at_call 133; (with_reducible refine (HN3.out _).mono ?_); rintro e w4 ⟨rfl, hq⟩; obtain rfl := hq.symm) | fail)
          (go_ret; first | exact RetR.no rfl HG | exact RetR.no HR.out HG)
        · go_wp2_with (first | (go_at_call 133; (with_reducible refine (HN3.out _).mono ?_); rintro e w4 ⟨rfl, hq⟩; obtain rfl := hq.symm) | fail)
          go_roundw
          case rel => exact ⟨hfb.set _ _, HG.setCell hb _, hkk.set hkb _, .inr (.inr (.inr (.inl ⟨rfl, (by first | exact ⟨hqq.1, hqq.2, rfl⟩ | simpa using hqq), HRR.out.num 2 (by omega) n3⟩)))⟩
          case measure => simp [intOf]
      · obtain ⟨z, d4, d5, d6, d7, d8, d9, f4, f5, f6, f7, f8, f9⟩ := hr.box
        have HRR := Lib.hid hr
        clear hr
        cases q4
        · have HR : Hid (R = .inl 2) := by show _ = _; rw [HF1.out, if_neg (by simp)]
          go_wp2_with (first | (go_at_call 133; (with_reducible refine (HN4.out _).mono ?_); rintro e w4 ⟨rfl, hq⟩; obtain rfl := hq.symm) | fail)
          (go_ret; first | exact RetR.no rfl HG | exact RetR.no HR.out HG)
        · go_wp2_with (first | (go_at_call 133; (with_reducible refine (HN4.out _).mono ?_); rintro e w4 ⟨rfl, hq⟩; obtain rfl := hq.symm) | fail)
          go_roundw
          case rel => exact ⟨hfb.set _ _, HG.setCell hb _, hkk.set hkb _, .inr (.inr (.inr (.inr ⟨rfl, (by first | exact ⟨hqq.1, hqq.2.1, hqq.2.2, rfl⟩ | simpa using hqq), HRR.out.num 3 (by omega) n4⟩)))⟩
          case measure => simp [intOf]
      · obtain ⟨z, d4, d5, d6, d7, d8, d9, f4, f5, f6, f7, f8, f9⟩ := hr.box
        have HRR := Lib.hid hr
        have HR := HF1.out
        rw [if_pos hqq] at HR
        have HR2 := Lib.hid HR
        clear hr HR
        go_wp2_with fail
        go_ret
        exact RetR.yes HR2.out ((HG.setCell hb _).setCell hb _) ((hkk.set hkb _).set hkb _) ((HRR.out.hard _).has true)
end Go.Proofs.YtknmngejjoohdaaGreatDoor
