/- The reference's row: signals. -/
import Derived.Test.YtknmngejjoohdaaGreatDoorRows
import Derived.Test.YtknmngejjoohdaaGreatDoorRDrP3
import Derived.Test.YtknmngejjoohdaaGreatDoorB3
import Derived.Test.YtknmngejjoohdaaGreatDoorRDrP6
import Derived.Deep.RegionHeld3
namespace Go.Proofs.YtknmngejjoohdaaGreatDoor
open Go.ChangeShapes Go.WideShapes Go.ChangeAt Go.RowKit Go.Maps
set_option linter.unusedVariables false
set_option linter.unusedSimpArgs false
set_option maxRecDepth 100000 in
set_option maxHeartbeats 8000000 in
/-- signals: behind the tests of the words' number -/
theorem refRow_sg4 (b B k : Nat) (h0 : Option Obj) (x : ByteArray) (bb o c n : Nat) (xa xb : ByteArray) (au : Bool) (P : Pln) (w0 w : World) (hb : w0.heap.size ≤ b) (g : Gr w0 w) (hK : KL k h0 w) (hkB : k < B) (hkb : k ≠ b) (hR : RdP 28 b B w P none) (hbb : bb < w.heap.size) (hx : x = bSignal) (y0 : w.cell? ⟨bb, o, none⟩ = some (.string x)) (y1 : w.cell? ⟨bb, o + 1, none⟩ = some (.string xa)) (y2 : w.cell? ⟨bb, o + 2, none⟩ = some (.string xb))
    (hn : n = 4 ∧ au = true ∧ w.cell? ⟨bb, o + 3, none⟩ = some (.string bAuto)) (hsa : xa.size ≤ maxLen) (hsb : xb.size ≤ 1048576) (hz : SzP 1000000 P) :
    Calls Tryz.prog 42 #[.pointer (some ⟨b, 0, none⟩), .slice (some ⟨bb, o, none⟩) n c] w ((RetR 28 w0 b B (KL k h0) none) (sig3 P xa xb au)) := by
  have t1 := str_no (x := x) trackL (by rw [hx]; decide)
  have t2 := str_no (x := x) pointsL (by rw [hx]; decide)
  have t3 := str_no (x := x) crossL (by rw [hx]; decide)
  have t4 := str_no (x := x) gateEL (by rw [hx]; decide)
  have t5 := str_no (x := x) joinL (by rw [hx]; decide)
  have t6 := str_yes (x := x) signalL hx
  have t7 := str_no (x := x) lineL (by rw [hx]; decide)
  have t8 : (bAuto.toList == [97, 117, 116, 111]) = true := str_yes autoL rfl
  clear hx
  have HNM := Lib.hid (fun w' => refName_any xa hsa w')
  have HPB := Lib.hid (fun w' => refPortForm_any xb hsb w')
  have hno := sig3_no P xa xb au
  have hpo := sig3_po P xa xb au
  generalize sig3 P xa xb au = R at *
  generalize bAuto = xau at *
  have HSB := Lib.hid hsb
  clear hsa hsb
  cases qa : nmB xa
  · have HR := Lib.hid (hno (.inl qa))
    rw [qa] at HNM
    clear hno hpo hR hK
    obtain ⟨rfl, rfl, y3⟩ := hn
    all_goals
      go_enter Tryz.func42, Tryz.ntmps42
      go_wp2_with (first | (go_at_call 88; (with_reducible refine (HNM.out _).mono ?_); rintro e w5 ⟨rfl, hq⟩; obtain rfl := hq.symm) | fail)
      (go_ret; exact RetR.no HR.out g)
  cases qb : portB xb
  · have HR := Lib.hid (hno (.inr qb))
    rw [qa] at HNM
    rw [qb] at HPB
    clear hno hpo hR hK
    obtain ⟨rfl, rfl, y3⟩ := hn
    all_goals
      go_enter Tryz.func42, Tryz.ntmps42
      go_wp2_with (first | (go_at_call 88; (with_reducible refine (HNM.out _).mono ?_); rintro e w5 ⟨rfl, hq⟩; obtain rfl := hq.symm) | (go_at_call 89; (with_reducible refine (HPB.out _).mono ?_); rintro e w5 ⟨rfl, hq⟩; obtain rfl := hq.symm) | fail)
      (go_ret; exact RetR.no HR.out g)
  have hpo' := hpo qa qb
  rw [qa] at HNM
  rw [qb] at HPB
  have hze := hz.ss
  have hRD := hR
  obtain ⟨e, j, s, l, h1, h2⟩ := hRD
  have hpl := h2.pln (by have := hz.es; unfold maxLen; omega) (by have := hz.js; unfold maxLen; omega) (by have := hz.ss; unfold maxLen; omega) (by have := hz.ls; unfold maxLen; omega)
  have HPL := Lib.hid hpl
  obtain ⟨a1, c1, a2, c2, a3, c3, a4, c4, hpv, -⟩ := hpl
  unfold plnV at hpv HPL
  simp only [Value.agg.injEq, Array.mk.injEq, List.cons.injEq, and_true] at hpv
  obtain ⟨rfl, rfl, rfl, rfl⟩ := hpv
  have HOB : Hid (∀ w', Gr w w' → Calls Tryz.prog 90 #[.agg #[.slice a1 P.es.length c1, .slice a2 P.js.length c2, .slice a3 P.ss.length c3, .slice a4 P.ls.length c4, .int .i64 P.top, .int .i64 P.brake, .int .i64 P.margin, .int .i64 P.throw, .bool P.hard], .string xb] w' fun e w'' => e = .returned (prtR (portO P xb)) ∧ Gr w' w'') := fun w' g => refPortOf_any _ P xb HSB.out w' (HPL.out.gr g)
  unfold prtR Prt.v at HOB
  have HRR := Lib.hid hpo'
  generalize (portO P xb).getD default = pb at *
  generalize (portO P xb).isSome = ib at *
  obtain ⟨qe, qx⟩ := pb
  dsimp only at HOB
  obtain ⟨hbB, hBz, k1, k2, k3, -⟩ := id h2
  have hfar := bp_far h1 k3 (by decide)
  obtain ⟨zb, p0, p1, p2, p3, p4, p5, p6, p7, p8⟩ := h1.2.1
  have HS : Hid (∀ w', Gr w w' → ((w'.cell? ⟨b, 0, none⟩ = some (.slice a1 P.es.length c1) ∧ w'.cell? ⟨b, 1, none⟩ = some (.slice a2 P.js.length c2) ∧ w'.cell? ⟨b, 2, none⟩ = some (.slice a3 P.ss.length c3) ∧ w'.cell? ⟨b, 3, none⟩ = some (.slice a4 P.ls.length c4) ∧ w'.cell? ⟨b, 4, none⟩ = some (.int .i64 P.top) ∧ w'.cell? ⟨b, 5, none⟩ = some (.int .i64 P.brake) ∧ w'.cell? ⟨b, 6, none⟩ = some (.int .i64 P.margin) ∧ w'.cell? ⟨b, 7, none⟩ = some (.int .i64 P.throw) ∧ w'.cell? ⟨b, 8, none⟩ = some (.bool P.hard) ∧ w'.cell? ⟨bb, o + 1, none⟩ = some (.string xa) ∧ w'.cell? ⟨bb, o + 2, none⟩ = some (.string xb) ∧ Gr w w'))) := fun w' h => ⟨(h.cell _ _ zb).trans p0, (h.cell _ _ zb).trans p1, (h.cell _ _ zb).trans p2, (h.cell _ _ zb).trans p3, (h.cell _ _ zb).trans p4, (h.cell _ _ zb).trans p5, (h.cell _ _ zb).trans p6, (h.cell _ _ zb).trans p7, (h.cell _ _ zb).trans p8, (h.cell _ _ hbb).trans y1, (h.cell _ _ hbb).trans y2, h⟩
  have HSt : Hid (∀ wx wy, ((wx.cell? ⟨b, 0, none⟩ = some (.slice a1 P.es.length c1) ∧ wx.cell? ⟨b, 1, none⟩ = some (.slice a2 P.js.length c2) ∧ wx.cell? ⟨b, 2, none⟩ = some (.slice a3 P.ss.length c3) ∧ wx.cell? ⟨b, 3, none⟩ = some (.slice a4 P.ls.length c4) ∧ wx.cell? ⟨b, 4, none⟩ = some (.int .i64 P.top) ∧ wx.cell? ⟨b, 5, none⟩ = some (.int .i64 P.brake) ∧ wx.cell? ⟨b, 6, none⟩ = some (.int .i64 P.margin) ∧ wx.cell? ⟨b, 7, none⟩ = some (.int .i64 P.throw) ∧ wx.cell? ⟨b, 8, none⟩ = some (.bool P.hard) ∧ wx.cell? ⟨bb, o + 1, none⟩ = some (.string xa) ∧ wx.cell? ⟨bb, o + 2, none⟩ = some (.string xb) ∧ Gr w wx)) → Gr wx wy → ((wy.cell? ⟨b, 0, none⟩ = some (.slice a1 P.es.length c1) ∧ wy.cell? ⟨b, 1, none⟩ = some (.slice a2 P.js.length c2) ∧ wy.cell? ⟨b, 2, none⟩ = some (.slice a3 P.ss.length c3) ∧ wy.cell? ⟨b, 3, none⟩ = some (.slice a4 P.ls.length c4) ∧ wy.cell? ⟨b, 4, none⟩ = some (.int .i64 P.top) ∧ wy.cell? ⟨b, 5, none⟩ = some (.int .i64 P.brake) ∧ wy.cell? ⟨b, 6, none⟩ = some (.int .i64 P.margin) ∧ wy.cell? ⟨b, 7, none⟩ = some (.int .i64 P.throw) ∧ wy.cell? ⟨b, 8, none⟩ = some (.bool P.hard) ∧ wy.cell? ⟨bb, o + 1, none⟩ = some (.string xa) ∧ wy.cell? ⟨bb, o + 2, none⟩ = some (.string xb) ∧ Gr w wy))) := fun wx wy h h2 => HS.out _ (h.2.2.2.2.2.2.2.2.2.2.2.trans h2)
  have HSg : Hid (∀ wx, ((wx.cell? ⟨b, 0, none⟩ = some (.slice a1 P.es.length c1) ∧ wx.cell? ⟨b, 1, none⟩ = some (.slice a2 P.js.length c2) ∧ wx.cell? ⟨b, 2, none⟩ = some (.slice a3 P.ss.length c3) ∧ wx.cell? ⟨b, 3, none⟩ = some (.slice a4 P.ls.length c4) ∧ wx.cell? ⟨b, 4, none⟩ = some (.int .i64 P.top) ∧ wx.cell? ⟨b, 5, none⟩ = some (.int .i64 P.brake) ∧ wx.cell? ⟨b, 6, none⟩ = some (.int .i64 P.margin) ∧ wx.cell? ⟨b, 7, none⟩ = some (.int .i64 P.throw) ∧ wx.cell? ⟨b, 8, none⟩ = some (.bool P.hard) ∧ wx.cell? ⟨bb, o + 1, none⟩ = some (.string xa) ∧ wx.cell? ⟨bb, o + 2, none⟩ = some (.string xb) ∧ Gr w wx)) → Gr w wx) := fun wx h => h.2.2.2.2.2.2.2.2.2.2.2
  have H1 := Lib.hid h1
  have H2 := Lib.hid h2
  have HKK := Lib.hid hK
  have HZB := Lib.hid zb
  have HBB := Lib.hid hbb
  clear h1 h2 k1 k2 k3 hR hK hz hno hpo hpo' HPL HSB qa qb
  obtain ⟨rfl, rfl, y3⟩ := hn
  all_goals
    go_enter Tryz.func42, Tryz.ntmps42
    go_upto_region 23 with (first | (go_at_call 88; (with_reducible refine (HNM.out _).mono ?_); rintro e w5 ⟨rfl, hq⟩; obtain rfl := hq.symm) | (go_at_call 89; (with_reducible refine (HPB.out _).mono ?_); rintro e w5 ⟨rfl, hq⟩; obtain rfl := hq.symm) | fail)
    (go_region_held3 (fun w' => (w'.cell? ⟨b, 0, none⟩ = some (.slice a1 P.es.length c1) ∧ w'.cell? ⟨b, 1, none⟩ = some (.slice a2 P.js.length c2) ∧ w'.cell? ⟨b, 2, none⟩ = some (.slice a3 P.ss.length c3) ∧ w'.cell? ⟨b, 3, none⟩ = some (.slice a4 P.ls.length c4) ∧ w'.cell? ⟨b, 4, none⟩ = some (.int .i64 P.top) ∧ w'.cell? ⟨b, 5, none⟩ = some (.int .i64 P.brake) ∧ w'.cell? ⟨b, 6, none⟩ = some (.int .i64 P.margin) ∧ w'.cell? ⟨b, 7, none⟩ = some (.int .i64 P.throw) ∧ w'.cell? ⟨b, 8, none⟩ = some (.bool P.hard) ∧ w'.cell? ⟨bb, o + 1, none⟩ = some (.string xa) ∧ w'.cell? ⟨bb, o + 2, none⟩ = some (.string xb) ∧ Gr w w')) (first | exact HS.out _ ((Gr.refl w).drew) | exact HSt.out _ _ (by assumption) h5 | exact HSt.out _ _ (by assumption) ((Gr.refl _).alloc _) | exact HS.out _ (((Gr.refl w).drew.trans h5).alloc _) | exact HS.out _ (Gr.setCell (Gr.setCell (((Gr.refl w).alloc _).drew.trans h5) (Nat.le_refl _) _) (Nat.le_refl _) _)) (first | (go_at_call 90; (with_reducible refine (HOB.out _ ?hzz).mono ?_); (case hzz => exact HSg.out _ (by assumption)); rintro e w5 ⟨rfl, h5⟩; (first | (obtain ⟨k0, k1, f0, f1, z5⟩ := new2 h5; have g5 := ((Gr.refl w).alloc _).drew.trans h5) | (have g5 := (Gr.refl w).drew.trans h5)))))
    all_goals (first | (have HF := newAt_set (x := Value.int .i64 qe) (y := Value.int .i64 qx) h5; revert HF; generalize (w5.setCell ⟨w.heap.size, 0, none⟩ (Value.int .i64 qe)).setCell ⟨w.heap.size, 1, none⟩ (Value.int .i64 qx) = wy; generalize w.heap.size = gy; intro HF) | (have HF := newAt_alloc (t := 67) (x := Value.int .i64 qe) (y := Value.int .i64 qx) g5; revert HF; generalize w5.alloc (.cells #[Value.int .i64 qe, Value.int .i64 qx] 67) = wy; generalize w5.heap.size = gy; intro HF))
    all_goals
      obtain ⟨gn2, gl2, gs', r0, r1⟩ := HF
      clear p0 p1 p2 p3 p4 p5 p6 p7 p8 y0 y1 y2
      obtain ⟨p0, p1, p2, p3, p4, p5, p6, p7, p8, y1, y2, -⟩ := HS.out _ gn2
      have zb2 := Nat.lt_of_lt_of_le HZB.out gn2.size
      have hbb2 := Nat.lt_of_lt_of_le HBB.out gn2.size
      have GQ := Lib.hid (g.trans gn2)
      have HG2 := Lib.hid gn2
      clear zb hbb gn2
      cases ib
      · have HR := Lib.hid (HRR.out.trans (if_neg (by simp)))
        clear HRR
        go_wp2_with fail
        go_ret
        exact RetR.no HR.out GQ.out
      have HR := Lib.hid (HRR.out.trans (if_pos rfl))
      clear HRR
      obtain ⟨i0, hi0, hi1, hi2, hi3⟩ := info_parts Tryz.infoSg
      have h1y := H1.out.gr HG2.out
      have h2y := H2.out.gr HG2.out
      have fz := h1y.frozen 2
      have H1y := Lib.hid h1y
      have H2y := Lib.hid h2y
      have K3y := Lib.hid h2y.2.2.2.2.1
      have hBy := h2y.2.1
      have HKy := Lib.hid (HKK.out.gr HG2.out)
      clear h1y h2y
      go_upto_region 26 with fail
      go_region_law ((refine step_append_lies _ (by rfl) _ _ _ (by rfl) B 84 i0 _ 4 40 Tryz.underlying25 hi0 hi1 hi2 hi3 rfl (by decide) (.slice a3 P.ss.length c3) P.ss.length (P.ss.flatMap Sg.cs) (by rfl) ((own_gr K3y.out ((Gr.refl _).alloc _)).drew) ⟨wy.heap.size, 0, none⟩ 1 1 [.string xa, .int .i64 qe, .int .i64 qx, .bool _] (by rfl) (by rfl) (World.news_of_block (heap_alloc_new wy _)) (by simp [Value.oneCell']) (by omega) (by unfold maxLen; omega) (by omega) (by simp; omega) (wy.heap.size + 1) (by simp) ?_; intro gg cap w9 hown hgrow hat hlt; have cu9 := (hgrow.cell_far ⟨b, 2, none⟩ (by simp; omega) (by simpa using Ne.symm hfar)); have fu9 := (hgrow.frozen_far ⟨b, 2, none⟩ (by simp; omega) (by simpa using Ne.symm hfar))))
      all_goals go_wp2_with fail
      all_goals go_ret
      all_goals exact signal_end (x := ⟨xa, ⟨qe, qx⟩, _⟩) (by decide) hkB hkb H1y.out H2y.out HKy.out GQ.out hb (((Gr.refl wy).alloc _).drew) HR.out hgrow hown
set_option maxRecDepth 100000 in
set_option maxHeartbeats 4000000 in
/-- signals -/
theorem refRow_signal (b B k : Nat) (h0 : Option Obj) (v : Value) (T : List ByteArray) (P : Pln) (w0 w : World) (hb : w0.heap.size ≤ b) (g : Gr w0 w) (hK : KL k h0 w) (hkB : k < B) (hkb : k ≠ b) (hR : RdP 28 b B w P none) (hv : IsVals w v ((bSignal :: T).map Value.string)) (hs : ∀ y ∈ T, y.size ≤ 1048576) (hz : SzP 1000000 P) :
    Calls Tryz.prog 42 #[.pointer (some ⟨b, 0, none⟩), v] w ((RetR 28 w0 b B (KL k h0) none) (signalW P (bSignal :: T))) := by
  obtain ⟨bb, o, c, rfl, hbb, hlm, HC⟩ := vals_form hv (by simp)
  have y0 : w.cell? ⟨bb, o, none⟩ = some (.string bSignal) := HC.out 0 (by simp)
  have hsm : ∀ y ∈ T, y.size ≤ maxLen := fun y hy => by have := hs y hy; unfold maxLen; omega
  by_cases h3 : T.length = 2
  · obtain ⟨xa, xb, rfl⟩ : ∃ xa xb, T = [xa, xb] := by
      match T, h3 with
      | [xa, xb], _ => exact ⟨xa, xb, rfl⟩
    exact refRow_sg3 b B k h0 bSignal bb o c 3 xa xb false P w0 w hb g hK hkB hkb hR hbb rfl y0 (HC.out 1 (by simp)) (HC.out 2 (by simp)) ⟨rfl, rfl⟩ (hsm xa (by simp)) (hs xb (by simp)) hz
  by_cases h4 : T.length = 3
  · obtain ⟨xa, xb, xq, rfl⟩ : ∃ xa xb xq, T = [xa, xb, xq] := by
      match T, h4 with
      | [xa, xb, xq], _ => exact ⟨xa, xb, xq, rfl⟩
    by_cases hq : xq = bAuto
    · subst hq
      rw [signalW_4]
      exact refRow_sg4 b B k h0 bSignal bb o c 4 xa xb true P w0 w hb g hK hkB hkb hR hbb rfl y0 (HC.out 1 (by simp)) (HC.out 2 (by simp)) ⟨rfl, rfl, HC.out 3 (by simp)⟩ (hsm xa (by simp)) (hs xb (by simp)) hz
    have HR : Hid (signalW P [bSignal, xa, xb, xq] = .inl 2) := if_neg hq
    have y3 : w.cell? ⟨bb, o + 3, none⟩ = some (.string xq) := HC.out 3 (by simp)
    generalize signalW P [bSignal, xa, xb, xq] = R at HR ⊢
    have t1 := str_no trackL (show bSignal ≠ bTrack by decide)
    have t2 := str_no pointsL (show bSignal ≠ bPoints by decide)
    have t3 := str_no crossL (show bSignal ≠ bCross by decide)
    have t4 := str_no gateEL (show bSignal ≠ bGateE by decide)
    have t5 := str_no joinL (show bSignal ≠ bJoin by decide)
    have t6 := str_yes signalL (show bSignal = bSignal from rfl)
    have t7 := str_no lineL (show bSignal ≠ bLine by decide)
    have t8 := str_no autoL hq
    clear hv HC hR hK hs hsm hz hq h3
    simp only [List.length_cons, List.length_nil] at *
    generalize bSignal = x at *
    go_enter Tryz.func42, Tryz.ntmps42
    go_wp2_with fail
    (go_ret; exact RetR.no HR.out g)
  have HR : Hid (signalW P (bSignal :: T) = .inl 2) := signalW_len (by simp; omega) (by simp; omega)
  generalize signalW P (bSignal :: T) = R at HR ⊢
  simp only [List.length_cons] at hlm ⊢
  unfold maxLen at hlm
  have t1 := str_no trackL (show bSignal ≠ bTrack by decide)
  have t2 := str_no pointsL (show bSignal ≠ bPoints by decide)
  have t3 := str_no crossL (show bSignal ≠ bCross by decide)
  have t4 := str_no gateEL (show bSignal ≠ bGateE by decide)
  have t5 := str_no joinL (show bSignal ≠ bJoin by decide)
  have t6 := str_yes signalL (show bSignal = bSignal from rfl)
  have t7 := str_no lineL (show bSignal ≠ bLine by decide)
  have t8 : (((T.length + 1 : Nat) : Int) == 3) = false := beqF (by omega)
  have t9 : (((T.length + 1 : Nat) : Int) == 4) = false := beqF (by omega)
  have hn0 : (0 : Int) < ((T.length + 1 : Nat) : Int) := by omega
  clear hv HC hR hK hs hsm hz hlm h3 h4
  generalize T.length + 1 = n at *
  generalize bSignal = x at *
  go_enter Tryz.func42, Tryz.ntmps42
  go_wp2_with fail
  (go_ret; exact RetR.no HR.out g)
end Go.Proofs.YtknmngejjoohdaaGreatDoor
