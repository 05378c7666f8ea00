/- The reference's row: joins, signals. -/
import Derived.Test.YtknmngejjoohdaaGreatDoorRows
import Derived.Test.YtknmngejjoohdaaGreatDoorRDrP3
import Derived.Test.YtknmngejjoohdaaGreatDoorB3
import Derived.Deep.RegionHeld3
namespace Go.Proofs.YtknmngejjoohdaaGreatDoor
open Go.ChangeShapes Go.WideShapes Go.ChangeAt Go.RowKit Go.Maps
set_option linter.unusedVariables false
set_option linter.unusedSimpArgs false
theorem joinW_po (P : Pln) (v a b : ByteArray) (ha : portB a = true) (hb : portB b = true) : joinW P [v, a, b] = if (portO P a).isSome = true ∧ (portO P b).isSome = true then .inr { P with js := P.js ++ [⟨(portO P a).getD default, (portO P b).getD default⟩] } else .inl 5 := by
  unfold joinW portO
  rw [if_pos ha, if_pos hb]
  simp only [ha, hb, and_self, if_true]
  cases portP P a <;> cases portP P b <;> simp
theorem joinW_no (P : Pln) (v a b : ByteArray) (h : portB a = false ∨ portB b = false) : joinW P [v, a, b] = .inl 2 := by
  show (if portB a = true ∧ portB b = true then _ else .inl 2 : Int ⊕ Pln) = .inl 2
  rw [if_neg]
  rintro ⟨h1, h2⟩
  rcases h with h | h
  · rw [h1] at h; cases h
  · rw [h2] at h; cases h
set_option maxRecDepth 100000 in
set_option maxHeartbeats 8000000 in
/-- joins -/
theorem refRow_join (b B k : Nat) (h0 : Option Obj) (v : Value) (T : List ByteArray) (P : Pln) (w0 w : World) (hb : w0.heap.size ≤ b) (g : Gr w0 w) (hK : KL k h0 w) (hkB : k < B) (hkb : k ≠ b) (hR : RdP 28 b B w P none) (hv : IsVals w v ((bJoin :: T).map Value.string)) (hs : ∀ y ∈ T, y.size ≤ 1048576) (hz : SzP 1000000 P) :
    Calls Tryz.prog 42 #[.pointer (some ⟨b, 0, none⟩), v] w ((RetR 28 w0 b B (KL k h0) none) (joinW P (bJoin :: T))) := by
  obtain ⟨bb, o, c, rfl, hbb, hlm, HC⟩ := vals_form hv (by simp)
  have y0 : w.cell? ⟨bb, o, none⟩ = some (.string bJoin) := HC.out 0 (by simp)
  have t1 := str_no trackL (show bJoin ≠ bTrack by decide)
  have t2 := str_no pointsL (show bJoin ≠ bPoints by decide)
  have t3 := str_no crossL (show bJoin ≠ bCross by decide)
  have t4 := str_no gateEL (show bJoin ≠ bGateE by decide)
  have t5 := str_yes joinL (show bJoin = bJoin from rfl)
  have t6 := str_no signalL (show bJoin ≠ bSignal by decide)
  have t7 := str_no lineL (show bJoin ≠ bLine by decide)
  simp only [List.length_cons] at hlm ⊢
  unfold maxLen at hlm
  by_cases hl2 : T.length = 2
  rotate_left
  · have HR : Hid (joinW P (bJoin :: T) = .inl 2) := joinW_len (by simpa using hl2)
    generalize joinW P (bJoin :: T) = R at HR ⊢
    have t8 : (((T.length + 1 : Nat) : Int) == 3) = false := beqF (by omega)
    have hn0 : (0 : Int) < ((T.length + 1 : Nat) : Int) := by omega
    clear hs HC hR hK hl2 hv hlm
    generalize T.length + 1 = n at *
    generalize bJoin = x at *
    go_enter Tryz.func42, Tryz.ntmps42
    go_wp2_with fail
    (go_ret; exact RetR.no HR.out g)
  obtain ⟨xa, xb, rfl⟩ : ∃ xa xb, T = [xa, xb] := by
    match T, hl2 with
    | [xa, xb], _ => exact ⟨xa, xb, rfl⟩
  have y1 : w.cell? ⟨bb, o + 1, none⟩ = some (.string xa) := HC.out 1 (by simp)
  have y2 : w.cell? ⟨bb, o + 2, none⟩ = some (.string xb) := HC.out 2 (by simp)
  have HPA := Lib.hid (fun w' => refPortForm_any xa (hs xa (by simp)) w')
  have HPB := Lib.hid (fun w' => refPortForm_any xb (hs xb (by simp)) w')
  have hsa := hs xa (by simp)
  have hsb := hs xb (by simp)
  have hno := joinW_no P bJoin xa xb
  have hpo := joinW_po P bJoin xa xb
  simp only [List.length_cons, List.length_nil] at *
  generalize joinW P [bJoin, xa, xb] = R at *
  generalize bJoin = x at *
  have HSA := Lib.hid hsa
  have HSB := Lib.hid hsb
  clear hs HC hv hl2 hsa hsb hlm
  cases qa : portB xa
  · have HR := Lib.hid (hno (.inl qa))
    rw [qa] at HPA
    clear hno hpo hR hK
    go_enter Tryz.func42, Tryz.ntmps42
    go_wp2_with (first | (go_at_call 89; (with_reducible refine (HPA.out _).mono ?_); rintro e w5 ⟨rfl, hq⟩; obtain rfl := hq.symm) | fail)
    (go_ret; exact RetR.no HR.out g)
  cases qb : portB xb
  · have HR := Lib.hid (hno (.inr qb))
    rw [qa] at HPA
    rw [qb] at HPB
    clear hno hpo hR hK
    go_enter Tryz.func42, Tryz.ntmps42
    go_wp2_with (first | (go_at_call 89; (with_reducible refine (HPA.out _).mono ?_); rintro e w5 ⟨rfl, hq⟩; obtain rfl := hq.symm) | (go_at_call 89; (with_reducible refine (HPB.out _).mono ?_); rintro e w5 ⟨rfl, hq⟩; obtain rfl := hq.symm) | fail)
    (go_ret; exact RetR.no HR.out g)
  have hpo' := hpo qa qb
  rw [qa] at HPA
  rw [qb] at HPB
  have hze := hz.js
  have hRD := hR
  obtain ⟨e, j, s, l, h1, h2⟩ := hRD
  have hpl := h2.pln (by have := hz.es; unfold maxLen; omega) (by have := hz.js; unfold maxLen; omega) (by have := hz.ss; unfold maxLen; omega) (by have := hz.ls; unfold maxLen; omega)
  have HPL := Lib.hid hpl
  obtain ⟨a1, c1, a2, c2, a3, c3, a4, c4, hpv, -⟩ := hpl
  unfold plnV at hpv HPL
  simp only [Value.agg.injEq, Array.mk.injEq, List.cons.injEq, and_true] at hpv
  obtain ⟨rfl, rfl, rfl, rfl⟩ := hpv
  have HOA : Hid (∀ w', Gr w w' → Calls Tryz.prog 90 #[.agg #[.slice a1 P.es.length c1, .slice a2 P.js.length c2, .slice a3 P.ss.length c3, .slice a4 P.ls.length c4, .int .i64 P.top, .int .i64 P.brake, .int .i64 P.margin, .int .i64 P.throw, .bool P.hard], .string xa] w' fun e w'' => e = .returned (prtR (portO P xa)) ∧ Gr w' w'') := fun w' g => refPortOf_any _ P xa HSA.out w' (HPL.out.gr g)
  have HOB : Hid (∀ w', Gr w w' → Calls Tryz.prog 90 #[.agg #[.slice a1 P.es.length c1, .slice a2 P.js.length c2, .slice a3 P.ss.length c3, .slice a4 P.ls.length c4, .int .i64 P.top, .int .i64 P.brake, .int .i64 P.margin, .int .i64 P.throw, .bool P.hard], .string xb] w' fun e w'' => e = .returned (prtR (portO P xb)) ∧ Gr w' w'') := fun w' g => refPortOf_any _ P xb HSB.out w' (HPL.out.gr g)
  unfold prtR Prt.v at HOA HOB
  have HRR := Lib.hid hpo'
  generalize (portO P xa).getD default = pa at *
  generalize (portO P xb).getD default = pb at *
  generalize (portO P xa).isSome = ia at *
  generalize (portO P xb).isSome = ib at *
  obtain ⟨pe, px⟩ := pa
  obtain ⟨qe, qx⟩ := pb
  dsimp only at HOA HOB
  obtain ⟨hbB, hBz, k1, k2, k3⟩ := id h2
  have hfar := bp_far h1 k2 (by decide)
  obtain ⟨zb, p0, p1, p2, p3, p4, p5, p6, p7, p8⟩ := h1.2.1
  have HS : Hid (∀ w', Gr w w' → ((w'.cell? ⟨b, 0, none⟩ = some (.slice a1 P.es.length c1) ∧ w'.cell? ⟨b, 1, none⟩ = some (.slice a2 P.js.length c2) ∧ w'.cell? ⟨b, 2, none⟩ = some (.slice a3 P.ss.length c3) ∧ w'.cell? ⟨b, 3, none⟩ = some (.slice a4 P.ls.length c4) ∧ w'.cell? ⟨b, 4, none⟩ = some (.int .i64 P.top) ∧ w'.cell? ⟨b, 5, none⟩ = some (.int .i64 P.brake) ∧ w'.cell? ⟨b, 6, none⟩ = some (.int .i64 P.margin) ∧ w'.cell? ⟨b, 7, none⟩ = some (.int .i64 P.throw) ∧ w'.cell? ⟨b, 8, none⟩ = some (.bool P.hard) ∧ w'.cell? ⟨bb, o + 1, none⟩ = some (.string xa) ∧ w'.cell? ⟨bb, o + 2, none⟩ = some (.string xb) ∧ Gr w w'))) := fun w' h => ⟨(h.cell _ _ zb).trans p0, (h.cell _ _ zb).trans p1, (h.cell _ _ zb).trans p2, (h.cell _ _ zb).trans p3, (h.cell _ _ zb).trans p4, (h.cell _ _ zb).trans p5, (h.cell _ _ zb).trans p6, (h.cell _ _ zb).trans p7, (h.cell _ _ zb).trans p8, (h.cell _ _ hbb).trans y1, (h.cell _ _ hbb).trans y2, h⟩
  have HSt : Hid (∀ wx wy, ((wx.cell? ⟨b, 0, none⟩ = some (.slice a1 P.es.length c1) ∧ wx.cell? ⟨b, 1, none⟩ = some (.slice a2 P.js.length c2) ∧ wx.cell? ⟨b, 2, none⟩ = some (.slice a3 P.ss.length c3) ∧ wx.cell? ⟨b, 3, none⟩ = some (.slice a4 P.ls.length c4) ∧ wx.cell? ⟨b, 4, none⟩ = some (.int .i64 P.top) ∧ wx.cell? ⟨b, 5, none⟩ = some (.int .i64 P.brake) ∧ wx.cell? ⟨b, 6, none⟩ = some (.int .i64 P.margin) ∧ wx.cell? ⟨b, 7, none⟩ = some (.int .i64 P.throw) ∧ wx.cell? ⟨b, 8, none⟩ = some (.bool P.hard) ∧ wx.cell? ⟨bb, o + 1, none⟩ = some (.string xa) ∧ wx.cell? ⟨bb, o + 2, none⟩ = some (.string xb) ∧ Gr w wx)) → Gr wx wy → ((wy.cell? ⟨b, 0, none⟩ = some (.slice a1 P.es.length c1) ∧ wy.cell? ⟨b, 1, none⟩ = some (.slice a2 P.js.length c2) ∧ wy.cell? ⟨b, 2, none⟩ = some (.slice a3 P.ss.length c3) ∧ wy.cell? ⟨b, 3, none⟩ = some (.slice a4 P.ls.length c4) ∧ wy.cell? ⟨b, 4, none⟩ = some (.int .i64 P.top) ∧ wy.cell? ⟨b, 5, none⟩ = some (.int .i64 P.brake) ∧ wy.cell? ⟨b, 6, none⟩ = some (.int .i64 P.margin) ∧ wy.cell? ⟨b, 7, none⟩ = some (.int .i64 P.throw) ∧ wy.cell? ⟨b, 8, none⟩ = some (.bool P.hard) ∧ wy.cell? ⟨bb, o + 1, none⟩ = some (.string xa) ∧ wy.cell? ⟨bb, o + 2, none⟩ = some (.string xb) ∧ Gr w wy))) := fun wx wy h h2 => HS.out _ (h.2.2.2.2.2.2.2.2.2.2.2.trans h2)
  have HSg : Hid (∀ wx, ((wx.cell? ⟨b, 0, none⟩ = some (.slice a1 P.es.length c1) ∧ wx.cell? ⟨b, 1, none⟩ = some (.slice a2 P.js.length c2) ∧ wx.cell? ⟨b, 2, none⟩ = some (.slice a3 P.ss.length c3) ∧ wx.cell? ⟨b, 3, none⟩ = some (.slice a4 P.ls.length c4) ∧ wx.cell? ⟨b, 4, none⟩ = some (.int .i64 P.top) ∧ wx.cell? ⟨b, 5, none⟩ = some (.int .i64 P.brake) ∧ wx.cell? ⟨b, 6, none⟩ = some (.int .i64 P.margin) ∧ wx.cell? ⟨b, 7, none⟩ = some (.int .i64 P.throw) ∧ wx.cell? ⟨b, 8, none⟩ = some (.bool P.hard) ∧ wx.cell? ⟨bb, o + 1, none⟩ = some (.string xa) ∧ wx.cell? ⟨bb, o + 2, none⟩ = some (.string xb) ∧ Gr w wx)) → Gr w wx) := fun wx h => h.2.2.2.2.2.2.2.2.2.2.2
  have H1 := Lib.hid h1
  have H2 := Lib.hid h2
  have K2 := Lib.hid k2
  have HKK := Lib.hid hK
  have HZB := Lib.hid zb
  have HBB := Lib.hid hbb
  clear h1 h2 k1 k2 k3 hR hK hz hno hpo hpo' HPL HSA HSB qa qb
  go_enter Tryz.func42, Tryz.ntmps42
  go_upto_region 16 with (first | (go_at_call 89; (with_reducible refine (HPA.out _).mono ?_); rintro e w5 ⟨rfl, hq⟩; obtain rfl := hq.symm) | (go_at_call 89; (with_reducible refine (HPB.out _).mono ?_); rintro e w5 ⟨rfl, hq⟩; obtain rfl := hq.symm) | fail)
  (go_region_held3 (fun w' => (w'.cell? ⟨b, 0, none⟩ = some (.slice a1 P.es.length c1) ∧ w'.cell? ⟨b, 1, none⟩ = some (.slice a2 P.js.length c2) ∧ w'.cell? ⟨b, 2, none⟩ = some (.slice a3 P.ss.length c3) ∧ w'.cell? ⟨b, 3, none⟩ = some (.slice a4 P.ls.length c4) ∧ w'.cell? ⟨b, 4, none⟩ = some (.int .i64 P.top) ∧ w'.cell? ⟨b, 5, none⟩ = some (.int .i64 P.brake) ∧ w'.cell? ⟨b, 6, none⟩ = some (.int .i64 P.margin) ∧ w'.cell? ⟨b, 7, none⟩ = some (.int .i64 P.throw) ∧ w'.cell? ⟨b, 8, none⟩ = some (.bool P.hard) ∧ w'.cell? ⟨bb, o + 1, none⟩ = some (.string xa) ∧ w'.cell? ⟨bb, o + 2, none⟩ = some (.string xb) ∧ Gr w w')) (first | exact HS.out _ ((Gr.refl w).drew) | exact HSt.out _ _ (by assumption) h5 | exact HSt.out _ _ (by assumption) ((Gr.refl _).alloc _) | exact HS.out _ (((Gr.refl w).drew.trans h5).alloc _) | exact HS.out _ (Gr.setCell (Gr.setCell (((Gr.refl w).alloc _).drew.trans h5) (Nat.le_refl _) _) (Nat.le_refl _) _)) (first | (go_at_call 90; (with_reducible refine (HOA.out _ ?hzz).mono ?_); (case hzz => exact HSg.out _ (by assumption)); rintro e w5 ⟨rfl, h5⟩; (first | (obtain ⟨k0, k1, f0, f1, z5⟩ := new2 h5; have g5 := ((Gr.refl w).alloc _).drew.trans h5) | (have g5 := (Gr.refl w).drew.trans h5)))))
  all_goals (first | (have HF := newAt_set (x := Value.int .i64 pe) (y := Value.int .i64 px) h5; revert HF; generalize (w5.setCell ⟨w.heap.size, 0, none⟩ (Value.int .i64 pe)).setCell ⟨w.heap.size, 1, none⟩ (Value.int .i64 px) = wz; generalize w.heap.size = gz; intro HF) | (have HF := newAt_alloc (t := 67) (x := Value.int .i64 pe) (y := Value.int .i64 px) g5; revert HF; generalize w5.alloc (.cells #[Value.int .i64 pe, Value.int .i64 px] 67) = wz; generalize w5.heap.size = gz; intro HF))
  all_goals
    obtain ⟨gn, gl, gs, q0, q1⟩ := HF
    have HGN := Lib.hid gn
    clear p0 p1 p2 p3 p4 p5 p6 p7 p8 y0 y1 y2
    obtain ⟨p0, p1, p2, p3, p4, p5, p6, p7, p8, y1, y2, -⟩ := HS.out _ gn
    have zb1 := Nat.lt_of_lt_of_le HZB.out gn.size
    have hbb1 := Nat.lt_of_lt_of_le HBB.out gn.size
    clear zb hbb
    have Q0 := Lib.hid q0
    have Q1 := Lib.hid q1
    go_upto_region 17 with fail
    (go_region_held3 (fun w' => (w'.cell? ⟨b, 0, none⟩ = some (.slice a1 P.es.length c1) ∧ w'.cell? ⟨b, 1, none⟩ = some (.slice a2 P.js.length c2) ∧ w'.cell? ⟨b, 2, none⟩ = some (.slice a3 P.ss.length c3) ∧ w'.cell? ⟨b, 3, none⟩ = some (.slice a4 P.ls.length c4) ∧ w'.cell? ⟨b, 4, none⟩ = some (.int .i64 P.top) ∧ w'.cell? ⟨b, 5, none⟩ = some (.int .i64 P.brake) ∧ w'.cell? ⟨b, 6, none⟩ = some (.int .i64 P.margin) ∧ w'.cell? ⟨b, 7, none⟩ = some (.int .i64 P.throw) ∧ w'.cell? ⟨b, 8, none⟩ = some (.bool P.hard) ∧ w'.cell? ⟨bb, o + 1, none⟩ = some (.string xa) ∧ w'.cell? ⟨bb, o + 2, none⟩ = some (.string xb) ∧ Gr w w')) (first | exact HS.out _ ((HGN.out).drew) | exact HSt.out _ _ (by assumption) h5 | exact HSt.out _ _ (by assumption) ((Gr.refl _).alloc _) | exact HS.out _ (((HGN.out).drew.trans h5).alloc _) | exact HS.out _ (Gr.setCell (Gr.setCell (((HGN.out).alloc _).drew.trans h5) HGN.out.size _) HGN.out.size _)) (first | (go_at_call 90; (with_reducible refine (HOB.out _ ?hzz).mono ?_); (case hzz => exact HSg.out _ (by assumption)); rintro e w5 ⟨rfl, h5⟩; (first | (obtain ⟨k0, k1, f0, f1, z5⟩ := new2 h5; have g5 := ((Gr.refl wz).alloc _).drew.trans h5) | (have g5 := (Gr.refl wz).drew.trans h5)))))
    all_goals (first | (have HF := newAt_set (x := Value.int .i64 qe) (y := Value.int .i64 qx) h5; revert HF; generalize (w5.setCell ⟨wz.heap.size, 0, none⟩ (Value.int .i64 qe)).setCell ⟨wz.heap.size, 1, none⟩ (Value.int .i64 qx) = wy; generalize wz.heap.size = gy; intro HF) | (have HF := newAt_alloc (t := 67) (x := Value.int .i64 qe) (y := Value.int .i64 qx) g5; revert HF; generalize w5.alloc (.cells #[Value.int .i64 qe, Value.int .i64 qx] 67) = wy; generalize w5.heap.size = gy; intro HF))
    all_goals
      obtain ⟨gn2, gl2, gs2, r0, r1⟩ := HF
      have G2 := HGN.out.trans gn2
      have q0 := (gn2.cell _ 0 gs).trans Q0.out
      have q1 := (gn2.cell _ 1 gs).trans Q1.out
      have gs' := Nat.lt_of_lt_of_le gs gn2.size
      clear p0 p1 p2 p3 p4 p5 p6 p7 p8 y1 y2 zb1 hbb1
      obtain ⟨p0, p1, p2, p3, p4, p5, p6, p7, p8, y1, y2, -⟩ := HS.out _ G2
      have zb2 := Nat.lt_of_lt_of_le HZB.out G2.size
      have GQ := Lib.hid (g.trans G2)
      have HG2 := Lib.hid G2
      clear gs gn2 G2
      cases ia
      · have HR := Lib.hid (HRR.out.trans (if_neg (by simp)))
        clear HRR
        go_wp2_with fail
        go_ret
        exact RetR.no HR.out GQ.out
      cases ib
      · have HR := Lib.hid (HRR.out.trans (if_neg (by simp)))
        clear HRR
        go_wp2_with fail
        go_ret
        exact RetR.no HR.out GQ.out
      have HR := Lib.hid (HRR.out.trans (if_pos ⟨rfl, rfl⟩))
      clear HRR
      obtain ⟨i0, hi0, hi1, hi2, hi3⟩ := info_parts Tryz.infoJn
      have h1y := H1.out.gr HG2.out
      have h2y := H2.out.gr HG2.out
      have fz := h1y.frozen 1
      have H1y := Lib.hid h1y
      have H2y := Lib.hid h2y
      have K2y := Lib.hid h2y.2.2.2.1
      have hBy := h2y.2.1
      have HKy := Lib.hid (HKK.out.gr HG2.out)
      clear h1y h2y
      go_upto_region 20 with fail
      go_region_law ((refine step_append_lies _ (by rfl) _ _ _ (by rfl) B 82 i0 _ 4 32 Tryz.underlying24 hi0 hi1 hi2 hi3 rfl (by decide) (.slice a2 P.js.length c2) P.js.length (P.js.flatMap Jn.cs) (by rfl) ((own_gr K2y.out ((Gr.refl _).alloc _)).drew) ⟨wy.heap.size, 0, none⟩ 1 1 [.int .i64 pe, .int .i64 px, .int .i64 qe, .int .i64 qx] (by rfl) (by rfl) (World.news_of_block (heap_alloc_new wy _)) (by simp [Value.oneCell']) (by omega) (by unfold maxLen; omega) (by omega) (by simp; omega) (wy.heap.size + 1) (by simp) ?_; intro gg cap w9 hown hgrow hat hlt; have cu9 := (hgrow.cell_far ⟨b, 1, none⟩ (by simp; omega) (by simpa using Ne.symm hfar)); have fu9 := (hgrow.frozen_far ⟨b, 1, none⟩ (by simp; omega) (by simpa using Ne.symm hfar))))
      all_goals go_wp2_with fail
      all_goals go_ret
      all_goals exact join_end (x := ⟨⟨pe, px⟩, ⟨qe, qx⟩⟩) (by decide) hkB hkb H1y.out H2y.out HKy.out GQ.out hb (((Gr.refl wy).alloc _).drew) HR.out hgrow hown
end Go.Proofs.YtknmngejjoohdaaGreatDoor
