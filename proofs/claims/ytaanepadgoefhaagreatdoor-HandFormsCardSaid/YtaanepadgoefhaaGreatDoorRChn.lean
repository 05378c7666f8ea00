/- the reference's Kind; chained: true only of a trail that is not empty. -/
import Derived.Test.YtaanepadgoefhaaGreatDoorRows
import Derived.Test.YtaanepadgoefhaaGreatDoorRRef6
import Derived.Deep.RegionHeld3
namespace Go.Proofs.YtaanepadgoefhaaGreatDoor
open Go.ChangeShapes Go.WideShapes Go.ChangeAt Go.RowKit Go.Maps
set_option linter.unusedVariables false
set_option linter.unusedSimpArgs false
theorem kindE_any (v : Value) (P : Pln) (i : Int) (w : World) (hP : IsPln w v P) :
    Calls Tryz.prog 41 #[v, .int .i64 i] w fun e w' => e = .returned (.int .i64 (kindP P i)) ∧ Gr w w' := by
  have HPI := Lib.hid hP
  obtain ⟨a1, c1, a2, c2, a3, c3, a4, c4, rfl, -⟩ := hP
  have hw0 : Gr w (w.alloc (.cells #[.slice a1 P.es.length c1, .slice a2 P.js.length c2, .slice a3 P.ss.length c3, .slice a4 P.ls.length c4, .int .i64 P.top, .int .i64 P.brake, .int .i64 P.margin, .int .i64 P.throw, .bool P.hard] 27)) := (Gr.refl _).alloc _
  have HK := Lib.hid (kind_any _ P i _ (HPI.out.gr hw0))
  unfold plnV at HK ⊢
  clear HPI
  go_enter Tryz.func41, Tryz.ntmps41
  go_wp2_with (first | (go_at_call 86; (with_reducible refine HK.out.mono ?_); rintro e w1 ⟨rfl, g1⟩) | fail)
  go_ret
  exact ⟨rfl, hw0.trans g1⟩
/-- a truth that, if it is one, says Q -/
def RetB (Q : Prop) (w : World) (e : Ending) (w' : World) : Prop := ∃ m, e = .returned (.bool m) ∧ Gr w w' ∧ (m = true → Q)
theorem RetB.no {Q : Prop} {w w' : World} (g : Gr w w') : RetB Q w (.returned (.bool false)) w' := ⟨false, rfl, g, fun h => by cases h⟩
theorem RetB.any {Q : Prop} {w w' : World} {m : Bool} (h : m = true → Q) (g : Gr w w') : RetB Q w (.returned (.bool m)) w' := ⟨m, rfl, g, h⟩
set_option maxRecDepth 100000 in
set_option maxHeartbeats 4000000 in
theorem chained_any (v u : Value) (P : Pln) (T : List Prt) (w : World) (hP : IsPln w v P) (hu : IsPrts w u T) (hn : T.length ≤ 5000) :
    Calls Tryz.prog 42 #[v, u] w (RetB (T ≠ []) w) := by
  have HPI := Lib.hid hP
  obtain ⟨a1, c1, a2, c2, a3, c3, a4, c4, rfl, -⟩ := hP
  have HU := Lib.hid hu
  obtain ⟨au, cu, rfl, hum, -⟩ := hu
  unfold maxLen at hum
  have hw0 : Gr w (w.alloc (.cells #[.slice a1 P.es.length c1, .slice a2 P.js.length c2, .slice a3 P.ss.length c3, .slice a4 P.ls.length c4, .int .i64 P.top, .int .i64 P.brake, .int .i64 P.margin, .int .i64 P.throw, .bool P.hard] 27)) := (Gr.refl _).alloc _
  have HB : Hid (∀ w', Gr (w.alloc (.cells #[.slice a1 P.es.length c1, .slice a2 P.js.length c2, .slice a3 P.ss.length c3, .slice a4 P.ls.length c4, .int .i64 P.top, .int .i64 P.brake, .int .i64 P.margin, .int .i64 P.throw, .bool P.hard] 27)) w' → PBox w' w.heap.size P (.slice a1 P.es.length c1) (.slice a2 P.js.length c2) (.slice a3 P.ss.length c3) (.slice a4 P.ls.length c4)) := fun w' g => (PBox.new w P _ _ _ _).gr g
  have HKD0 := Lib.hid (fun (m : Int) (w' : World) (g : Gr w w') => kindE_any _ P m w' (HPI.out.gr g))
  have HNX0 := Lib.hid (fun (x : Prt) (w' : World) (g : Gr w w') => refNextP_any _ P x w' (HPI.out.gr g))
  have HOU0 := Lib.hid (fun (m i : Int) (w' : World) (g : Gr w w') => refOuts_any _ P m i w' (HPI.out.gr g))
  unfold plnV at HKD0 HNX0 HOU0 ⊢
  clear HPI
  go_enter Tryz.func42, Tryz.ntmps42
  go_wp2_with fail
  go_loopw [15] (fun x wr => ∃ k : Nat, x = .int .i64 k ∧ k ≤ T.length ∧ Gr (w.alloc (.cells #[.slice a1 P.es.length c1, .slice a2 P.js.length c2, .slice a3 P.ss.length c3, .slice a4 P.ls.length c4, .int .i64 P.top, .int .i64 P.brake, .int .i64 P.margin, .int .i64 P.throw, .bool P.hard] 27)) wr) (fun x _ => T.length - (intOf x).toNat)
  case atStart => exact ⟨0, rfl, Nat.zero_le _, Gr.refl _⟩
  case round =>
    obtain ⟨k, rfl, hk, g⟩ := hrel
    have gw := hw0.trans g
    by_cases hlt : k < T.length
    · have hk1 : (k : Int) < (T.length : Int) := by omega
      obtain ⟨bb, o, hs, z, y0, y1⟩ := (HU.out.gr gw).at k hlt
      subst hs
      have HB1 := Lib.hid (HB.out _ g)
      obtain ⟨zb, p0, p1, p2, p3, p4, p5, p6, p7, p8⟩ := HB1.out
      generalize T[k] = h at y0 y1
      obtain ⟨he, hx⟩ := h
      dsimp only at y0 y1
      have HKD := Lib.hid (HKD0.out he)
      generalize kindP P he = K at HKD
      have HEN := Lib.hid (endsR_any K)
      generalize endsK K = E at HEN
      by_cases e0 : hx < 0
      · (go_upto_region 5 with (first | (go_at_call 41; (with_reducible refine (HKD.out _ (gw.alloc _)).mono ?_); rintro e w1 ⟨rfl, g1⟩; have gw1 := (gw.alloc _).trans g1; obtain ⟨zh, h0, h1⟩ := new2s g1) | fail); skip; go_quiet ((go_at_call 87; exact Calls.quiet_of_same (HEN.out _))))
        (go_wp2_with fail; go_ret; exact RetB.no (gw1.drewN _))
      by_cases e1 : E ≤ hx
      · (go_upto_region 5 with (first | (go_at_call 41; (with_reducible refine (HKD.out _ (gw.alloc _)).mono ?_); rintro e w1 ⟨rfl, g1⟩; have gw1 := (gw.alloc _).trans g1; obtain ⟨zh, h0, h1⟩ := new2s g1) | fail); (have tx0 : ¬ hx < 0 := by omega); go_quiet ((go_at_call 87; exact Calls.quiet_of_same (HEN.out _))))
        (go_wp2_with fail; go_ret; exact RetB.no (gw1.drewN _))
      by_cases e2 : K = 4
      · have t2 : (K == 4) = true := beqT e2
        clear e2
        by_cases e3 : 0 < k
        · have t3 : 0 < (k : Int) := by omega
          (go_upto_region 5 with (first | (go_at_call 41; (with_reducible refine (HKD.out _ (gw.alloc _)).mono ?_); rintro e w1 ⟨rfl, g1⟩; have gw1 := (gw.alloc _).trans g1; obtain ⟨zh, h0, h1⟩ := new2s g1) | fail); (have tx0 : ¬ hx < 0 := by omega); (have tx1 : ¬ E ≤ hx := by omega); go_quiet ((go_at_call 87; exact Calls.quiet_of_same (HEN.out _))))
          (go_wp2_with fail; go_ret; exact RetB.no (gw1.drewN _))
        have t3 : ¬ 0 < (k : Int) := by omega
        by_cases e4 : T.length = 1
        · have t4 : ((T.length : Int) == 1) = true := beqT (by omega)
          (go_upto_region 5 with (first | (go_at_call 41; (with_reducible refine (HKD.out _ (gw.alloc _)).mono ?_); rintro e w1 ⟨rfl, g1⟩; have gw1 := (gw.alloc _).trans g1; obtain ⟨zh, h0, h1⟩ := new2s g1) | fail); (have tx0 : ¬ hx < 0 := by omega); (have tx1 : ¬ E ≤ hx := by omega); (have tx2 : ¬ 0 < (k : Int) := by omega); go_quiet ((go_at_call 87; exact Calls.quiet_of_same (HEN.out _))))
          (go_wp2_with fail; go_ret; exact RetB.no (gw1.drewN _))
        have t4 : ((T.length : Int) == 1) = false := beqF (by omega)
        obtain rfl : k = 0 := by omega
        clear t3
        rw [Nat.zero_mul, Nat.add_zero] at y0 y1
        (go_upto_region 5 with (first | (go_at_call 41; (with_reducible refine (HKD.out _ (gw.alloc _)).mono ?_); rintro e w1 ⟨rfl, g1⟩; have gw1 := (gw.alloc _).trans g1; obtain ⟨zh, h0, h1⟩ := new2s g1) | fail); (have tx0 : ¬ hx < 0 := by omega); (have tx1 : ¬ E ≤ hx := by omega); go_quiet ((go_at_call 87; exact Calls.quiet_of_same (HEN.out _))))
        go_wp2_with fail
        go_roundw
        case rel => exact ⟨1, rfl, by omega, ((g.alloc _).trans g1).drewN _⟩
        case measure => simp [intOf]; omega
      have t2 : (K == 4) = false := beqF e2
      clear e2
      by_cases e3 : k = 0
      · subst e3
        rw [Nat.zero_mul, Nat.add_zero] at y0 y1
        (go_upto_region 5 with (first | (go_at_call 41; (with_reducible refine (HKD.out _ (gw.alloc _)).mono ?_); rintro e w1 ⟨rfl, g1⟩; have gw1 := (gw.alloc _).trans g1; obtain ⟨zh, h0, h1⟩ := new2s g1) | fail); (have tx0 : ¬ hx < 0 := by omega); (have tx1 : ¬ E ≤ hx := by omega); go_quiet ((go_at_call 87; exact Calls.quiet_of_same (HEN.out _))))
        go_wp2_with fail
        go_roundw
        case rel => exact ⟨1, rfl, by omega, ((g.alloc _).trans g1).drewN _⟩
        case measure => simp [intOf]; omega
      have t3 : ((k : Int) == 0) = false := beqF (by omega)
      obtain ⟨j, hj⟩ : ∃ j, k = j + 1 := ⟨k - 1, by omega⟩
      have hjl : j < T.length := by omega
      obtain ⟨b2, o2, hs2, z2, x0, x1⟩ := (HU.out.gr gw).at j hjl
      simp only [Option.some.injEq, Addr.mk.injEq, and_true] at hs2
      obtain ⟨rfl, rfl⟩ := hs2
      generalize T[j] = q at x0 x1
      obtain ⟨qe, qx⟩ := q
      dsimp only at x0 x1
      have j0 : (0 : Int) ≤ (j : Int) := by omega
      have j1 : (j : Int) < (T.length : Int) := by omega
      have tj : IntKind.i64.wrap ((k : Int) - 1) = (j : Int) := by rw [show (k : Int) - 1 = j from by omega]; exact IntWalk.i64_in _ (by omega)
      clear hj
      (go_upto_region 5 with (first | (go_at_call 41; (with_reducible refine (HKD.out _ (gw.alloc _)).mono ?_); rintro e w1 ⟨rfl, g1⟩; have gw1 := (gw.alloc _).trans g1; obtain ⟨zh, h0, h1⟩ := new2s g1) | fail); (have tx0 : ¬ hx < 0 := by omega); (have tx1 : ¬ E ≤ hx := by omega); go_quiet ((go_at_call 87; exact Calls.quiet_of_same (HEN.out _))))
      go_wp2_with fail
      have gqr : Gr wr (w1.drewN nq) := (((Gr.refl _).alloc _).trans g1).drewN _
      have zhr : wr.heap.size < (w1.drewN nq).heap.size := Nat.lt_of_lt_of_le zh ((Gr.refl w1).drewN nq).size
      have h0r := (((Gr.refl w1).drewN nq).cell _ _ zh).trans h0
      have h1r := (((Gr.refl w1).drewN nq).cell _ _ zh).trans h1
      clear h0 h1 p0 p1 p2 p3 p4 p5 p6 p7 p8 y0 y1
      generalize w1.drewN nq = wq at *
      have gq := gw.trans gqr
      obtain ⟨zb2, d0, d1, d2, d3, d4, d5, d6, d7, d8⟩ := HB1.out.gr gqr
      have z3 := Nat.lt_of_lt_of_le z2 gqr.size
      have x0r := (gqr.cell _ _ z2).trans x0
      have x1r := (gqr.cell _ _ z2).trans x1
      have HS : Hid (∀ w', Gr wq w' → (Gr wq w' ∧ w'.cell? ⟨w.heap.size, 0, none⟩ = some (.slice a1 P.es.length c1) ∧ w'.cell? ⟨w.heap.size, 1, none⟩ = some (.slice a2 P.js.length c2) ∧ w'.cell? ⟨w.heap.size, 2, none⟩ = some (.slice a3 P.ss.length c3) ∧ w'.cell? ⟨w.heap.size, 3, none⟩ = some (.slice a4 P.ls.length c4) ∧ w'.cell? ⟨w.heap.size, 4, none⟩ = some (.int .i64 P.top) ∧ w'.cell? ⟨w.heap.size, 5, none⟩ = some (.int .i64 P.brake) ∧ w'.cell? ⟨w.heap.size, 6, none⟩ = some (.int .i64 P.margin) ∧ w'.cell? ⟨w.heap.size, 7, none⟩ = some (.int .i64 P.throw) ∧ w'.cell? ⟨w.heap.size, 8, none⟩ = some (.bool P.hard) ∧ w'.cell? ⟨bb, o + j * 2, none⟩ = some (.int .i64 qe) ∧ w'.cell? ⟨bb, o + j * 2 + 1, none⟩ = some (.int .i64 qx))) := fun w' h => ⟨h, (h.cell _ _ zb2).trans d0, (h.cell _ _ zb2).trans d1, (h.cell _ _ zb2).trans d2, (h.cell _ _ zb2).trans d3, (h.cell _ _ zb2).trans d4, (h.cell _ _ zb2).trans d5, (h.cell _ _ zb2).trans d6, (h.cell _ _ zb2).trans d7, (h.cell _ _ zb2).trans d8, (h.cell _ _ z3).trans x0r, (h.cell _ _ z3).trans x1r⟩
      have HSt : Hid (∀ wx wy, (Gr wq wx ∧ wx.cell? ⟨w.heap.size, 0, none⟩ = some (.slice a1 P.es.length c1) ∧ wx.cell? ⟨w.heap.size, 1, none⟩ = some (.slice a2 P.js.length c2) ∧ wx.cell? ⟨w.heap.size, 2, none⟩ = some (.slice a3 P.ss.length c3) ∧ wx.cell? ⟨w.heap.size, 3, none⟩ = some (.slice a4 P.ls.length c4) ∧ wx.cell? ⟨w.heap.size, 4, none⟩ = some (.int .i64 P.top) ∧ wx.cell? ⟨w.heap.size, 5, none⟩ = some (.int .i64 P.brake) ∧ wx.cell? ⟨w.heap.size, 6, none⟩ = some (.int .i64 P.margin) ∧ wx.cell? ⟨w.heap.size, 7, none⟩ = some (.int .i64 P.throw) ∧ wx.cell? ⟨w.heap.size, 8, none⟩ = some (.bool P.hard) ∧ wx.cell? ⟨bb, o + j * 2, none⟩ = some (.int .i64 qe) ∧ wx.cell? ⟨bb, o + j * 2 + 1, none⟩ = some (.int .i64 qx)) → Gr wx wy → (Gr wq wy ∧ wy.cell? ⟨w.heap.size, 0, none⟩ = some (.slice a1 P.es.length c1) ∧ wy.cell? ⟨w.heap.size, 1, none⟩ = some (.slice a2 P.js.length c2) ∧ wy.cell? ⟨w.heap.size, 2, none⟩ = some (.slice a3 P.ss.length c3) ∧ wy.cell? ⟨w.heap.size, 3, none⟩ = some (.slice a4 P.ls.length c4) ∧ wy.cell? ⟨w.heap.size, 4, none⟩ = some (.int .i64 P.top) ∧ wy.cell? ⟨w.heap.size, 5, none⟩ = some (.int .i64 P.brake) ∧ wy.cell? ⟨w.heap.size, 6, none⟩ = some (.int .i64 P.margin) ∧ wy.cell? ⟨w.heap.size, 7, none⟩ = some (.int .i64 P.throw) ∧ wy.cell? ⟨w.heap.size, 8, none⟩ = some (.bool P.hard) ∧ wy.cell? ⟨bb, o + j * 2, none⟩ = some (.int .i64 qe) ∧ wy.cell? ⟨bb, o + j * 2 + 1, none⟩ = some (.int .i64 qx))) := fun wx wy h h2 => HS.out _ (h.1.trans h2)
      have HSg : Hid (∀ wx, (Gr wq wx ∧ wx.cell? ⟨w.heap.size, 0, none⟩ = some (.slice a1 P.es.length c1) ∧ wx.cell? ⟨w.heap.size, 1, none⟩ = some (.slice a2 P.js.length c2) ∧ wx.cell? ⟨w.heap.size, 2, none⟩ = some (.slice a3 P.ss.length c3) ∧ wx.cell? ⟨w.heap.size, 3, none⟩ = some (.slice a4 P.ls.length c4) ∧ wx.cell? ⟨w.heap.size, 4, none⟩ = some (.int .i64 P.top) ∧ wx.cell? ⟨w.heap.size, 5, none⟩ = some (.int .i64 P.brake) ∧ wx.cell? ⟨w.heap.size, 6, none⟩ = some (.int .i64 P.margin) ∧ wx.cell? ⟨w.heap.size, 7, none⟩ = some (.int .i64 P.throw) ∧ wx.cell? ⟨w.heap.size, 8, none⟩ = some (.bool P.hard) ∧ wx.cell? ⟨bb, o + j * 2, none⟩ = some (.int .i64 qe) ∧ wx.cell? ⟨bb, o + j * 2 + 1, none⟩ = some (.int .i64 qx)) → Gr wq wx) := fun wx h => h.1
      have HH : Hid (∀ w', Gr wq w' → wr.heap.size < w'.heap.size ∧ w'.cell? ⟨wr.heap.size, 0, none⟩ = some (.int .i64 he) ∧ w'.cell? ⟨wr.heap.size, 1, none⟩ = some (.int .i64 hx) ∧ PBox w' w.heap.size P (.slice a1 P.es.length c1) (.slice a2 P.js.length c2) (.slice a3 P.ss.length c3) (.slice a4 P.ls.length c4)) := fun w' h => ⟨Nat.lt_of_lt_of_le zhr h.size, (h.cell _ _ zhr).trans h0r, (h.cell _ _ zhr).trans h1r, (HB1.out.gr gqr).gr h⟩
      clear e0 e1 e3 t2 h0r h1r x0 x1 HKD HEN gw1 g1 z
      rcases hnx : nextL P.js ⟨qe, qx⟩ with _ | ⟨ye, yx⟩
      · have HNX : Hid (∀ w', Gr w w' → Calls Tryz.prog 44 #[(.agg #[.slice a1 P.es.length c1, .slice a2 P.js.length c2, .slice a3 P.ss.length c3, .slice a4 P.ls.length c4, .int .i64 P.top, .int .i64 P.brake, .int .i64 P.margin, .int .i64 P.throw, .bool P.hard]), .agg #[.int .i64 qe, .int .i64 qx]] w' fun e w'' => e = .returned (.tuple #[.agg #[.int .i64 0, .int .i64 0], .bool false]) ∧ Gr w' w'') := fun w' g => by have := HNX0.out ⟨qe, qx⟩ w' g; rw [hnx] at this; exact this
        clear hnx
        go_region_held3 (fun w' => Gr wq w' ∧ w'.cell? ⟨w.heap.size, 0, none⟩ = some (.slice a1 P.es.length c1) ∧ w'.cell? ⟨w.heap.size, 1, none⟩ = some (.slice a2 P.js.length c2) ∧ w'.cell? ⟨w.heap.size, 2, none⟩ = some (.slice a3 P.ss.length c3) ∧ w'.cell? ⟨w.heap.size, 3, none⟩ = some (.slice a4 P.ls.length c4) ∧ w'.cell? ⟨w.heap.size, 4, none⟩ = some (.int .i64 P.top) ∧ w'.cell? ⟨w.heap.size, 5, none⟩ = some (.int .i64 P.brake) ∧ w'.cell? ⟨w.heap.size, 6, none⟩ = some (.int .i64 P.margin) ∧ w'.cell? ⟨w.heap.size, 7, none⟩ = some (.int .i64 P.throw) ∧ w'.cell? ⟨w.heap.size, 8, none⟩ = some (.bool P.hard) ∧ w'.cell? ⟨bb, o + j * 2, none⟩ = some (.int .i64 qe) ∧ w'.cell? ⟨bb, o + j * 2 + 1, none⟩ = some (.int .i64 qx)) (first | exact HS.out _ (Gr.refl _) | exact HS.out _ (Gr.refl _).drew | exact HSt.out _ _ (by assumption) h5 | exact HSt.out _ _ (by assumption) ((Gr.refl _).alloc _) | exact HS.out _ (((Gr.refl wq).drew.trans h5).alloc _) | exact HS.out _ (Gr.setCell (Gr.setCell (((Gr.refl wq).alloc _).drew.trans h5) (Nat.le_refl _) _) (Nat.le_refl _) _)) (first | (go_at_call 44; (with_reducible refine (HNX.out _ (gq.trans ?hzz)).mono ?_); (case hzz => exact HSg.out _ (by assumption)); rintro e w5 ⟨rfl, h5⟩; (first | (obtain ⟨k0, k1, f0, f1, z5⟩ := new2 h5; have g5 := ((Gr.refl wq).alloc _).drew.trans h5) | (have g5 := (Gr.refl wq).drew.trans h5))))
        all_goals (first | (have HF := newAt_set (x := Value.int .i64 0) (y := Value.int .i64 0) h5; revert HF; generalize (w5.setCell ⟨wq.heap.size, 0, none⟩ (Value.int .i64 0)).setCell ⟨wq.heap.size, 1, none⟩ (Value.int .i64 0) = wz; generalize wq.heap.size = gz; intro HF) | (have HF := newAt_alloc (t := 68) (x := Value.int .i64 0) (y := Value.int .i64 0) g5; revert HF; generalize w5.alloc (.cells #[Value.int .i64 0, Value.int .i64 0] 68) = wz; generalize w5.heap.size = gz; intro HF)); obtain ⟨gn, gl, gs, q0, q1⟩ := HF
        all_goals go_wp2_with fail
        all_goals go_ret
        all_goals exact RetB.no (gq.trans gn)
      · have HNX : Hid (∀ w', Gr w w' → Calls Tryz.prog 44 #[(.agg #[.slice a1 P.es.length c1, .slice a2 P.js.length c2, .slice a3 P.ss.length c3, .slice a4 P.ls.length c4, .int .i64 P.top, .int .i64 P.brake, .int .i64 P.margin, .int .i64 P.throw, .bool P.hard]), .agg #[.int .i64 qe, .int .i64 qx]] w' fun e w'' => e = .returned (.tuple #[.agg #[.int .i64 ye, .int .i64 yx], .bool true]) ∧ Gr w' w'') := fun w' g => by have := HNX0.out ⟨qe, qx⟩ w' g; rw [hnx] at this; exact this
        clear hnx
        have HOU := Lib.hid (HOU0.out ye yx)
        generalize outsK (kindP P ye) yx = L at HOU
        go_region_held3 (fun w' => Gr wq w' ∧ w'.cell? ⟨w.heap.size, 0, none⟩ = some (.slice a1 P.es.length c1) ∧ w'.cell? ⟨w.heap.size, 1, none⟩ = some (.slice a2 P.js.length c2) ∧ w'.cell? ⟨w.heap.size, 2, none⟩ = some (.slice a3 P.ss.length c3) ∧ w'.cell? ⟨w.heap.size, 3, none⟩ = some (.slice a4 P.ls.length c4) ∧ w'.cell? ⟨w.heap.size, 4, none⟩ = some (.int .i64 P.top) ∧ w'.cell? ⟨w.heap.size, 5, none⟩ = some (.int .i64 P.brake) ∧ w'.cell? ⟨w.heap.size, 6, none⟩ = some (.int .i64 P.margin) ∧ w'.cell? ⟨w.heap.size, 7, none⟩ = some (.int .i64 P.throw) ∧ w'.cell? ⟨w.heap.size, 8, none⟩ = some (.bool P.hard) ∧ w'.cell? ⟨bb, o + j * 2, none⟩ = some (.int .i64 qe) ∧ w'.cell? ⟨bb, o + j * 2 + 1, none⟩ = some (.int .i64 qx)) (first | exact HS.out _ (Gr.refl _) | exact HS.out _ (Gr.refl _).drew | exact HSt.out _ _ (by assumption) h5 | exact HSt.out _ _ (by assumption) ((Gr.refl _).alloc _) | exact HS.out _ (((Gr.refl wq).drew.trans h5).alloc _) | exact HS.out _ (Gr.setCell (Gr.setCell (((Gr.refl wq).alloc _).drew.trans h5) (Nat.le_refl _) _) (Nat.le_refl _) _)) (first | (go_at_call 44; (with_reducible refine (HNX.out _ (gq.trans ?hzz)).mono ?_); (case hzz => exact HSg.out _ (by assumption)); rintro e w5 ⟨rfl, h5⟩; (first | (obtain ⟨k0, k1, f0, f1, z5⟩ := new2 h5; have g5 := ((Gr.refl wq).alloc _).drew.trans h5) | (have g5 := (Gr.refl wq).drew.trans h5))))
        all_goals (first | (have HF := newAt_set (x := Value.int .i64 ye) (y := Value.int .i64 yx) h5; revert HF; generalize (w5.setCell ⟨wq.heap.size, 0, none⟩ (Value.int .i64 ye)).setCell ⟨wq.heap.size, 1, none⟩ (Value.int .i64 yx) = wz; generalize wq.heap.size = gz; intro HF) | (have HF := newAt_alloc (t := 68) (x := Value.int .i64 ye) (y := Value.int .i64 yx) g5; revert HF; generalize w5.alloc (.cells #[Value.int .i64 ye, Value.int .i64 yx] 68) = wz; generalize w5.heap.size = gz; intro HF)); obtain ⟨gn, gl, gs, q0, q1⟩ := HF
        all_goals obtain ⟨zhz, hz0, hz1, zpz, c0, c1', c2', c3', c4', c5, c6, c7, c8⟩ := HH.out _ gn
        all_goals have gz2 := gq.trans gn
        all_goals
          by_cases hye : ye = he
          · have t5 := bneF hye
            clear hye
            go_wp2_with (first | (go_at_call 88; (with_reducible refine (HOU.out _ gz2).mono ?_); rintro e w6 ⟨v, rfl, hv, g6⟩; have HV := Lib.hid hv; obtain ⟨av, cv, rfl, hvm, -⟩ := hv; unfold maxLen at hvm) | fail)
            go_loopw [10, 75] (fun f x w7 => ∃ (m : Nat) (b : Bool), f = .bool b ∧ x = .int .i64 m ∧ m ≤ L.length ∧ Gr w6 w7) (fun _ x _ => L.length - (intOf x).toNat)
            case atStart => exact ⟨0, false, rfl, rfl, Nat.zero_le _, Gr.refl _⟩
            case round =>
              obtain ⟨m, b, rfl, rfl, hm, g7⟩ := hrel
              clear c0 c1' c2' c3' c4' c5 c6 c7 c8 hz0 hz1 zhz
              obtain ⟨zhz, hz0, hz1, -⟩ := HH.out _ (gn.trans (g6.trans g7))
              rename_i w7
              by_cases hml : m < L.length
              · have hm1 : (m : Int) < (L.length : Int) := by omega
                obtain ⟨bv, ov, hsv, zv, hc⟩ := IsRow.at (IsRow.gr HV.out g7) m hml
                subst hsv
                have v0 := hc 0 (by omega)
                have v1 := hc 1 (by omega)
                have e0 : wayC L m 0 = .int .i64 L[m].1 := by unfold wayC; rw [if_pos rfl, getD_at _ _ hml]
                have e1 : wayC L m 1 = .int .i64 L[m].2 := by unfold wayC; rw [if_neg (by omega), getD_at _ _ hml]
                rw [e0] at v0
                rw [e1] at v1
                clear hc e0 e1
                generalize L[m] = x at v0 v1
                obtain ⟨xo, xp⟩ := x
                dsimp only at v0 v1
                rw [Nat.add_zero] at v0
                cases b
                · by_cases ho : xo = hx
                  · have t6 := beqT ho
                    clear ho
                    go_wp2_with fail
                    go_roundw
                    case rel => exact ⟨m + 1, true, rfl, by go_num, hml, g7.alloc _⟩
                    case measure => simp [intOf]; omega
                  · have t6 := beqF ho
                    clear ho
                    go_wp2_with fail
                    go_roundw
                    case rel => exact ⟨m + 1, false, rfl, by go_num, hml, g7.alloc _⟩
                    case measure => simp [intOf]; omega
                · go_wp2_with fail
                  go_roundw
                  case rel => exact ⟨m + 1, true, rfl, by go_num, hml, g7.alloc _⟩
                  case measure => simp [intOf]; omega
              · have hm1 : ¬ (m : Int) < (L.length : Int) := by omega
                cases b
                · go_wp2_with fail
                  go_ret
                  exact RetB.no (gz2.trans (g6.trans g7))
                · go_wp2_with fail
                  go_roundw
                  case rel => exact ⟨k + 1, by go_num, by omega, (((g.trans gqr).trans gn).trans g6).trans g7⟩
                  case measure => simp [intOf]; omega
          · have t5 := bneT hye
            clear hye
            go_wp2_with fail
            go_ret
            exact RetB.no (gz2)
    · have t0 : 0 < T.length → 0 < (T.length : Int) := fun h => by omega
      go_wp2_with fail
      go_ret
      exact RetB.any (fun h => by rintro rfl; simp at h) gw
end Go.Proofs.YtaanepadgoefhaaGreatDoor
