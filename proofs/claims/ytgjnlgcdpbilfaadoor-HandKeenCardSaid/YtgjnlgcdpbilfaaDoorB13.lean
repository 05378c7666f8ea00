/- Chn: the reference's Kind; chained: true only of a trail that is not empty.
Mbd: the reference's MayBody: what holds of a body that may be.
Mbf: the reference's MayBody: a body that runs. -/
import Derived.Test.YtgjnlgcdpbilfaaDoorRows
import Derived.Test.YtgjnlgcdpbilfaaDoorB12
import Derived.Deep.RegionHeld3
import Derived.Deep.Cut
import Derived.Deep.DrawnRows
namespace Go.Proofs.YtgjnlgcdpbilfaaDoor
open Go.ChangeShapes Go.WideShapes Go.ChangeAt Go.RowKit Go.Maps
set_option linter.unusedVariables false
set_option linter.unusedSimpArgs false
theorem kindE_any (v : Value) (P : Pln) (i : Int) (w : World) (hP : IsPln w v P) :
    Calls Tryd.prog 17 #[v, .int .i64 i] w fun e w' => e = .returned (.int .i64 (kindP P i)) ∧ Gr w w' := by
  have HPI := Lib.hid hP
  obtain ⟨a1, c1, a2, c2, a3, c3, a4, c4, rfl, -⟩ := hP
  have hw0 : Gr w (w.alloc (.cells #[.slice a1 P.es.length c1, .slice a2 P.js.length c2, .slice a3 P.ss.length c3, .slice a4 P.ls.length c4, .int .i64 P.top, .int .i64 P.brake, .int .i64 P.margin, .int .i64 P.throw, .bool P.hard] 27)) := (Gr.refl _).alloc _
  have HK := Lib.hid (kind_any _ P i _ (HPI.out.gr hw0))
  unfold plnV at HK ⊢
  clear HPI
  go_enter Tryd.func17, Tryd.ntmps17
  go_wp2_with (first | (go_at_call 41; (with_reducible refine HK.out.mono ?_); rintro e w1 ⟨rfl, g1⟩) | fail)
  go_ret
  exact ⟨rfl, hw0.trans g1⟩
def RetB (Q : Prop) (w : World) (e : Ending) (w' : World) : Prop := ∃ m, e = .returned (.bool m) ∧ Gr w w' ∧ (m = true → Q)
theorem RetB.no {Q : Prop} {w w' : World} (g : Gr w w') : RetB Q w (.returned (.bool false)) w' := ⟨false, rfl, g, fun h => by cases h⟩
theorem RetB.any {Q : Prop} {w w' : World} {m : Bool} (h : m = true → Q) (g : Gr w w') : RetB Q w (.returned (.bool m)) w' := ⟨m, rfl, g, h⟩
set_option maxRecDepth 100000 in
set_option maxHeartbeats 4000000 in
theorem chained_any (v u : Value) (P : Pln) (T : List Prt) (w : World) (hP : IsPln w v P) (hu : IsPrts w u T) (hn : T.length ≤ 5000) :
    Calls Tryd.prog 18 #[v, u] w (RetB (T ≠ []) w) := by
  have HPI := Lib.hid hP
  obtain ⟨a1, c1, a2, c2, a3, c3, a4, c4, rfl, -⟩ := hP
  have HU := Lib.hid hu
  obtain ⟨au, cu, rfl, hum, -⟩ := hu
  unfold maxLen at hum
  have hw0 : Gr w (w.alloc (.cells #[.slice a1 P.es.length c1, .slice a2 P.js.length c2, .slice a3 P.ss.length c3, .slice a4 P.ls.length c4, .int .i64 P.top, .int .i64 P.brake, .int .i64 P.margin, .int .i64 P.throw, .bool P.hard] 27)) := (Gr.refl _).alloc _
  have HB : Hid (∀ w', Gr (w.alloc (.cells #[.slice a1 P.es.length c1, .slice a2 P.js.length c2, .slice a3 P.ss.length c3, .slice a4 P.ls.length c4, .int .i64 P.top, .int .i64 P.brake, .int .i64 P.margin, .int .i64 P.throw, .bool P.hard] 27)) w' → PBox w' w.heap.size P (.slice a1 P.es.length c1) (.slice a2 P.js.length c2) (.slice a3 P.ss.length c3) (.slice a4 P.ls.length c4)) := fun w' g => (PBox.new w P _ _ _ _).gr g
  have HKD0 := Lib.hid (fun (m : Int) (w' : World) (g : Gr w w') => kindE_any _ P m w' (HPI.out.gr g))
  have HNX0 := Lib.hid (fun (x : Prt) (w' : World) (g : Gr w w') => refNextP_any _ P x w' (HPI.out.gr g))
  have HOU0 := Lib.hid (fun (m i : Int) (w' : World) (g : Gr w w') => refOuts_any _ P m i w' (HPI.out.gr g))
  unfold plnV at HKD0 HNX0 HOU0 ⊢
  clear HPI
  go_enter Tryd.func18, Tryd.ntmps18
  go_wp2_with fail
  go_loopw [15] (fun x wr => ∃ k : Nat, x = .int .i64 k ∧ k ≤ T.length ∧ Gr (w.alloc (.cells #[.slice a1 P.es.length c1, .slice a2 P.js.length c2, .slice a3 P.ss.length c3, .slice a4 P.ls.length c4, .int .i64 P.top, .int .i64 P.brake, .int .i64 P.margin, .int .i64 P.throw, .bool P.hard] 27)) wr) (fun x _ => T.length - (intOf x).toNat)
  case atStart => exact ⟨0, rfl, Nat.zero_le _, Gr.refl _⟩
  case round =>
    obtain ⟨k, rfl, hk, g⟩ := hrel
    have gw := hw0.trans g
    by_cases hlt : k < T.length
    · have hk1 : (k : Int) < (T.length : Int) := by omega
      obtain ⟨bb, o, hs, z, y0, y1⟩ := (HU.out.gr gw).at k hlt
      subst hs
      have HB1 := Lib.hid (HB.out _ g)
      obtain ⟨zb, p0, p1, p2, p3, p4, p5, p6, p7, p8⟩ := HB1.out
      generalize T[k] = h at y0 y1
      obtain ⟨he, hx⟩ := h
      dsimp only at y0 y1
      have HKD := Lib.hid (HKD0.out he)
      generalize kindP P he = K at HKD
      have HEN := Lib.hid (endsR_any K)
      generalize endsK K = E at HEN
      by_cases e0 : hx < 0
      · (go_upto_region 5 with (first | (go_at_call 17; (with_reducible refine (HKD.out _ (gw.alloc _)).mono ?_); rintro e w1 ⟨rfl, g1⟩; have gw1 := (gw.alloc _).trans g1; obtain ⟨zh, h0, h1⟩ := new2s g1) | fail); skip; go_quiet ((go_at_call 42; exact Calls.quiet_of_same (HEN.out _))))
        (go_wp2_with fail; go_ret; exact RetB.no (gw1.drewN _))
      by_cases e1 : E ≤ hx
      · (go_upto_region 5 with (first | (go_at_call 17; (with_reducible refine (HKD.out _ (gw.alloc _)).mono ?_); rintro e w1 ⟨rfl, g1⟩; have gw1 := (gw.alloc _).trans g1; obtain ⟨zh, h0, h1⟩ := new2s g1) | fail); (have tx0 : ¬ hx < 0 := by omega); go_quiet ((go_at_call 42; exact Calls.quiet_of_same (HEN.out _))))
        (go_wp2_with fail; go_ret; exact RetB.no (gw1.drewN _))
      by_cases e2 : K = 4
      · have t2 : (K == 4) = true := beqT e2
        clear e2
        by_cases e3 : 0 < k
        · have t3 : 0 < (k : Int) := by omega
          (go_upto_region 5 with (first | (go_at_call 17; (with_reducible refine (HKD.out _ (gw.alloc _)).mono ?_); rintro e w1 ⟨rfl, g1⟩; have gw1 := (gw.alloc _).trans g1; obtain ⟨zh, h0, h1⟩ := new2s g1) | fail); (have tx0 : ¬ hx < 0 := by omega); (have tx1 : ¬ E ≤ hx := by omega); go_quiet ((go_at_call 42; exact Calls.quiet_of_same (HEN.out _))))
          (go_wp2_with fail; go_ret; exact RetB.no (gw1.drewN _))
        have t3 : ¬ 0 < (k : Int) := by omega
        by_cases e4 : T.length = 1
        · have t4 : ((T.length : Int) == 1) = true := beqT (by omega)
          (go_upto_region 5 with (first | (go_at_call 17; (with_reducible refine (HKD.out _ (gw.alloc _)).mono ?_); rintro e w1 ⟨rfl, g1⟩; have gw1 := (gw.alloc _).trans g1; obtain ⟨zh, h0, h1⟩ := new2s g1) | fail); (have tx0 : ¬ hx < 0 := by omega); (have tx1 : ¬ E ≤ hx := by omega); (have tx2 : ¬ 0 < (k : Int) := by omega); go_quiet ((go_at_call 42; exact Calls.quiet_of_same (HEN.out _))))
          (go_wp2_with fail; go_ret; exact RetB.no (gw1.drewN _))
        have t4 : ((T.length : Int) == 1) = false := beqF (by omega)
        obtain rfl : k = 0 := by omega
        clear t3
        rw [Nat.zero_mul, Nat.add_zero] at y0 y1
        (go_upto_region 5 with (first | (go_at_call 17; (with_reducible refine (HKD.out _ (gw.alloc _)).mono ?_); rintro e w1 ⟨rfl, g1⟩; have gw1 := (gw.alloc _).trans g1; obtain ⟨zh, h0, h1⟩ := new2s g1) | fail); (have tx0 : ¬ hx < 0 := by omega); (have tx1 : ¬ E ≤ hx := by omega); go_quiet ((go_at_call 42; exact Calls.quiet_of_same (HEN.out _))))
        go_wp2_with fail
        go_roundw
        case rel => exact ⟨1, rfl, by omega, ((g.alloc _).trans g1).drewN _⟩
        case measure => simp [intOf]; omega
      have t2 : (K == 4) = false := beqF e2
      clear e2
      by_cases e3 : k = 0
      · subst e3
        rw [Nat.zero_mul, Nat.add_zero] at y0 y1
        (go_upto_region 5 with (first | (go_at_call 17; (with_reducible refine (HKD.out _ (gw.alloc _)).mono ?_); rintro e w1 ⟨rfl, g1⟩; have gw1 := (gw.alloc _).trans g1; obtain ⟨zh, h0, h1⟩ := new2s g1) | fail); (have tx0 : ¬ hx < 0 := by omega); (have tx1 : ¬ E ≤ hx := by omega); go_quiet ((go_at_call 42; exact Calls.quiet_of_same (HEN.out _))))
        go_wp2_with fail
        go_roundw
        case rel => exact ⟨1, rfl, by omega, ((g.alloc _).trans g1).drewN _⟩
        case measure => simp [intOf]; omega
      have t3 : ((k : Int) == 0) = false := beqF (by omega)
      obtain ⟨j, hj⟩ : ∃ j, k = j + 1 := ⟨k - 1, by omega⟩
      have hjl : j < T.length := by omega
      obtain ⟨b2, o2, hs2, z2, x0, x1⟩ := (HU.out.gr gw).at j hjl
      simp only [Option.some.injEq, Addr.mk.injEq, and_true] at hs2
      obtain ⟨rfl, rfl⟩ := hs2
      generalize T[j] = q at x0 x1
      obtain ⟨qe, qx⟩ := q
      dsimp only at x0 x1
      have j0 : (0 : Int) ≤ (j : Int) := by omega
      have j1 : (j : Int) < (T.length : Int) := by omega
      have tj : IntKind.i64.wrap ((k : Int) - 1) = (j : Int) := by rw [show (k : Int) - 1 = j from by omega]; exact IntWalk.i64_in _ (by omega)
      clear hj
      (go_upto_region 5 with (first | (go_at_call 17; (with_reducible refine (HKD.out _ (gw.alloc _)).mono ?_); rintro e w1 ⟨rfl, g1⟩; have gw1 := (gw.alloc _).trans g1; obtain ⟨zh, h0, h1⟩ := new2s g1) | fail); (have tx0 : ¬ hx < 0 := by omega); (have tx1 : ¬ E ≤ hx := by omega); go_quiet ((go_at_call 42; exact Calls.quiet_of_same (HEN.out _))))
      go_wp2_with fail
      have gqr : Gr wr (w1.drewN nq) := (((Gr.refl _).alloc _).trans g1).drewN _
      have zhr : wr.heap.size < (w1.drewN nq).heap.size := Nat.lt_of_lt_of_le zh ((Gr.refl w1).drewN nq).size
      have h0r := (((Gr.refl w1).drewN nq).cell _ _ zh).trans h0
      have h1r := (((Gr.refl w1).drewN nq).cell _ _ zh).trans h1
      clear h0 h1 p0 p1 p2 p3 p4 p5 p6 p7 p8 y0 y1
      generalize w1.drewN nq = wq at *
      have gq := gw.trans gqr
      obtain ⟨zb2, d0, d1, d2, d3, d4, d5, d6, d7, d8⟩ := HB1.out.gr gqr
      have z3 := Nat.lt_of_lt_of_le z2 gqr.size
      have x0r := (gqr.cell _ _ z2).trans x0
      have x1r := (gqr.cell _ _ z2).trans x1
      have HS : Hid (∀ w', Gr wq w' → (Gr wq w' ∧ w'.cell? ⟨w.heap.size, 0, none⟩ = some (.slice a1 P.es.length c1) ∧ w'.cell? ⟨w.heap.size, 1, none⟩ = some (.slice a2 P.js.length c2) ∧ w'.cell? ⟨w.heap.size, 2, none⟩ = some (.slice a3 P.ss.length c3) ∧ w'.cell? ⟨w.heap.size, 3, none⟩ = some (.slice a4 P.ls.length c4) ∧ w'.cell? ⟨w.heap.size, 4, none⟩ = some (.int .i64 P.top) ∧ w'.cell? ⟨w.heap.size, 5, none⟩ = some (.int .i64 P.brake) ∧ w'.cell? ⟨w.heap.size, 6, none⟩ = some (.int .i64 P.margin) ∧ w'.cell? ⟨w.heap.size, 7, none⟩ = some (.int .i64 P.throw) ∧ w'.cell? ⟨w.heap.size, 8, none⟩ = some (.bool P.hard) ∧ w'.cell? ⟨bb, o + j * 2, none⟩ = some (.int .i64 qe) ∧ w'.cell? ⟨bb, o + j * 2 + 1, none⟩ = some (.int .i64 qx))) := fun w' h => ⟨h, (h.cell _ _ zb2).trans d0, (h.cell _ _ zb2).trans d1, (h.cell _ _ zb2).trans d2, (h.cell _ _ zb2).trans d3, (h.cell _ _ zb2).trans d4, (h.cell _ _ zb2).trans d5, (h.cell _ _ zb2).trans d6, (h.cell _ _ zb2).trans d7, (h.cell _ _ zb2).trans d8, (h.cell _ _ z3).trans x0r, (h.cell _ _ z3).trans x1r⟩
      have HSt : Hid (∀ wx wy, (Gr wq wx ∧ wx.cell? ⟨w.heap.size, 0, none⟩ = some (.slice a1 P.es.length c1) ∧ wx.cell? ⟨w.heap.size, 1, none⟩ = some (.slice a2 P.js.length c2) ∧ wx.cell? ⟨w.heap.size, 2, none⟩ = some (.slice a3 P.ss.length c3) ∧ wx.cell? ⟨w.heap.size, 3, none⟩ = some (.slice a4 P.ls.length c4) ∧ wx.cell? ⟨w.heap.size, 4, none⟩ = some (.int .i64 P.top) ∧ wx.cell? ⟨w.heap.size, 5, none⟩ = some (.int .i64 P.brake) ∧ wx.cell? ⟨w.heap.size, 6, none⟩ = some (.int .i64 P.margin) ∧ wx.cell? ⟨w.heap.size, 7, none⟩ = some (.int .i64 P.throw) ∧ wx.cell? ⟨w.heap.size, 8, none⟩ = some (.bool P.hard) ∧ wx.cell? ⟨bb, o + j * 2, none⟩ = some (.int .i64 qe) ∧ wx.cell? ⟨bb, o + j * 2 + 1, none⟩ = some (.int .i64 qx)) → Gr wx wy → (Gr wq wy ∧ wy.cell? ⟨w.heap.size, 0, none⟩ = some (.slice a1 P.es.length c1) ∧ wy.cell? ⟨w.heap.size, 1, none⟩ = some (.slice a2 P.js.length c2) ∧ wy.cell? ⟨w.heap.size, 2, none⟩ = some (.slice a3 P.ss.length c3) ∧ wy.cell? ⟨w.heap.size, 3, none⟩ = some (.slice a4 P.ls.length c4) ∧ wy.cell? ⟨w.heap.size, 4, none⟩ = some (.int .i64 P.top) ∧ wy.cell? ⟨w.heap.size, 5, none⟩ = some (.int .i64 P.brake) ∧ wy.cell? ⟨w.heap.size, 6, none⟩ = some (.int .i64 P.margin) ∧ wy.cell? ⟨w.heap.size, 7, none⟩ = some (.int .i64 P.throw) ∧ wy.cell? ⟨w.heap.size, 8, none⟩ = some (.bool P.hard) ∧ wy.cell? ⟨bb, o + j * 2, none⟩ = some (.int .i64 qe) ∧ wy.cell? ⟨bb, o + j * 2 + 1, none⟩ = some (.int .i64 qx))) := fun wx wy h h2 => HS.out _ (h.1.trans h2)
      have HSg : Hid (∀ wx, (Gr wq wx ∧ wx.cell? ⟨w.heap.size, 0, none⟩ = some (.slice a1 P.es.length c1) ∧ wx.cell? ⟨w.heap.size, 1, none⟩ = some (.slice a2 P.js.length c2) ∧ wx.cell? ⟨w.heap.size, 2, none⟩ = some (.slice a3 P.ss.length c3) ∧ wx.cell? ⟨w.heap.size, 3, none⟩ = some (.slice a4 P.ls.length c4) ∧ wx.cell? ⟨w.heap.size, 4, none⟩ = some (.int .i64 P.top) ∧ wx.cell? ⟨w.heap.size, 5, none⟩ = some (.int .i64 P.brake) ∧ wx.cell? ⟨w.heap.size, 6, none⟩ = some (.int .i64 P.margin) ∧ wx.cell? ⟨w.heap.size, 7, none⟩ = some (.int .i64 P.throw) ∧ wx.cell? ⟨w.heap.size, 8, none⟩ = some (.bool P.hard) ∧ wx.cell? ⟨bb, o + j * 2, none⟩ = some (.int .i64 qe) ∧ wx.cell? ⟨bb, o + j * 2 + 1, none⟩ = some (.int .i64 qx)) → Gr wq wx) := fun wx h => h.1
      have HH : Hid (∀ w', Gr wq w' → wr.heap.size < w'.heap.size ∧ w'.cell? ⟨wr.heap.size, 0, none⟩ = some (.int .i64 he) ∧ w'.cell? ⟨wr.heap.size, 1, none⟩ = some (.int .i64 hx) ∧ PBox w' w.heap.size P (.slice a1 P.es.length c1) (.slice a2 P.js.length c2) (.slice a3 P.ss.length c3) (.slice a4 P.ls.length c4)) := fun w' h => ⟨Nat.lt_of_lt_of_le zhr h.size, (h.cell _ _ zhr).trans h0r, (h.cell _ _ zhr).trans h1r, (HB1.out.gr gqr).gr h⟩
      clear e0 e1 e3 t2 h0r h1r x0 x1 HKD HEN gw1 g1 z
      rcases hnx : nextL P.js ⟨qe, qx⟩ with _ | ⟨ye, yx⟩
      · have HNX : Hid (∀ w', Gr w w' → Calls Tryd.prog 20 #[(.agg #[.slice a1 P.es.length c1, .slice a2 P.js.length c2, .slice a3 P.ss.length c3, .slice a4 P.ls.length c4, .int .i64 P.top, .int .i64 P.brake, .int .i64 P.margin, .int .i64 P.throw, .bool P.hard]), .agg #[.int .i64 qe, .int .i64 qx]] w' fun e w'' => e = .returned (.tuple #[.agg #[.int .i64 0, .int .i64 0], .bool false]) ∧ Gr w' w'') := fun w' g => by have := HNX0.out ⟨qe, qx⟩ w' g; rw [hnx] at this; exact this
        clear hnx
        go_region_held3 (fun w' => Gr wq w' ∧ w'.cell? ⟨w.heap.size, 0, none⟩ = some (.slice a1 P.es.length c1) ∧ w'.cell? ⟨w.heap.size, 1, none⟩ = some (.slice a2 P.js.length c2) ∧ w'.cell? ⟨w.heap.size, 2, none⟩ = some (.slice a3 P.ss.length c3) ∧ w'.cell? ⟨w.heap.size, 3, none⟩ = some (.slice a4 P.ls.length c4) ∧ w'.cell? ⟨w.heap.size, 4, none⟩ = some (.int .i64 P.top) ∧ w'.cell? ⟨w.heap.size, 5, none⟩ = some (.int .i64 P.brake) ∧ w'.cell? ⟨w.heap.size, 6, none⟩ = some (.int .i64 P.margin) ∧ w'.cell? ⟨w.heap.size, 7, none⟩ = some (.int .i64 P.throw) ∧ w'.cell? ⟨w.heap.size, 8, none⟩ = some (.bool P.hard) ∧ w'.cell? ⟨bb, o + j * 2, none⟩ = some (.int .i64 qe) ∧ w'.cell? ⟨bb, o + j * 2 + 1, none⟩ = some (.int .i64 qx)) (first | exact HS.out _ (Gr.refl _) | exact HS.out _ (Gr.refl _).drew | exact HSt.out _ _ (by assumption) h5 | exact HSt.out _ _ (by assumption) ((Gr.refl _).alloc _) | exact HS.out _ (((Gr.refl wq).drew.trans h5).alloc _) | exact HS.out _ (Gr.setCell (Gr.setCell (((Gr.refl wq).alloc _).drew.trans h5) (Nat.le_refl _) _) (Nat.le_refl _) _)) (first | (go_at_call 20; (with_reducible refine (HNX.out _ (gq.trans ?hzz)).mono ?_); (case hzz => exact HSg.out _ (by assumption)); rintro e w5 ⟨rfl, h5⟩; (first | (obtain ⟨k0, k1, f0, f1, z5⟩ := new2 h5; have g5 := ((Gr.refl wq).alloc _).drew.trans h5) | (have g5 := (Gr.refl wq).drew.trans h5))))
        all_goals (first | (have HF := newAt_set (x := Value.int .i64 0) (y := Value.int .i64 0) h5; revert HF; generalize (w5.setCell ⟨wq.heap.size, 0, none⟩ (Value.int .i64 0)).setCell ⟨wq.heap.size, 1, none⟩ (Value.int .i64 0) = wz; generalize wq.heap.size = gz; intro HF) | (have HF := newAt_alloc (t := 50) (x := Value.int .i64 0) (y := Value.int .i64 0) g5; revert HF; generalize w5.alloc (.cells #[Value.int .i64 0, Value.int .i64 0] 50) = wz; generalize w5.heap.size = gz; intro HF)); obtain ⟨gn, gl, gs, q0, q1⟩ := HF
        all_goals go_wp2_with fail
        all_goals go_ret
        all_goals exact RetB.no (gq.trans gn)
      · have HNX : Hid (∀ w', Gr w w' → Calls Tryd.prog 20 #[(.agg #[.slice a1 P.es.length c1, .slice a2 P.js.length c2, .slice a3 P.ss.length c3, .slice a4 P.ls.length c4, .int .i64 P.top, .int .i64 P.brake, .int .i64 P.margin, .int .i64 P.throw, .bool P.hard]), .agg #[.int .i64 qe, .int .i64 qx]] w' fun e w'' => e = .returned (.tuple #[.agg #[.int .i64 ye, .int .i64 yx], .bool true]) ∧ Gr w' w'') := fun w' g => by have := HNX0.out ⟨qe, qx⟩ w' g; rw [hnx] at this; exact this
        clear hnx
        have HOU := Lib.hid (HOU0.out ye yx)
        generalize outsK (kindP P ye) yx = L at HOU
        go_region_held3 (fun w' => Gr wq w' ∧ w'.cell? ⟨w.heap.size, 0, none⟩ = some (.slice a1 P.es.length c1) ∧ w'.cell? ⟨w.heap.size, 1, none⟩ = some (.slice a2 P.js.length c2) ∧ w'.cell? ⟨w.heap.size, 2, none⟩ = some (.slice a3 P.ss.length c3) ∧ w'.cell? ⟨w.heap.size, 3, none⟩ = some (.slice a4 P.ls.length c4) ∧ w'.cell? ⟨w.heap.size, 4, none⟩ = some (.int .i64 P.top) ∧ w'.cell? ⟨w.heap.size, 5, none⟩ = some (.int .i64 P.brake) ∧ w'.cell? ⟨w.heap.size, 6, none⟩ = some (.int .i64 P.margin) ∧ w'.cell? ⟨w.heap.size, 7, none⟩ = some (.int .i64 P.throw) ∧ w'.cell? ⟨w.heap.size, 8, none⟩ = some (.bool P.hard) ∧ w'.cell? ⟨bb, o + j * 2, none⟩ = some (.int .i64 qe) ∧ w'.cell? ⟨bb, o + j * 2 + 1, none⟩ = some (.int .i64 qx)) (first | exact HS.out _ (Gr.refl _) | exact HS.out _ (Gr.refl _).drew | exact HSt.out _ _ (by assumption) h5 | exact HSt.out _ _ (by assumption) ((Gr.refl _).alloc _) | exact HS.out _ (((Gr.refl wq).drew.trans h5).alloc _) | exact HS.out _ (Gr.setCell (Gr.setCell (((Gr.refl wq).alloc _).drew.trans h5) (Nat.le_refl _) _) (Nat.le_refl _) _)) (first | (go_at_call 20; (with_reducible refine (HNX.out _ (gq.trans ?hzz)).mono ?_); (case hzz => exact HSg.out _ (by assumption)); rintro e w5 ⟨rfl, h5⟩; (first | (obtain ⟨k0, k1, f0, f1, z5⟩ := new2 h5; have g5 := ((Gr.refl wq).alloc _).drew.trans h5) | (have g5 := (Gr.refl wq).drew.trans h5))))
        all_goals (first | (have HF := newAt_set (x := Value.int .i64 ye) (y := Value.int .i64 yx) h5; revert HF; generalize (w5.setCell ⟨wq.heap.size, 0, none⟩ (Value.int .i64 ye)).setCell ⟨wq.heap.size, 1, none⟩ (Value.int .i64 yx) = wz; generalize wq.heap.size = gz; intro HF) | (have HF := newAt_alloc (t := 50) (x := Value.int .i64 ye) (y := Value.int .i64 yx) g5; revert HF; generalize w5.alloc (.cells #[Value.int .i64 ye, Value.int .i64 yx] 50) = wz; generalize w5.heap.size = gz; intro HF)); obtain ⟨gn, gl, gs, q0, q1⟩ := HF
        all_goals obtain ⟨zhz, hz0, hz1, zpz, c0, c1', c2', c3', c4', c5, c6, c7, c8⟩ := HH.out _ gn
        all_goals have gz2 := gq.trans gn
        all_goals
          by_cases hye : ye = he
          · have t5 := bneF hye
            clear hye
            go_wp2_with (first | (go_at_call 43; (with_reducible refine (HOU.out _ gz2).mono ?_); rintro e w6 ⟨v, rfl, hv, g6⟩; have HV := Lib.hid hv; obtain ⟨av, cv, rfl, hvm, -⟩ := hv; unfold maxLen at hvm) | fail)
            go_loopw [10, 75] (fun f x w7 => ∃ (m : Nat) (b : Bool), f = .bool b ∧ x = .int .i64 m ∧ m ≤ L.length ∧ Gr w6 w7) (fun _ x _ => L.length - (intOf x).toNat)
            case atStart => exact ⟨0, false, rfl, rfl, Nat.zero_le _, Gr.refl _⟩
            case round =>
              obtain ⟨m, b, rfl, rfl, hm, g7⟩ := hrel
              clear c0 c1' c2' c3' c4' c5 c6 c7 c8 hz0 hz1 zhz
              obtain ⟨zhz, hz0, hz1, -⟩ := HH.out _ (gn.trans (g6.trans g7))
              rename_i w7
              by_cases hml : m < L.length
              · have hm1 : (m : Int) < (L.length : Int) := by omega
                obtain ⟨bv, ov, hsv, zv, hc⟩ := IsRow.at (IsRow.gr HV.out g7) m hml
                subst hsv
                have v0 := hc 0 (by omega)
                have v1 := hc 1 (by omega)
                have e0 : wayC L m 0 = .int .i64 L[m].1 := by unfold wayC; rw [if_pos rfl, getD_at _ _ hml]
                have e1 : wayC L m 1 = .int .i64 L[m].2 := by unfold wayC; rw [if_neg (by omega), getD_at _ _ hml]
                rw [e0] at v0
                rw [e1] at v1
                clear hc e0 e1
                generalize L[m] = x at v0 v1
                obtain ⟨xo, xp⟩ := x
                dsimp only at v0 v1
                rw [Nat.add_zero] at v0
                cases b
                · by_cases ho : xo = hx
                  · have t6 := beqT ho
                    clear ho
                    go_wp2_with fail
                    go_roundw
                    case rel => exact ⟨m + 1, true, rfl, by go_num, hml, g7.alloc _⟩
                    case measure => simp [intOf]; omega
                  · have t6 := beqF ho
                    clear ho
                    go_wp2_with fail
                    go_roundw
                    case rel => exact ⟨m + 1, false, rfl, by go_num, hml, g7.alloc _⟩
                    case measure => simp [intOf]; omega
                · go_wp2_with fail
                  go_roundw
                  case rel => exact ⟨m + 1, true, rfl, by go_num, hml, g7.alloc _⟩
                  case measure => simp [intOf]; omega
              · have hm1 : ¬ (m : Int) < (L.length : Int) := by omega
                cases b
                · go_wp2_with fail
                  go_ret
                  exact RetB.no (gz2.trans (g6.trans g7))
                · go_wp2_with fail
                  go_roundw
                  case rel => exact ⟨k + 1, by go_num, by omega, (((g.trans gqr).trans gn).trans g6).trans g7⟩
                  case measure => simp [intOf]; omega
          · have t5 := bneT hye
            clear hye
            go_wp2_with fail
            go_ret
            exact RetB.no (gz2)
    · have t0 : 0 < T.length → 0 < (T.length : Int) := fun h => by omega
      go_wp2_with fail
      go_ret
      exact RetB.any (fun h => by rintro rfl; simp at h) gw
end Go.Proofs.YtgjnlgcdpbilfaaDoor
namespace Go.Proofs.YtgjnlgcdpbilfaaDoor
open Go.ChangeShapes Go.WideShapes Go.ChangeAt Go.RowKit Go.Maps
set_option linter.unusedVariables false
set_option linter.unusedSimpArgs false
attribute [local go_sem ↓] Go.wp_at_zero Go.wp_at_succ
def BdyOk (B : Bdy) : Prop := ((B.mode = 1 ∨ B.mode = 2) → B.trail ≠ [] ∧ 0 ≤ B.left) ∧ (¬ (B.mode = 1 ∨ B.mode = 2) → B.mode = 4 ∨ B.trail = [])
theorem still_ways (l o v : Int) : (l = 0 ∧ o = 0 ∧ v = 0) ∨ (l == 0) = false ∨ ((l == 0) = true ∧ (o == 0) = false) ∨ ((l == 0) = true ∧ (o == 0) = true ∧ (v == 0) = false) := by
  by_cases h1 : l = 0
  · by_cases h2 : o = 0
    · by_cases h3 : v = 0
      · exact .inl ⟨h1, h2, h3⟩
      · exact .inr (.inr (.inr ⟨beqT h1, beqT h2, beqF h3⟩))
    · exact .inr (.inr (.inl ⟨beqT h1, beqF h2⟩))
  · exact .inr (.inl (beqF h1))
theorem prtR_form (o : Option Prt) : ∃ ye yx ok, prtR o = .tuple #[.agg #[.int .i64 ye, .int .i64 yx], .bool ok] := by
  cases o with
  | none => exact ⟨0, 0, false, rfl⟩
  | some y => exact ⟨y.e, y.x, true, rfl⟩
set_option maxRecDepth 100000 in
set_option maxHeartbeats 8000000 in
theorem mayBody_a (pv bv : Value) (P : Pln) (B : Bdy) (len : Int) (w : World) (hP : IsPln w pv P) (hf : chk P = 0) (hB : IsBdy w bv B) (hn : B.trail.length ≤ 5000) (hmode : ¬ (B.mode = 2 ∨ B.mode = 4)) :
    Calls Tryd.prog 7 #[pv, .int .i64 len, bv] w (RetB (BdyOk B) w) := by
  have HPI := Lib.hid hP
  obtain ⟨a1, c1, a2, c2, a3, c3, a4, c4, rfl, -⟩ := hP
  obtain ⟨ta, tc, rfl, ht⟩ := hB
  have HT := Lib.hid ht
  have htm := IsRow.len ht
  unfold maxLen at htm
  obtain ⟨mode, T, left, over, v⟩ := B
  unfold bdyV
  dsimp only at *
  have hW : Gr w ((w.alloc (.cells #[.slice a1 P.es.length c1, .slice a2 P.js.length c2, .slice a3 P.ss.length c3, .slice a4 P.ls.length c4, .int .i64 P.top, .int .i64 P.brake, .int .i64 P.margin, .int .i64 P.throw, .bool P.hard] 27)).alloc (.cells #[.int .i64 mode, .slice ta T.length tc, .int .i64 left, .int .i64 over, .int .i64 v] 31)) := ((Gr.refl _).alloc _).alloc _
  have HBX : Hid (∀ w', Gr ((w.alloc (.cells #[.slice a1 P.es.length c1, .slice a2 P.js.length c2, .slice a3 P.ss.length c3, .slice a4 P.ls.length c4, .int .i64 P.top, .int .i64 P.brake, .int .i64 P.margin, .int .i64 P.throw, .bool P.hard] 27)).alloc (.cells #[.int .i64 mode, .slice ta T.length tc, .int .i64 left, .int .i64 over, .int .i64 v] 31)) w' → Gr w w' ∧ PBox w' w.heap.size P (.slice a1 P.es.length c1) (.slice a2 P.js.length c2) (.slice a3 P.ss.length c3) (.slice a4 P.ls.length c4) ∧ w.heap.size < w'.heap.size ∧ w'.cell? ⟨w.heap.size, 0, none⟩ = some (.slice a1 P.es.length c1) ∧ w'.cell? ⟨w.heap.size, 1, none⟩ = some (.slice a2 P.js.length c2) ∧ w'.cell? ⟨w.heap.size, 2, none⟩ = some (.slice a3 P.ss.length c3) ∧ w'.cell? ⟨w.heap.size, 3, none⟩ = some (.slice a4 P.ls.length c4) ∧ w'.cell? ⟨w.heap.size, 4, none⟩ = some (.int .i64 P.top) ∧ w'.cell? ⟨w.heap.size, 5, none⟩ = some (.int .i64 P.brake) ∧ w'.cell? ⟨w.heap.size, 6, none⟩ = some (.int .i64 P.margin) ∧ w'.cell? ⟨w.heap.size, 7, none⟩ = some (.int .i64 P.throw) ∧ w'.cell? ⟨w.heap.size, 8, none⟩ = some (.bool P.hard) ∧ w.heap.size + 1 < w'.heap.size ∧ w'.cell? ⟨w.heap.size + 1, 0, none⟩ = some (.int .i64 mode) ∧ w'.cell? ⟨w.heap.size + 1, 1, none⟩ = some (.slice ta T.length tc) ∧ w'.cell? ⟨w.heap.size + 1, 2, none⟩ = some (.int .i64 left) ∧ w'.cell? ⟨w.heap.size + 1, 3, none⟩ = some (.int .i64 over) ∧ w'.cell? ⟨w.heap.size + 1, 4, none⟩ = some (.int .i64 v)) := by
    intro w' g
    have hb := (PBox.new w P (.slice a1 P.es.length c1) (.slice a2 P.js.length c2) (.slice a3 P.ss.length c3) (.slice a4 P.ls.length c4)).gr (((Gr.refl _).alloc _).trans g)
    obtain ⟨z, q0, q1, q2, q3, q4, q5, q6, q7, q8⟩ := id hb
    have hz : w.heap.size + 1 < (((w.alloc (.cells #[.slice a1 P.es.length c1, .slice a2 P.js.length c2, .slice a3 P.ss.length c3, .slice a4 P.ls.length c4, .int .i64 P.top, .int .i64 P.brake, .int .i64 P.margin, .int .i64 P.throw, .bool P.hard] 27)).alloc (.cells #[.int .i64 mode, .slice ta T.length tc, .int .i64 left, .int .i64 over, .int .i64 v] 31))).heap.size := by simp
    exact ⟨hW.trans g, hb, z, q0, q1, q2, q3, q4, q5, q6, q7, q8, Nat.lt_of_lt_of_le hz g.size, (g.cell _ _ hz).trans (by go_simp), (g.cell _ _ hz).trans (by go_simp), (g.cell _ _ hz).trans (by go_simp), (g.cell _ _ hz).trans (by go_simp), (g.cell _ _ hz).trans (by go_simp)⟩
  have HKD := Lib.hid (fun (m : Int) (w' : World) (g : Gr w w') => kindE_any _ P m w' (HPI.out.gr g))
  have HLN := Lib.hid (fun (m : Int) (w' : World) (g : Gr w w') => length_any _ P m w' (HPI.out.gr g))
  have HLB : Hid (∀ m, 0 ≤ lenP P m ∧ lenP P m ≤ 4000) := fun m => by rw [← eleAt_len]; have := fine_len hf m; omega
  have HNX := Lib.hid (fun (x : Prt) (w' : World) (g : Gr w w') => refNextP_any _ P x w' (HPI.out.gr g))
  have HCN := Lib.hid (fun (w' : World) (g : Gr w w') => chained_any _ _ P T w' (HPI.out.gr g) (HT.out.gr g) hn)
  unfold plnV at HKD HLN HNX HCN ⊢
  clear HPI ht
  by_cases l0 : len < 1
  · go_enter Tryd.func7, Tryd.ntmps7
    (go_wp2_with fail; go_ret; exact RetB.no (hW))
  by_cases l1 : 4000 < len
  · go_enter Tryd.func7, Tryd.ntmps7
    (go_wp2_with fail; go_ret; exact RetB.no (hW))
  have sw := still_ways left over v
  by_cases m1 : mode = 1
  · subst m1
    rcases sw with ⟨rfl, rfl, rfl⟩ | h1 | ⟨h1, h2⟩ | ⟨h1, h2, h3⟩
    · by_cases t1 : T.length = 1
      · have tl : ((T.length : Int) == 1) = true := beqT (by omega)
        have i0 : (0 : Int) < (T.length : Int) := by omega
        obtain ⟨bb, o, hs, z, y0, y1⟩ := HT.out.at 0 (by omega)
        subst hs
        have hne : T ≠ [] := fun h => by rw [h] at t1; cases t1
        generalize T[0] = q at y0 y1
        clear t1
        obtain ⟨qe, qx⟩ := q
        rw [Nat.zero_mul, Nat.add_zero] at y0 y1
        dsimp only at y0 y1
        have Y0 := Lib.hid y0
        have Y1 := Lib.hid y1
        clear y0 y1
        have HKQ := Lib.hid (HKD.out qe)
        generalize kindP P qe = K at HKQ
        go_enter Tryd.func7, Tryd.ntmps7
        go_upto_region 7 with (fail)
        have zq := Nat.lt_of_lt_of_le z hW.size
        have y0 := (hW.cell _ _ z).trans Y0.out
        have y1 := (hW.cell _ _ z).trans Y1.out
        obtain ⟨-, -, zb2, u0, u1, u2, u3, u4, u5, u6, u7, u8, zc2, s0, s1, s2, s3, s4⟩ := HBX.out _ (Gr.refl _)
        generalize ((w.alloc (.cells #[.slice a1 P.es.length c1, .slice a2 P.js.length c2, .slice a3 P.ss.length c3, .slice a4 P.ls.length c4, .int .i64 P.top, .int .i64 P.brake, .int .i64 P.margin, .int .i64 P.throw, .bool P.hard] 27)).alloc (.cells #[.int .i64 1, .slice (some ⟨bb, o, none⟩) T.length tc, .int .i64 0, .int .i64 0, .int .i64 0] 31)) = wr at *
        have hcb := fun (i : GrW wr) (o : Nat) => GrW.cell zb2 i o
        have hcc := fun (i : GrW wr) (o : Nat) => GrW.cell zc2 i o
        have hcq := fun (i : GrW wr) (o : Nat) => GrW.cell zq i o
        by_cases x0 : qx = 0
        · have tx : (qx == 0) = true := beqT x0
          (refine wp_region_gr (by kernel_rfl) (by kernel_rfl) ?_; (repeat (go_big_quiet_step ((go_at_call 17; exact Calls.gr_of (HKQ.out _ (hW.trans (GrW.gr _))))))); refine wpQuiet_nil ?_; intro wz hz; obtain ⟨iz, hz⟩ := hz; obtain ⟨wn, gn⟩ := iz; dsimp only at hz; obtain rfl := hz.symm)
          go_wp2_with fail
          go_ret
          exact RetB.any (fun _ => ⟨fun _ => ⟨hne, Int.le_refl _⟩, fun h => absurd (.inl rfl) h⟩) (hW.trans gn)
        · have tx : (qx == 0) = false := beqF x0
          (refine wp_region_gr (by kernel_rfl) (by kernel_rfl) ?_; (repeat (go_big_quiet_step (fail))); refine wpQuiet_nil ?_; intro wz hz; obtain ⟨iz, hz⟩ := hz; obtain ⟨wn, gn⟩ := iz; dsimp only at hz; obtain rfl := hz.symm)
          go_wp2_with fail
          go_ret
          exact RetB.any (fun _ => ⟨fun _ => ⟨hne, Int.le_refl _⟩, fun h => absurd (.inl rfl) h⟩) (hW.trans gn)
      · have tl : ((T.length : Int) == 1) = false := beqF (by omega)
        go_enter Tryd.func7, Tryd.ntmps7
        go_upto_region 7 with (fail)
        obtain ⟨-, -, zb2, u0, u1, u2, u3, u4, u5, u6, u7, u8, zc2, s0, s1, s2, s3, s4⟩ := HBX.out _ (Gr.refl _)
        generalize ((w.alloc (.cells #[.slice a1 P.es.length c1, .slice a2 P.js.length c2, .slice a3 P.ss.length c3, .slice a4 P.ls.length c4, .int .i64 P.top, .int .i64 P.brake, .int .i64 P.margin, .int .i64 P.throw, .bool P.hard] 27)).alloc (.cells #[.int .i64 1, .slice ta T.length tc, .int .i64 0, .int .i64 0, .int .i64 0] 31)) = wr at *
        have hcc := fun (i : GrW wr) (o : Nat) => GrW.cell zc2 i o
        (refine wp_region_gr (by kernel_rfl) (by kernel_rfl) ?_; (repeat (go_big_quiet_step (fail))); refine wpQuiet_nil ?_; intro wz hz; obtain ⟨iz, hz⟩ := hz; obtain ⟨wn, gn⟩ := iz; dsimp only at hz; obtain rfl := hz.symm)
        go_wp2_with fail
        go_ret
        exact RetB.no (hW.trans gn)
    all_goals
      go_enter Tryd.func7, Tryd.ntmps7
      go_upto_region 7 with (fail)
      generalize ((w.alloc (.cells #[.slice a1 P.es.length c1, .slice a2 P.js.length c2, .slice a3 P.ss.length c3, .slice a4 P.ls.length c4, .int .i64 P.top, .int .i64 P.brake, .int .i64 P.margin, .int .i64 P.throw, .bool P.hard] 27)).alloc (.cells #[.int .i64 1, .slice ta T.length tc, .int .i64 left, .int .i64 over, .int .i64 v] 31)) = wr at *
      (refine wp_region_gr (by kernel_rfl) (by kernel_rfl) ?_; (repeat (go_big_quiet_step (fail))); refine wpQuiet_nil ?_; intro wz hz; obtain ⟨iz, hz⟩ := hz; obtain ⟨wn, gn⟩ := iz; dsimp only at hz; obtain rfl := hz.symm)
      go_wp2_with fail
      go_ret
      exact RetB.no (hW.trans gn)
  have n1 : (mode == 1) = false := beqF m1
  by_cases m3 : mode = 3
  · subst m3
    clear n1
    rcases sw with ⟨rfl, rfl, rfl⟩ | h1 | ⟨h1, h2⟩ | ⟨h1, h2, h3⟩
    · go_enter Tryd.func7, Tryd.ntmps7
      go_wp2_with fail
      go_ret
      refine RetB.any (fun h => ⟨fun h' => by simp at h', fun _ => .inr ?_⟩) hW
      have : T.length = 0 := by simpa using h
      exact List.length_eq_zero_iff.1 this
    all_goals
      go_enter Tryd.func7, Tryd.ntmps7
      (go_wp2_with fail; go_ret; exact RetB.no (hW))
  have n3 : (mode == 3) = false := beqF m3
  have n2 : (mode == 2) = false := beqF (fun h => hmode (.inl h))
  have n4 : (mode == 4) = false := beqF (fun h => hmode (.inr h))
  clear m1 m3 hmode
  rcases sw with ⟨rfl, rfl, rfl⟩ | h1 | ⟨h1, h2⟩ | ⟨h1, h2, h3⟩
  all_goals
    go_enter Tryd.func7, Tryd.ntmps7
    (go_wp2_with fail; go_ret; exact RetB.no (hW))
end Go.Proofs.YtgjnlgcdpbilfaaDoor
namespace Go.Proofs.YtgjnlgcdpbilfaaDoor
open Go.ChangeShapes Go.WideShapes Go.ChangeAt Go.RowKit Go.Maps
set_option linter.unusedVariables false
set_option linter.unusedSimpArgs false
attribute [local go_sem ↓] Go.wp_at_zero Go.wp_at_succ
set_option maxRecDepth 100000 in
set_option maxHeartbeats 8000000 in
theorem mayBody_b (pv bv : Value) (P : Pln) (B : Bdy) (len : Int) (w : World) (hP : IsPln w pv P) (hf : chk P = 0) (hB : IsBdy w bv B) (hn : B.trail.length ≤ 5000) (hmode : B.mode = 2) :
    Calls Tryd.prog 7 #[pv, .int .i64 len, bv] w (RetB (BdyOk B) w) := by
  have HPI := Lib.hid hP
  obtain ⟨a1, c1, a2, c2, a3, c3, a4, c4, rfl, -⟩ := hP
  obtain ⟨ta, tc, rfl, ht⟩ := hB
  have HT := Lib.hid ht
  have htm := IsRow.len ht
  unfold maxLen at htm
  obtain ⟨mode, T, left, over, v⟩ := B
  unfold bdyV
  dsimp only at *
  have HMD := Lib.hid hmode
  clear hmode
  have hW : Gr w ((w.alloc (.cells #[.slice a1 P.es.length c1, .slice a2 P.js.length c2, .slice a3 P.ss.length c3, .slice a4 P.ls.length c4, .int .i64 P.top, .int .i64 P.brake, .int .i64 P.margin, .int .i64 P.throw, .bool P.hard] 27)).alloc (.cells #[.int .i64 mode, .slice ta T.length tc, .int .i64 left, .int .i64 over, .int .i64 v] 31)) := ((Gr.refl _).alloc _).alloc _
  have HBX : Hid (∀ w', Gr ((w.alloc (.cells #[.slice a1 P.es.length c1, .slice a2 P.js.length c2, .slice a3 P.ss.length c3, .slice a4 P.ls.length c4, .int .i64 P.top, .int .i64 P.brake, .int .i64 P.margin, .int .i64 P.throw, .bool P.hard] 27)).alloc (.cells #[.int .i64 mode, .slice ta T.length tc, .int .i64 left, .int .i64 over, .int .i64 v] 31)) w' → Gr w w' ∧ PBox w' w.heap.size P (.slice a1 P.es.length c1) (.slice a2 P.js.length c2) (.slice a3 P.ss.length c3) (.slice a4 P.ls.length c4) ∧ w.heap.size < w'.heap.size ∧ w'.cell? ⟨w.heap.size, 0, none⟩ = some (.slice a1 P.es.length c1) ∧ w'.cell? ⟨w.heap.size, 1, none⟩ = some (.slice a2 P.js.length c2) ∧ w'.cell? ⟨w.heap.size, 2, none⟩ = some (.slice a3 P.ss.length c3) ∧ w'.cell? ⟨w.heap.size, 3, none⟩ = some (.slice a4 P.ls.length c4) ∧ w'.cell? ⟨w.heap.size, 4, none⟩ = some (.int .i64 P.top) ∧ w'.cell? ⟨w.heap.size, 5, none⟩ = some (.int .i64 P.brake) ∧ w'.cell? ⟨w.heap.size, 6, none⟩ = some (.int .i64 P.margin) ∧ w'.cell? ⟨w.heap.size, 7, none⟩ = some (.int .i64 P.throw) ∧ w'.cell? ⟨w.heap.size, 8, none⟩ = some (.bool P.hard) ∧ w.heap.size + 1 < w'.heap.size ∧ w'.cell? ⟨w.heap.size + 1, 0, none⟩ = some (.int .i64 mode) ∧ w'.cell? ⟨w.heap.size + 1, 1, none⟩ = some (.slice ta T.length tc) ∧ w'.cell? ⟨w.heap.size + 1, 2, none⟩ = some (.int .i64 left) ∧ w'.cell? ⟨w.heap.size + 1, 3, none⟩ = some (.int .i64 over) ∧ w'.cell? ⟨w.heap.size + 1, 4, none⟩ = some (.int .i64 v)) := by
    intro w' g
    have hb := (PBox.new w P (.slice a1 P.es.length c1) (.slice a2 P.js.length c2) (.slice a3 P.ss.length c3) (.slice a4 P.ls.length c4)).gr (((Gr.refl _).alloc _).trans g)
    obtain ⟨z, q0, q1, q2, q3, q4, q5, q6, q7, q8⟩ := id hb
    have hz : w.heap.size + 1 < (((w.alloc (.cells #[.slice a1 P.es.length c1, .slice a2 P.js.length c2, .slice a3 P.ss.length c3, .slice a4 P.ls.length c4, .int .i64 P.top, .int .i64 P.brake, .int .i64 P.margin, .int .i64 P.throw, .bool P.hard] 27)).alloc (.cells #[.int .i64 mode, .slice ta T.length tc, .int .i64 left, .int .i64 over, .int .i64 v] 31))).heap.size := by simp
    exact ⟨hW.trans g, hb, z, q0, q1, q2, q3, q4, q5, q6, q7, q8, Nat.lt_of_lt_of_le hz g.size, (g.cell _ _ hz).trans (by go_simp), (g.cell _ _ hz).trans (by go_simp), (g.cell _ _ hz).trans (by go_simp), (g.cell _ _ hz).trans (by go_simp), (g.cell _ _ hz).trans (by go_simp)⟩
  have HKD := Lib.hid (fun (m : Int) (w' : World) (g : Gr w w') => kindE_any _ P m w' (HPI.out.gr g))
  have HLN := Lib.hid (fun (m : Int) (w' : World) (g : Gr w w') => length_any _ P m w' (HPI.out.gr g))
  have HLB : Hid (∀ m, 0 ≤ lenP P m ∧ lenP P m ≤ 4000) := fun m => by rw [← eleAt_len]; have := fine_len hf m; omega
  have HNX := Lib.hid (fun (x : Prt) (w' : World) (g : Gr w w') => refNextP_any _ P x w' (HPI.out.gr g))
  have HCN := Lib.hid (fun (w' : World) (g : Gr w w') => chained_any _ _ P T w' (HPI.out.gr g) (HT.out.gr g) hn)
  unfold plnV at HKD HLN HNX HCN ⊢
  clear HPI ht
  by_cases l0 : len < 1
  · go_enter Tryd.func7, Tryd.ntmps7
    (go_wp2_with fail; go_ret; exact RetB.no (hW))
  by_cases l1 : 4000 < len
  · go_enter Tryd.func7, Tryd.ntmps7
    (go_wp2_with fail; go_ret; exact RetB.no (hW))
  have sw := still_ways left over v
  have n1 : (mode == 1) = false := beqF (by have := HMD.out; omega)
  have n3 : (mode == 3) = false := beqF (by have := HMD.out; omega)
  have n5 : (mode == 2) = true := beqT HMD.out
  have n6 : (mode == 4) = false := beqF (by have := HMD.out; omega)
  have hOK : mode = 2 ∨ mode = 4 → T ≠ [] → 0 ≤ left → BdyOk ⟨mode, T, left, over, v⟩ := fun h hne hl => ⟨fun _ => ⟨hne, hl⟩, fun h' => by
    dsimp only at h' ⊢
    rcases h with h | h
    · exact absurd (.inr h) h'
    · exact .inl h⟩
  have HOK := Lib.hid hOK
  clear hOK
  have m24 : mode = 2 ∨ mode = 4 := .inl HMD.out
  · have HQ := Lib.hid (HOK.out m24)
    clear HOK m24
    go_enter Tryd.func7, Tryd.ntmps7
    go_upto_region 3 with (fail)
    go_cut [7] from 20 (fun x wc => Hid (∃ b, x = .bool b) ∧ wc = ((w.alloc (.cells #[.slice a1 P.es.length c1, .slice a2 P.js.length c2, .slice a3 P.ss.length c3, .slice a4 P.ls.length c4, .int .i64 P.top, .int .i64 P.brake, .int .i64 P.margin, .int .i64 P.throw, .bool P.hard] 27)).alloc (.cells #[.int .i64 mode, .slice ta T.length tc, .int .i64 left, .int .i64 over, .int .i64 v] 31)))
    case first =>
      rcases sw with ⟨rfl, rfl, rfl⟩ | h1 | ⟨h1, h2⟩ | ⟨h1, h2, h3⟩
      all_goals
        go_wp2_with fail
        go_meet
        case rel => exact ⟨⟨_, rfl⟩, rfl⟩
    case rest =>
      clear sw
      obtain ⟨hx0, rfl⟩ := hcut
      obtain ⟨bq, rfl⟩ := hx0.out
      clear hx0
      · skip
        go_upto_region 16 with (first | (go_at_call 18; (with_reducible refine (HCN.out _ hW).mono ?_); rintro e w2 ⟨m, rfl, g2, hm⟩; rcases m with _ | _; all_goals (have gw2 := hW.trans g2; obtain ⟨-, hb2, zb2, u0, u1, u2, u3, u4, u5, u6, u7, u8, zc2, s0, s1, s2, s3, s4⟩ := HBX.out _ g2)) | fail)
        · go_wp2_with fail
          go_ret
          exact RetB.no gw2
        have hne := hm (by trivial)
        clear hm
        have hlen : 0 < T.length := List.length_pos_iff.2 hne
        have hll : T.length - 1 < T.length := by omega
        obtain ⟨bb, o, hs, z, y0, y1⟩ := HT.out.at (T.length - 1) hll
        subst hs
        have z3 := Nat.lt_of_lt_of_le z gw2.size
        have y0 := (gw2.cell _ _ z).trans y0
        have y1 := (gw2.cell _ _ z).trans y1
        generalize T[T.length - 1] = q at y0 y1
        obtain ⟨qe, qx⟩ := q
        dsimp only at y0 y1
        have j0 : (0 : Int) ≤ (T.length : Int) - 1 := by omega
        have j1 : (T.length : Int) - 1 < (T.length : Int) := by omega
        have tj : IntKind.i64.wrap ((T.length : Int) - 1) = ((T.length - 1 : Nat) : Int) := by rw [IntWalk.i64_in _ (by omega)]; omega
        have tn : ((T.length : Int) - 1).toNat = T.length - 1 := by omega
        go_upto_region 17 with (fail)
        have HLQ := Lib.hid (HLN.out qe)
        have hlb := HLB.out qe
        generalize lenP P qe = LN at HLQ hlb
        have gA : Gr w2 (w2.alloc (.cells #[.int .i64 qe, .int .i64 qx] 50)) := (Gr.refl _).alloc _
        have zl : w2.heap.size < (w2.alloc (.cells #[.int .i64 qe, .int .i64 qx] 50)).heap.size := by simp
        have q0 : (w2.alloc (.cells #[.int .i64 qe, .int .i64 qx] 50)).cell? ⟨w2.heap.size, 0, none⟩ = some (.int .i64 qe) := by rw [World.cell?_alloc_mark]; rfl
        have q1 : (w2.alloc (.cells #[.int .i64 qe, .int .i64 qx] 50)).cell? ⟨w2.heap.size, 1, none⟩ = some (.int .i64 qx) := by rw [World.cell?_alloc_mark]; rfl
        clear u0 u1 u2 u3 u4 u5 u6 u7 u8 s0 s1 s2 s3 s4 y0 y1 zb2 zc2
        generalize w2.alloc (.cells #[.int .i64 qe, .int .i64 qx] 50) = wr at *
        have gwr := gw2.trans gA
        have gWr := g2.trans gA
        obtain ⟨-, -, zb2, u0, u1, u2, u3, u4, u5, u6, u7, u8, zc2, s0, s1, s2, s3, s4⟩ := HBX.out _ gWr
        have hcb := fun (i : GrW wr) (o : Nat) => GrW.cell zb2 i o
        have hcc := fun (i : GrW wr) (o : Nat) => GrW.cell zc2 i o
        have hcl := fun (i : GrW wr) (o : Nat) => GrW.cell zl i o
        by_cases e1 : left < 0
        · ((refine wp_region_gr (by kernel_rfl) (by kernel_rfl) ?_; (repeat (go_big_quiet_step ((go_at_call 19; exact Calls.gr_of (HLQ.out _ (gwr.trans (GrW.gr _))))))); refine wpQuiet_nil ?_; intro wz hz; obtain ⟨iz, hz⟩ := hz; obtain ⟨wn, gn⟩ := iz; dsimp only at hz; obtain rfl := hz.symm); go_wp2_with fail; go_ret; exact RetB.no (gwr.trans gn))
        have tc1 : ¬ left < 0 := e1
        by_cases e2 : LN ≤ left
        · ((refine wp_region_gr (by kernel_rfl) (by kernel_rfl) ?_; (repeat (go_big_quiet_step ((go_at_call 19; exact Calls.gr_of (HLQ.out _ (gwr.trans (GrW.gr _))))))); refine wpQuiet_nil ?_; intro wz hz; obtain ⟨iz, hz⟩ := hz; obtain ⟨wn, gn⟩ := iz; dsimp only at hz; obtain rfl := hz.symm); go_wp2_with fail; go_ret; exact RetB.no (gwr.trans gn))
        have tc2 : ¬ LN ≤ left := e2
        by_cases e3 : v < 0
        · ((refine wp_region_gr (by kernel_rfl) (by kernel_rfl) ?_; (repeat (go_big_quiet_step ((go_at_call 19; exact Calls.gr_of (HLQ.out _ (gwr.trans (GrW.gr _))))))); refine wpQuiet_nil ?_; intro wz hz; obtain ⟨iz, hz⟩ := hz; obtain ⟨wn, gn⟩ := iz; dsimp only at hz; obtain rfl := hz.symm); go_wp2_with fail; go_ret; exact RetB.no (gwr.trans gn))
        have tc3 : ¬ v < 0 := e3
        by_cases e4 : 60 < v
        · ((refine wp_region_gr (by kernel_rfl) (by kernel_rfl) ?_; (repeat (go_big_quiet_step ((go_at_call 19; exact Calls.gr_of (HLQ.out _ (gwr.trans (GrW.gr _))))))); refine wpQuiet_nil ?_; intro wz hz; obtain ⟨iz, hz⟩ := hz; obtain ⟨wn, gn⟩ := iz; dsimp only at hz; obtain rfl := hz.symm); go_wp2_with fail; go_ret; exact RetB.no (gwr.trans gn))
        have tc4 : ¬ 60 < v := e4
        by_cases e5 : over < 0
        · ((refine wp_region_gr (by kernel_rfl) (by kernel_rfl) ?_; (repeat (go_big_quiet_step ((go_at_call 19; exact Calls.gr_of (HLQ.out _ (gwr.trans (GrW.gr _))))))); refine wpQuiet_nil ?_; intro wz hz; obtain ⟨iz, hz⟩ := hz; obtain ⟨wn, gn⟩ := iz; dsimp only at hz; obtain rfl := hz.symm); go_wp2_with fail; go_ret; exact RetB.no (gwr.trans gn))
        have tc5 : ¬ over < 0 := e5
        by_cases e6 : len ≤ over
        · ((refine wp_region_gr (by kernel_rfl) (by kernel_rfl) ?_; (repeat (go_big_quiet_step ((go_at_call 19; exact Calls.gr_of (HLQ.out _ (gwr.trans (GrW.gr _))))))); refine wpQuiet_nil ?_; intro wz hz; obtain ⟨iz, hz⟩ := hz; obtain ⟨wn, gn⟩ := iz; dsimp only at hz; obtain rfl := hz.symm); go_wp2_with fail; go_ret; exact RetB.no (gwr.trans gn))
        have tc6 : ¬ len ≤ over := e6
        (refine wp_region_gr (by kernel_rfl) (by kernel_rfl) ?_; (repeat (go_big_quiet_step ((go_at_call 19; exact Calls.gr_of (HLQ.out _ (gwr.trans (GrW.gr _))))))); refine wpQuiet_nil ?_; intro wz hz; obtain ⟨iz, hz⟩ := hz; obtain ⟨wn, gn⟩ := iz; dsimp only at hz; obtain rfl := hz.symm)
        obtain ⟨-, -, zb3, u0, u1, u2, u3, u4, u5, u6, u7, u8, zc3, s0, s1, s2, s3, s4⟩ := HBX.out _ (gWr.trans gn)
        have q0 := (gn.cell _ _ zl).trans q0
        have q1 := (gn.cell _ _ zl).trans q1
        have gwn := gwr.trans gn
        have gWn := gWr.trans gn
        obtain ⟨ye, yx, ok, hR⟩ := prtR_form (nextL P.js ⟨qe, qx⟩)
        have HNQ : Hid (∀ w', Gr w w' → Calls Tryd.prog 20 #[(.agg #[.slice a1 P.es.length c1, .slice a2 P.js.length c2, .slice a3 P.ss.length c3, .slice a4 P.ls.length c4, .int .i64 P.top, .int .i64 P.brake, .int .i64 P.margin, .int .i64 P.throw, .bool P.hard]), .agg #[.int .i64 qe, .int .i64 qx]] w' fun e w'' => e = .returned (.tuple #[.agg #[.int .i64 ye, .int .i64 yx], .bool ok]) ∧ Gr w' w'') := fun w' g => by have := HNX.out ⟨qe, qx⟩ w' g; rw [hR] at this; exact this
        clear hR hcb hcc hcl
        have HKY := Lib.hid (HKD.out ye)
        generalize kindP P ye = KY at HKY
        go_upto_region 20 with (first | (go_at_call 20; (with_reducible refine (HNQ.out _ gwn).mono ?_); rintro e w4 ⟨rfl, g4⟩) | fail)
        have hY : Gr w4 (w4.alloc (.cells #[.int .i64 ye, .int .i64 yx] 50)) := (Gr.refl _).alloc _
        have zy : w4.heap.size < (w4.alloc (.cells #[.int .i64 ye, .int .i64 yx] 50)).heap.size := by simp
        have v0 : (w4.alloc (.cells #[.int .i64 ye, .int .i64 yx] 50)).cell? ⟨w4.heap.size, 0, none⟩ = some (.int .i64 ye) := by rw [World.cell?_alloc_mark]; rfl
        clear u0 u1 u2 u3 u4 u5 u6 u7 u8 s0 s1 s2 s3 s4 q0 q1
        generalize w4.alloc (.cells #[.int .i64 ye, .int .i64 yx] 50) = w5 at *
        have gw5 := (gwn.trans g4).trans hY
        have gW5 := (gWn.trans g4).trans hY
        obtain ⟨-, -, zb5, u0, u1, u2, u3, u4, u5, u6, u7, u8, zc5, s0, s1, s2, s3, s4⟩ := HBX.out _ gW5
        have S5 := Lib.hid (And.intro s1 (And.intro s2 s3))
        go_cut [147] from 129 (fun x wc => Hid (∃ b, x = .bool b) ∧ Gr w5 wc)
        case first =>
          by_cases d1 : 0 < over
          · by_cases d2 : 0 < left
            · go_wp2_with fail
              go_meet
              case rel => exact ⟨⟨_, rfl⟩, Gr.refl _⟩
            · cases ok
              · go_wp2_with fail
                go_meet
                case rel => exact ⟨⟨_, rfl⟩, Gr.refl _⟩
              · go_wp2_with (first | (go_at_call 17; (with_reducible refine (HKY.out _ gw5).mono ?_); rintro e w6 ⟨rfl, g6⟩) | fail)
                go_meet
                case rel => exact ⟨⟨_, rfl⟩, g6⟩
          · go_wp2_with fail
            go_meet
            case rel => exact ⟨⟨_, rfl⟩, Gr.refl _⟩
        case rest =>
          obtain ⟨hx0, g6⟩ := hcut
          obtain ⟨b6, rfl⟩ := hx0.out
          clear hx0 u0 u1 u2 u3 u4 u5 u6 u7 u8 s0 s1 s2 s3 s4 v0
          obtain ⟨-, -, zb6, -, -, -, -, -, -, -, -, -, zc6, -, s1, -, s3, -⟩ := HBX.out _ (gW5.trans g6)
          have gw6 := gw5.trans g6
          have gW6 := gW5.trans g6
          cases b6
          rotate_left
          · go_wp2_with fail
            go_ret
            exact RetB.no gw6
          have two : IntKind.i64.wrap (len - over) = len - over := IntWalk.i64_in _ (by omega)
          go_wp2_with fail
          clear s1 s3
          go_loopw [11, 12] (fun x y w7 => ∃ (r : Int) (k : Nat), x = .int .i64 r ∧ y = .int .i64 ((k : Int) - 1) ∧ k ≤ T.length ∧ -(4000 * ((T.length : Int) - k)) ≤ r ∧ r ≤ 4000 + 4000 * ((T.length : Int) - k) ∧ Gr wc w7) (fun _ y _ => (intOf y + 1).toNat)
          case atStart => exact ⟨_, T.length, rfl, congrArg (Value.int .i64) (by omega), Nat.le_refl _, by omega, by omega, Gr.refl _⟩
          case round =>
            clear j0 j1 tj tn two
            obtain ⟨r, k, rfl, rfl, hk, hr0, hr1, g7⟩ := hrel
            have gw7 := gw6.trans g7
            have gW7 := gW6.trans g7
            by_cases hk0 : 0 < k
            · have j0 : (0 : Int) ≤ (k : Int) - 1 := by omega
              have j1 : (k : Int) - 1 < (T.length : Int) := by omega
              have tn : ((k : Int) - 1).toNat = k - 1 := by omega
              obtain ⟨b2, o2, hs2, z2, x0, -⟩ := (HT.out.gr gw7).at (k - 1) (by omega)
              simp only [Option.some.injEq, Addr.mk.injEq, and_true] at hs2
              obtain ⟨rfl, rfl⟩ := hs2
              obtain ⟨b3, o3, hs3, z3', x00, -⟩ := (HT.out.gr gw7).at 0 (by omega)
              simp only [Option.some.injEq, Addr.mk.injEq, and_true] at hs3
              obtain ⟨rfl, rfl⟩ := hs3
              rw [Nat.zero_mul, Nat.add_zero] at x00
              have HLK := Lib.hid (HLN.out T[k - 1].e)
              have hlk := HLB.out T[k - 1].e
              have HK0 := Lib.hid (HKD.out (T[0]'(by omega)).e)
              generalize lenP P T[k - 1].e = LK at HLK hlk
              generalize kindP P (T[0]'(by omega)).e = KK at HK0
              generalize T[k - 1].e = te at x0 HLK
              generalize (T[0]'(by omega)).e = t0e at x00 HK0
              obtain ⟨-, -, zb7, u0, u1, u2, u3, u4, u5, u6, u7, u8, zc7, s0, s1, s2, s3, s4⟩ := HBX.out _ gW7
              have hcb := fun (i : GrW _) (o : Nat) => GrW.cell zb7 i o
              have hcc := fun (i : GrW _) (o : Nat) => GrW.cell zc7 i o
              have hct := fun (i : GrW _) (o : Nat) => GrW.cell z2 i o
              go_wp2_with fail
              (refine wp_region_gr (by kernel_rfl) (by kernel_rfl) ?_; (repeat (go_big_quiet_step ((go_at_call 19; exact Calls.gr_of (HLK.out _ (gw7.trans (GrW.gr _))))))); refine wpQuiet_nil ?_; intro wz hz; obtain ⟨iz, hz⟩ := hz; obtain ⟨wn, gn⟩ := iz; dsimp only at hz; obtain rfl := hz.symm)
              obtain ⟨-, -, zb8, u0, u1, u2, u3, u4, u5, u6, u7, u8, zc8, s0, s1, s2, s3, s4⟩ := HBX.out _ (gW7.trans gn)
              have gw8 := gw7.trans gn
              have gl8 := g7.trans gn
              have x00 := (gn.cell _ _ z2).trans x00
              have z8 := Nat.lt_of_lt_of_le z2 gn.size
              have tT : IntKind.i64.wrap ((T.length : Int) - 1) = (T.length : Int) - 1 := IntWalk.i64_in _ (by omega)
              have tr : IntKind.i64.wrap (LK - left) = LK - left := IntWalk.i64_in _ (by omega)
              have tk2 : IntKind.i64.wrap ((k : Int) - 1 - 1) = (k : Int) - 1 - 1 := IntWalk.i64_in _ (by omega)
              clear hcb hcc hct x0 zb7 zc7
              by_cases kT : k = T.length
              · have tk : ((k : Int) - 1 == (T.length : Int) - 1) = true := beqT (by omega)
                clear kT
                by_cases k1 : k = 1
                · have tk1 : ((k : Int) - 1 == 0) = true := beqT (by omega)
                  clear k1
                  have tz : (0 : Int) < (T.length : Int) := (by omega)
                  go_upto_region 30 with (fail)
                  have hcb := fun (i : GrW _) (o : Nat) => GrW.cell zb8 i o
                  have hcc := fun (i : GrW _) (o : Nat) => GrW.cell zc8 i o
                  have hct := fun (i : GrW _) (o : Nat) => GrW.cell z8 i o
                  by_cases r1 : 1 ≤ r
                  · by_cases r2 : r ≤ (LK - left)
                    · (refine wp_region_gr (by kernel_rfl) (by kernel_rfl) ?_; (repeat (go_big_quiet_step (fail))); refine wpQuiet_nil ?_; intro wz hz; obtain ⟨iz, hz⟩ := hz; obtain ⟨wn, gn⟩ := iz; dsimp only at hz; obtain rfl := hz.symm)
                      (go_wp2_with fail; go_ret; exact RetB.any (fun _ => HQ.out hne (by omega)) (gw8.trans gn))
                    · have tr2 : ¬ r ≤ (LK - left) := r2
                      (refine wp_region_gr (by kernel_rfl) (by kernel_rfl) ?_; (repeat (go_big_quiet_step ((go_at_call 17; exact Calls.gr_of (HK0.out _ (gw8.trans (GrW.gr _))))))); refine wpQuiet_nil ?_; intro wz hz; obtain ⟨iz, hz⟩ := hz; obtain ⟨wn, gn⟩ := iz; dsimp only at hz; obtain rfl := hz.symm)
                      (go_wp2_with fail; go_ret; exact RetB.any (fun _ => HQ.out hne (by omega)) (gw8.trans gn))
                  · have tr1 : ¬ 1 ≤ r := r1
                    (refine wp_region_gr (by kernel_rfl) (by kernel_rfl) ?_; (repeat (go_big_quiet_step (fail))); refine wpQuiet_nil ?_; intro wz hz; obtain ⟨iz, hz⟩ := hz; obtain ⟨wn, gn⟩ := iz; dsimp only at hz; obtain rfl := hz.symm)
                    (go_wp2_with fail; go_ret; exact RetB.any (fun _ => HQ.out hne (by omega)) (gw8.trans gn))
                · have tk1 : ((k : Int) - 1 == 0) = false := beqF (by omega)
                  clear k1
                  have tw : IntKind.i64.wrap (r - (LK - left)) = r - (LK - left) := IntWalk.i64_in _ (by omega)
                  go_wp2_with fail
                  go_roundw
                  case rel => exact ⟨_, k - 1, rfl, congrArg (Value.int .i64) (by omega), by omega, by omega, by omega, gl8⟩
                  case measure => simp [intOf]; omega
              · have tk : ((k : Int) - 1 == (T.length : Int) - 1) = false := beqF (by omega)
                clear kT
                by_cases k1 : k = 1
                · have tk1 : ((k : Int) - 1 == 0) = true := beqT (by omega)
                  clear k1
                  have tz : (0 : Int) < (T.length : Int) := (by omega)
                  go_upto_region 30 with (fail)
                  have hcb := fun (i : GrW _) (o : Nat) => GrW.cell zb8 i o
                  have hcc := fun (i : GrW _) (o : Nat) => GrW.cell zc8 i o
                  have hct := fun (i : GrW _) (o : Nat) => GrW.cell z8 i o
                  by_cases r1 : 1 ≤ r
                  · by_cases r2 : r ≤ LK
                    · (refine wp_region_gr (by kernel_rfl) (by kernel_rfl) ?_; (repeat (go_big_quiet_step (fail))); refine wpQuiet_nil ?_; intro wz hz; obtain ⟨iz, hz⟩ := hz; obtain ⟨wn, gn⟩ := iz; dsimp only at hz; obtain rfl := hz.symm)
                      (go_wp2_with fail; go_ret; exact RetB.any (fun _ => HQ.out hne (by omega)) (gw8.trans gn))
                    · have tr2 : ¬ r ≤ LK := r2
                      (refine wp_region_gr (by kernel_rfl) (by kernel_rfl) ?_; (repeat (go_big_quiet_step ((go_at_call 17; exact Calls.gr_of (HK0.out _ (gw8.trans (GrW.gr _))))))); refine wpQuiet_nil ?_; intro wz hz; obtain ⟨iz, hz⟩ := hz; obtain ⟨wn, gn⟩ := iz; dsimp only at hz; obtain rfl := hz.symm)
                      (go_wp2_with fail; go_ret; exact RetB.any (fun _ => HQ.out hne (by omega)) (gw8.trans gn))
                  · have tr1 : ¬ 1 ≤ r := r1
                    (refine wp_region_gr (by kernel_rfl) (by kernel_rfl) ?_; (repeat (go_big_quiet_step (fail))); refine wpQuiet_nil ?_; intro wz hz; obtain ⟨iz, hz⟩ := hz; obtain ⟨wn, gn⟩ := iz; dsimp only at hz; obtain rfl := hz.symm)
                    (go_wp2_with fail; go_ret; exact RetB.any (fun _ => HQ.out hne (by omega)) (gw8.trans gn))
                · have tk1 : ((k : Int) - 1 == 0) = false := beqF (by omega)
                  clear k1
                  have tw : IntKind.i64.wrap (r - LK) = r - LK := IntWalk.i64_in _ (by omega)
                  go_wp2_with fail
                  go_roundw
                  case rel => exact ⟨_, k - 1, rfl, congrArg (Value.int .i64) (by omega), by omega, by omega, by omega, gl8⟩
                  case measure => simp [intOf]; omega
            · have j0 : ¬ (0 : Int) ≤ (k : Int) - 1 := by omega
              go_wp2_with fail
              go_ret
              exact RetB.no gw7
end Go.Proofs.YtgjnlgcdpbilfaaDoor
