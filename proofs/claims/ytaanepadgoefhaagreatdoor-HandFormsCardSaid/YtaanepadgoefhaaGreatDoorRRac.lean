/- the reference's Act. -/
import Derived.Test.YtaanepadgoefhaaGreatDoorRows
import Derived.Test.YtaanepadgoefhaaGreatDoorRAct
import Derived.Deep.Cut
import Derived.Deep.RegionHeld3
namespace Go.Proofs.YtaanepadgoefhaaGreatDoor
open Go.ChangeShapes Go.WideShapes Go.ChangeAt Go.RowKit Go.Maps
set_option linter.unusedVariables false
set_option linter.unusedSimpArgs false
set_option maxRecDepth 100000 in
set_option maxHeartbeats 2000000 in
theorem refAct_any (D : Drv) (dv bv : Value) (B : Bdy) (nm : ByteArray) (l t a b tick sees : Int) (turns : Bool) (ht : 1 ≤ t ∧ t ≤ 60) (ha : 1 ≤ a ∧ a ≤ 10) (hb : 1 ≤ b ∧ b ≤ 10) (w : World) (hD : IsDrv w dv D) (hB : IsBdy w bv B) (hkd : D.kind = 1 ∨ D.kind = 2 ∨ D.kind = 3) :
    Calls Tryz.prog 20 #[dv, .int .i64 tick, .agg #[.string nm, .int .i64 l, .int .i64 t, .int .i64 a, .int .i64 b], bv, .int .i64 sees, .bool turns] w fun e w' => e = .returned (actR (actP D tick t a b B sees turns)) ∧ Gr w w' := by
  obtain ⟨da, dc, rfl, hd⟩ := hD
  obtain ⟨ba, bc, rfl, -⟩ := hB
  obtain ⟨kind, tape⟩ := D
  obtain ⟨mode, trail, left, over, v⟩ := B
  dsimp only at hkd
  have HV := Lib.hid hd
  unfold drvV bdyV
  dsimp only at HV ⊢
  have hm := hd
  obtain ⟨_, _, hs0, hm, -⟩ := hm
  simp only [Value.slice.injEq, List.length_map] at hs0 hm
  unfold maxLen at hm
  clear hs0 hd
  have ways := turn_ways turns v mode
  by_cases k1 : kind = 1
  · subst k1
    rcases ways with ⟨rfl, rfl, rfl⟩ | rfl | ⟨rfl, hv⟩ | ⟨rfl, hv, hm2⟩
    · have HR : Hid (actP ⟨1, tape⟩ tick t a b ⟨2, trail, left, over, 0⟩ sees true = (0, true)) := by show _ = _; unfold actP; simp
      go_enter Tryz.func20, Tryz.ntmps20
      go_wp2_with fail
      (refine bodyPost_ret (v := .agg #[.int .i64 (((0, true) : Int × Bool)).1, .bool (((0, true) : Int × Bool)).2]) (by simp [results, Tryz.results20, go_sem]) rfl ⟨by rw [HR.out]; rfl, ?_⟩)
      (first | exact ((((Gr.refl w).alloc _).alloc _).alloc _).alloc _ | exact ((((((Gr.refl w).alloc _).alloc _).alloc _).alloc _).setCell (by simp; omega) _).setCell (by simp; omega) _)
    · have HR : Hid (actP ⟨1, tape⟩ tick t a b ⟨mode, trail, left, over, v⟩ sees false = (10, false)) := by show _ = _; unfold actP; simp
      go_enter Tryz.func20, Tryz.ntmps20
      go_wp2_with fail
      (refine bodyPost_ret (v := .agg #[.int .i64 (((10, false) : Int × Bool)).1, .bool (((10, false) : Int × Bool)).2]) (by simp [results, Tryz.results20, go_sem]) rfl ⟨by rw [HR.out]; rfl, ?_⟩)
      (first | exact ((((Gr.refl w).alloc _).alloc _).alloc _).alloc _ | exact ((((((Gr.refl w).alloc _).alloc _).alloc _).alloc _).setCell (by simp; omega) _).setCell (by simp; omega) _)
    · have HR : Hid (actP ⟨1, tape⟩ tick t a b ⟨mode, trail, left, over, v⟩ sees true = (10, false)) := by show _ = _; unfold actP; have : v ≠ 0 := (by simpa using hv); simp [this]
      go_enter Tryz.func20, Tryz.ntmps20
      go_wp2_with fail
      (refine bodyPost_ret (v := .agg #[.int .i64 (((10, false) : Int × Bool)).1, .bool (((10, false) : Int × Bool)).2]) (by simp [results, Tryz.results20, go_sem]) rfl ⟨by rw [HR.out]; rfl, ?_⟩)
      (first | exact ((((Gr.refl w).alloc _).alloc _).alloc _).alloc _ | exact ((((((Gr.refl w).alloc _).alloc _).alloc _).alloc _).setCell (by simp; omega) _).setCell (by simp; omega) _)
    · have HR : Hid (actP ⟨1, tape⟩ tick t a b ⟨mode, trail, left, over, v⟩ sees true = (10, false)) := by show _ = _; unfold actP; have : mode ≠ 2 := (by simpa using hm2); simp [this]
      go_enter Tryz.func20, Tryz.ntmps20
      go_wp2_with fail
      (refine bodyPost_ret (v := .agg #[.int .i64 (((10, false) : Int × Bool)).1, .bool (((10, false) : Int × Bool)).2]) (by simp [results, Tryz.results20, go_sem]) rfl ⟨by rw [HR.out]; rfl, ?_⟩)
      (first | exact ((((Gr.refl w).alloc _).alloc _).alloc _).alloc _ | exact ((((((Gr.refl w).alloc _).alloc _).alloc _).alloc _).setCell (by simp; omega) _).setCell (by simp; omega) _)
  have t1 : (kind == 1) = false := by simpa using k1
  by_cases k2 : kind = 2
  · subst k2
    clear t1
    rcases ways with ⟨rfl, rfl, rfl⟩ | ways
    · have HR : Hid (actP ⟨2, tape⟩ tick t a b ⟨2, trail, left, over, 0⟩ sees true = (0, true)) := by show _ = _; unfold actP; simp
      go_enter Tryz.func20, Tryz.ntmps20
      go_wp2_with fail
      (refine bodyPost_ret (v := .agg #[.int .i64 (((0, true) : Int × Bool)).1, .bool (((0, true) : Int × Bool)).2]) (by simp [results, Tryz.results20, go_sem]) rfl ⟨by rw [HR.out]; rfl, ?_⟩)
      (first | exact ((((Gr.refl w).alloc _).alloc _).alloc _).alloc _ | exact ((((((Gr.refl w).alloc _).alloc _).alloc _).alloc _).setCell (by simp; omega) _).setCell (by simp; omega) _)
    have HR : Hid (actP ⟨2, tape⟩ tick t a b ⟨mode, trail, left, over, v⟩ sees turns = (kps t a b v sees - max 0 (min v t), false)) := by
      show _ = _
      rcases ways with rfl | ⟨rfl, hv⟩ | ⟨rfl, hv, hm2⟩
      · unfold actP; simp
      · have : v ≠ 0 := (by simpa using hv)
        unfold actP; simp [this]
      · have : mode ≠ 2 := (by simpa using hm2)
        unfold actP; simp [this]
    generalize actP ⟨2, tape⟩ tick t a b ⟨mode, trail, left, over, v⟩ sees turns = R at HR ⊢
    have HK : Hid (∀ w', Calls Tryz.prog 55 #[.agg #[.string nm, .int .i64 l, .int .i64 t, .int .i64 a, .int .i64 b], .int .i64 v, .int .i64 sees] w' fun e w'' => e = .returned (.int .i64 (kps t a b v sees)) ∧ Gr w' w'') := fun w' => refKeeps_any nm l t a b v sees ht ha hb w'
    have hkb := kps_bd t a b v sees ht.1 ha.1 hb.1
    generalize kps t a b v sees = K at HR HK hkb
    have hp : 0 < t := by omega
    have HO : Hid (∀ w', Calls Tryz.prog 56 #[.int .i64 v, .int .i64 0, .int .i64 t] w' fun e w'' => e = .returned (.int .i64 (max 0 (min v t))) ∧ w'' = w') := fun w' => hold_any v 0 t (by omega) w'
    have hMb : 0 ≤ max 0 (min v t) ∧ max 0 (min v t) ≤ t := by omega
    generalize max 0 (min v t) = M at HR HO hMb
    have tw : IntKind.i64.wrap (K - M) = K - M := IntWalk.i64_in _ (by omega)
    rcases ways with rfl | ⟨rfl, hv⟩ | ⟨rfl, hv, hm2⟩
    all_goals
      go_enter Tryz.func20, Tryz.ntmps20
      go_upto_region 12 with (fail)
      have hz4 : (((((w.alloc (.cells #[.int .i64 2, .slice da tape.length dc] 35)).alloc (.cells #[.string nm, .int .i64 l, .int .i64 t, .int .i64 a, .int .i64 b] 30)).alloc (.cells #[.int .i64 mode, .slice ba trail.length bc, .int .i64 left, .int .i64 over, .int .i64 v] 33)).alloc (.cells #[.int .i64 0, .bool false] 46))).heap.size = w.heap.size + 4 := by simp
      have hg3 : Gr w (((w.alloc (.cells #[.int .i64 2, .slice da tape.length dc] 35)).alloc (.cells #[.string nm, .int .i64 l, .int .i64 t, .int .i64 a, .int .i64 b] 30)).alloc (.cells #[.int .i64 mode, .slice ba trail.length bc, .int .i64 left, .int .i64 over, .int .i64 v] 33)) := (((Gr.refl w).alloc _).alloc _).alloc _
      have hg4 : Gr (((w.alloc (.cells #[.int .i64 2, .slice da tape.length dc] 35)).alloc (.cells #[.string nm, .int .i64 l, .int .i64 t, .int .i64 a, .int .i64 b] 30)).alloc (.cells #[.int .i64 mode, .slice ba trail.length bc, .int .i64 left, .int .i64 over, .int .i64 v] 33)) ((((w.alloc (.cells #[.int .i64 2, .slice da tape.length dc] 35)).alloc (.cells #[.string nm, .int .i64 l, .int .i64 t, .int .i64 a, .int .i64 b] 30)).alloc (.cells #[.int .i64 mode, .slice ba trail.length bc, .int .i64 left, .int .i64 over, .int .i64 v] 33)).alloc (.cells #[.int .i64 0, .bool false] 46)) := (Gr.refl _).alloc _
      have hz3 : ((((w.alloc (.cells #[.int .i64 2, .slice da tape.length dc] 35)).alloc (.cells #[.string nm, .int .i64 l, .int .i64 t, .int .i64 a, .int .i64 b] 30)).alloc (.cells #[.int .i64 mode, .slice ba trail.length bc, .int .i64 left, .int .i64 over, .int .i64 v] 33))).heap.size = w.heap.size + 1 + 1 + 1 := by simp
      have c0 : (((((w.alloc (.cells #[.int .i64 2, .slice da tape.length dc] 35)).alloc (.cells #[.string nm, .int .i64 l, .int .i64 t, .int .i64 a, .int .i64 b] 30)).alloc (.cells #[.int .i64 mode, .slice ba trail.length bc, .int .i64 left, .int .i64 over, .int .i64 v] 33)).alloc (.cells #[.int .i64 0, .bool false] 46))).cell? ⟨w.heap.size + 1, 0, none⟩ = some (.string nm) := by go_simp
      have c1 : (((((w.alloc (.cells #[.int .i64 2, .slice da tape.length dc] 35)).alloc (.cells #[.string nm, .int .i64 l, .int .i64 t, .int .i64 a, .int .i64 b] 30)).alloc (.cells #[.int .i64 mode, .slice ba trail.length bc, .int .i64 left, .int .i64 over, .int .i64 v] 33)).alloc (.cells #[.int .i64 0, .bool false] 46))).cell? ⟨w.heap.size + 1, 1, none⟩ = some (.int .i64 l) := by go_simp
      have c2 : (((((w.alloc (.cells #[.int .i64 2, .slice da tape.length dc] 35)).alloc (.cells #[.string nm, .int .i64 l, .int .i64 t, .int .i64 a, .int .i64 b] 30)).alloc (.cells #[.int .i64 mode, .slice ba trail.length bc, .int .i64 left, .int .i64 over, .int .i64 v] 33)).alloc (.cells #[.int .i64 0, .bool false] 46))).cell? ⟨w.heap.size + 1, 2, none⟩ = some (.int .i64 t) := by go_simp
      have c3 : (((((w.alloc (.cells #[.int .i64 2, .slice da tape.length dc] 35)).alloc (.cells #[.string nm, .int .i64 l, .int .i64 t, .int .i64 a, .int .i64 b] 30)).alloc (.cells #[.int .i64 mode, .slice ba trail.length bc, .int .i64 left, .int .i64 over, .int .i64 v] 33)).alloc (.cells #[.int .i64 0, .bool false] 46))).cell? ⟨w.heap.size + 1, 3, none⟩ = some (.int .i64 a) := by go_simp
      have c4 : (((((w.alloc (.cells #[.int .i64 2, .slice da tape.length dc] 35)).alloc (.cells #[.string nm, .int .i64 l, .int .i64 t, .int .i64 a, .int .i64 b] 30)).alloc (.cells #[.int .i64 mode, .slice ba trail.length bc, .int .i64 left, .int .i64 over, .int .i64 v] 33)).alloc (.cells #[.int .i64 0, .bool false] 46))).cell? ⟨w.heap.size + 1, 4, none⟩ = some (.int .i64 b) := by go_simp
      have cv : (((((w.alloc (.cells #[.int .i64 2, .slice da tape.length dc] 35)).alloc (.cells #[.string nm, .int .i64 l, .int .i64 t, .int .i64 a, .int .i64 b] 30)).alloc (.cells #[.int .i64 mode, .slice ba trail.length bc, .int .i64 left, .int .i64 over, .int .i64 v] 33)).alloc (.cells #[.int .i64 0, .bool false] 46))).cell? ⟨w.heap.size + 1 + 1, 4, none⟩ = some (.int .i64 v) := by go_simp
      have r0 : (((((w.alloc (.cells #[.int .i64 2, .slice da tape.length dc] 35)).alloc (.cells #[.string nm, .int .i64 l, .int .i64 t, .int .i64 a, .int .i64 b] 30)).alloc (.cells #[.int .i64 mode, .slice ba trail.length bc, .int .i64 left, .int .i64 over, .int .i64 v] 33)).alloc (.cells #[.int .i64 0, .bool false] 46))).cell? ⟨w.heap.size + 1 + 1 + 1, 0, none⟩ = some (.int .i64 0) := by go_simp
      have r1 : (((((w.alloc (.cells #[.int .i64 2, .slice da tape.length dc] 35)).alloc (.cells #[.string nm, .int .i64 l, .int .i64 t, .int .i64 a, .int .i64 b] 30)).alloc (.cells #[.int .i64 mode, .slice ba trail.length bc, .int .i64 left, .int .i64 over, .int .i64 v] 33)).alloc (.cells #[.int .i64 0, .bool false] 46))).cell? ⟨w.heap.size + 1 + 1 + 1, 1, none⟩ = some (.bool false) := by go_simp
      have f0 : (((((w.alloc (.cells #[.int .i64 2, .slice da tape.length dc] 35)).alloc (.cells #[.string nm, .int .i64 l, .int .i64 t, .int .i64 a, .int .i64 b] 30)).alloc (.cells #[.int .i64 mode, .slice ba trail.length bc, .int .i64 left, .int .i64 over, .int .i64 v] 33)).alloc (.cells #[.int .i64 0, .bool false] 46))).frozen? ⟨w.heap.size + 1 + 1 + 1, 0, none⟩ = false := by go_simp
      have f1 : (((((w.alloc (.cells #[.int .i64 2, .slice da tape.length dc] 35)).alloc (.cells #[.string nm, .int .i64 l, .int .i64 t, .int .i64 a, .int .i64 b] 30)).alloc (.cells #[.int .i64 mode, .slice ba trail.length bc, .int .i64 left, .int .i64 over, .int .i64 v] 33)).alloc (.cells #[.int .i64 0, .bool false] 46))).frozen? ⟨w.heap.size + 1 + 1 + 1, 1, none⟩ = false := by go_simp
      generalize ((((w.alloc (.cells #[.int .i64 2, .slice da tape.length dc] 35)).alloc (.cells #[.string nm, .int .i64 l, .int .i64 t, .int .i64 a, .int .i64 b] 30)).alloc (.cells #[.int .i64 mode, .slice ba trail.length bc, .int .i64 left, .int .i64 over, .int .i64 v] 33)).alloc (.cells #[.int .i64 0, .bool false] 46)) = W4 at *
      generalize (((w.alloc (.cells #[.int .i64 2, .slice da tape.length dc] 35)).alloc (.cells #[.string nm, .int .i64 l, .int .i64 t, .int .i64 a, .int .i64 b] 30)).alloc (.cells #[.int .i64 mode, .slice ba trail.length bc, .int .i64 left, .int .i64 over, .int .i64 v] 33)) = W3 at *
      have q1 : w.heap.size + 1 < W3.heap.size := by omega
      have q2 : w.heap.size + 1 + 1 < W3.heap.size := by omega
      have q3 : w.heap.size + 1 + 1 + 1 < W4.heap.size := by omega
      have q4 : W3.heap.size ≤ w.heap.size + 1 + 1 + 1 := by omega
      have HS : Hid (∀ w', Gr W4 w' → (Gr W3 w' ∧ w'.cell? ⟨w.heap.size + 1, 0, none⟩ = some (.string nm) ∧ w'.cell? ⟨w.heap.size + 1, 1, none⟩ = some (.int .i64 l) ∧ w'.cell? ⟨w.heap.size + 1, 2, none⟩ = some (.int .i64 t) ∧ w'.cell? ⟨w.heap.size + 1, 3, none⟩ = some (.int .i64 a) ∧ w'.cell? ⟨w.heap.size + 1, 4, none⟩ = some (.int .i64 b) ∧ w'.cell? ⟨w.heap.size + 1 + 1, 4, none⟩ = some (.int .i64 v) ∧ w.heap.size + 1 + 1 + 1 < w'.heap.size ∧ w'.frozen? ⟨w.heap.size + 1 + 1 + 1, 0, none⟩ = false ∧ w'.frozen? ⟨w.heap.size + 1 + 1 + 1, 1, none⟩ = false)) := fun w' g => ⟨hg4.trans g, (g.cell _ _ (by omega)).trans c0, (g.cell _ _ (by omega)).trans c1, (g.cell _ _ (by omega)).trans c2, (g.cell _ _ (by omega)).trans c3, (g.cell _ _ (by omega)).trans c4, (g.cell _ _ (by omega)).trans cv, Nat.lt_of_lt_of_le q3 g.size, (g.frozen _ _ q3).trans f0, (g.frozen _ _ q3).trans f1⟩
      have HSs : Hid (∀ w' u u', (Gr W3 w' ∧ w'.cell? ⟨w.heap.size + 1, 0, none⟩ = some (.string nm) ∧ w'.cell? ⟨w.heap.size + 1, 1, none⟩ = some (.int .i64 l) ∧ w'.cell? ⟨w.heap.size + 1, 2, none⟩ = some (.int .i64 t) ∧ w'.cell? ⟨w.heap.size + 1, 3, none⟩ = some (.int .i64 a) ∧ w'.cell? ⟨w.heap.size + 1, 4, none⟩ = some (.int .i64 b) ∧ w'.cell? ⟨w.heap.size + 1 + 1, 4, none⟩ = some (.int .i64 v) ∧ w.heap.size + 1 + 1 + 1 < w'.heap.size ∧ w'.frozen? ⟨w.heap.size + 1 + 1 + 1, 0, none⟩ = false ∧ w'.frozen? ⟨w.heap.size + 1 + 1 + 1, 1, none⟩ = false) → (Gr W3 ((w'.setCell ⟨w.heap.size + 1 + 1 + 1, 0, none⟩ u).setCell ⟨w.heap.size + 1 + 1 + 1, 1, none⟩ u') ∧ ((w'.setCell ⟨w.heap.size + 1 + 1 + 1, 0, none⟩ u).setCell ⟨w.heap.size + 1 + 1 + 1, 1, none⟩ u').cell? ⟨w.heap.size + 1, 0, none⟩ = some (.string nm) ∧ ((w'.setCell ⟨w.heap.size + 1 + 1 + 1, 0, none⟩ u).setCell ⟨w.heap.size + 1 + 1 + 1, 1, none⟩ u').cell? ⟨w.heap.size + 1, 1, none⟩ = some (.int .i64 l) ∧ ((w'.setCell ⟨w.heap.size + 1 + 1 + 1, 0, none⟩ u).setCell ⟨w.heap.size + 1 + 1 + 1, 1, none⟩ u').cell? ⟨w.heap.size + 1, 2, none⟩ = some (.int .i64 t) ∧ ((w'.setCell ⟨w.heap.size + 1 + 1 + 1, 0, none⟩ u).setCell ⟨w.heap.size + 1 + 1 + 1, 1, none⟩ u').cell? ⟨w.heap.size + 1, 3, none⟩ = some (.int .i64 a) ∧ ((w'.setCell ⟨w.heap.size + 1 + 1 + 1, 0, none⟩ u).setCell ⟨w.heap.size + 1 + 1 + 1, 1, none⟩ u').cell? ⟨w.heap.size + 1, 4, none⟩ = some (.int .i64 b) ∧ ((w'.setCell ⟨w.heap.size + 1 + 1 + 1, 0, none⟩ u).setCell ⟨w.heap.size + 1 + 1 + 1, 1, none⟩ u').cell? ⟨w.heap.size + 1 + 1, 4, none⟩ = some (.int .i64 v) ∧ w.heap.size + 1 + 1 + 1 < ((w'.setCell ⟨w.heap.size + 1 + 1 + 1, 0, none⟩ u).setCell ⟨w.heap.size + 1 + 1 + 1, 1, none⟩ u').heap.size ∧ ((w'.setCell ⟨w.heap.size + 1 + 1 + 1, 0, none⟩ u).setCell ⟨w.heap.size + 1 + 1 + 1, 1, none⟩ u').frozen? ⟨w.heap.size + 1 + 1 + 1, 0, none⟩ = false ∧ ((w'.setCell ⟨w.heap.size + 1 + 1 + 1, 0, none⟩ u).setCell ⟨w.heap.size + 1 + 1 + 1, 1, none⟩ u').frozen? ⟨w.heap.size + 1 + 1 + 1, 1, none⟩ = false)) := fun w' u u' ⟨g, s0, s1, s2, s3, s4, sv, z, z0, z1⟩ =>
        have g2 := (g.setCell q4 u).setCell q4 u'
        ⟨g2, (g2.cell _ _ q1).trans ((g.cell _ _ q1).symm.trans s0), (g2.cell _ _ q1).trans ((g.cell _ _ q1).symm.trans s1), (g2.cell _ _ q1).trans ((g.cell _ _ q1).symm.trans s2), (g2.cell _ _ q1).trans ((g.cell _ _ q1).symm.trans s3), (g2.cell _ _ q1).trans ((g.cell _ _ q1).symm.trans s4), (g2.cell _ _ q2).trans ((g.cell _ _ q2).symm.trans sv), by simpa using z, by simpa using z0, by simpa using z1⟩
      have HR5 : Hid (∀ w', Gr W4 w' → w'.cell? ⟨w.heap.size + 1 + 1 + 1, 0, none⟩ = some (.int .i64 0) ∧ w'.cell? ⟨w.heap.size + 1 + 1 + 1, 1, none⟩ = some (.bool false)) := fun w' g => ⟨(g.cell _ _ q3).trans r0, (g.cell _ _ q3).trans r1⟩
      clear hz4 hz3 f0 f1 r0 r1
      go_region_held3 (fun w' => Gr W3 w' ∧ w'.cell? ⟨w.heap.size + 1, 0, none⟩ = some (.string nm) ∧ w'.cell? ⟨w.heap.size + 1, 1, none⟩ = some (.int .i64 l) ∧ w'.cell? ⟨w.heap.size + 1, 2, none⟩ = some (.int .i64 t) ∧ w'.cell? ⟨w.heap.size + 1, 3, none⟩ = some (.int .i64 a) ∧ w'.cell? ⟨w.heap.size + 1, 4, none⟩ = some (.int .i64 b) ∧ w'.cell? ⟨w.heap.size + 1 + 1, 4, none⟩ = some (.int .i64 v) ∧ w.heap.size + 1 + 1 + 1 < w'.heap.size ∧ w'.frozen? ⟨w.heap.size + 1 + 1 + 1, 0, none⟩ = false ∧ w'.frozen? ⟨w.heap.size + 1 + 1 + 1, 1, none⟩ = false) (first | exact HS.out _ (Gr.refl _) | exact HS.out _ (Gr.refl _).drew | exact HS.out _ ((Gr.refl _).drew.trans h5) | exact HSs.out _ _ _ (HS.out _ ((Gr.refl _).drew.trans h5))) (first | (go_at_call 55; (with_reducible refine (HK.out _).mono ?_); rintro e w5 ⟨rfl, h5⟩; (first | obtain ⟨r0, r1⟩ := HR5.out _ ((Gr.refl _).drew.trans h5))) | (go_at_call 56; (with_reducible refine (HO.out _).mono ?_); rintro e w6 ⟨rfl, hq⟩; obtain rfl := hq.symm))
      all_goals (try go_simp)
      all_goals go_wp2_with fail
      all_goals obtain ⟨fg, -, -, -, -, -, -, fz, f0, f1⟩ := HS.out w5 ((Gr.refl _).drew.trans h5)
      all_goals
        refine bodyPost_ret (v := .agg #[.int .i64 (K - M), .bool false]) (by simp [results, Tryz.results20, go_sem, r0, r1, f0, f1, fz]) rfl ⟨by rw [HR.out]; rfl, ?_⟩
        exact hg3.trans ((fg.setCell q4 _).setCell q4 _)
  have t2 : (kind == 2) = false := by simpa using k2
  have HA : Hid (actP ⟨kind, tape⟩ tick t a b ⟨mode, trail, left, over, v⟩ sees turns = tapeR (tapeAt ⟨kind, tape⟩ tick)) := by show _ = _; unfold actP; simp [k1, k2]
  by_cases k3 : kind = 3
  · subst k3
    clear k1 k2 ways t1 t2
    by_cases h0 : 0 ≤ tick
    · obtain ⟨k, rfl⟩ := Int.eq_ofNat_of_zero_le h0
      by_cases hk : k < tape.length
      · have hk1 : (k : Int) < (tape.length : Int) := by omega
        obtain ⟨bb, o, hs, z, y0⟩ := ints_at HV.out k hk
        subst hs
        have HX : Hid (tapeAt ⟨3, tape⟩ k = tape[k]) := by show _ = _; unfold tapeAt; rw [if_pos ⟨rfl, h0, hk1⟩, Int.toNat_natCast, List.getD_eq_getElem?_getD, List.getElem?_eq_getElem hk]; rfl
        generalize tape[k] = x at y0 HX
        have y4 : (((((w.alloc (.cells #[.int .i64 3, .slice (some ⟨bb, o, none⟩) tape.length dc] 35)).alloc (.cells #[.string nm, .int .i64 l, .int .i64 t, .int .i64 a, .int .i64 b] 30)).alloc (.cells #[.int .i64 mode, .slice ba trail.length bc, .int .i64 left, .int .i64 over, .int .i64 v] 33)).alloc (.cells #[.int .i64 0, .bool false] 46))).cell? ⟨bb, o + k, none⟩ = some (.int .i64 x) := ((((((Gr.refl w).alloc _).alloc _).alloc _).alloc _).cell _ _ z).trans y0
        by_cases hx : x = 1000
        · subst hx
          have HR : Hid (actP ⟨3, tape⟩ k t a b ⟨mode, trail, left, over, v⟩ sees turns = (0, true)) := by show _ = _; rw [HA.out, HX.out]; rfl
          clear HA HX
          go_enter Tryz.func20, Tryz.ntmps20
          go_wp2_with fail
          (refine bodyPost_ret (v := .agg #[.int .i64 (((0, true) : Int × Bool)).1, .bool (((0, true) : Int × Bool)).2]) (by simp [results, Tryz.results20, go_sem]) rfl ⟨by rw [HR.out]; rfl, ?_⟩)
          (first | exact ((((Gr.refl w).alloc _).alloc _).alloc _).alloc _ | exact ((((((Gr.refl w).alloc _).alloc _).alloc _).alloc _).setCell (by simp; omega) _).setCell (by simp; omega) _)
        · have HR : Hid (actP ⟨3, tape⟩ k t a b ⟨mode, trail, left, over, v⟩ sees turns = (x, false)) := by show _ = _; rw [HA.out, HX.out]; unfold tapeR; rw [if_neg hx]
          have tx : (x == 1000) = false := by simpa using hx
          clear HA HX hx
          go_enter Tryz.func20, Tryz.ntmps20
          go_wp2_with fail
          (refine bodyPost_ret (v := .agg #[.int .i64 (((x, false) : Int × Bool)).1, .bool (((x, false) : Int × Bool)).2]) (by simp [results, Tryz.results20, go_sem]) rfl ⟨by rw [HR.out]; rfl, ?_⟩)
          (first | exact ((((Gr.refl w).alloc _).alloc _).alloc _).alloc _ | exact ((((((Gr.refl w).alloc _).alloc _).alloc _).alloc _).setCell (by simp; omega) _).setCell (by simp; omega) _)
      · have hk1 : ¬ (k : Int) < (tape.length : Int) := by omega
        have HR : Hid (actP ⟨3, tape⟩ k t a b ⟨mode, trail, left, over, v⟩ sees turns = (0, false)) := by show _ = _; rw [HA.out]; unfold tapeAt; rw [if_neg (fun h => hk1 h.2.2)]; rfl
        clear HA hk
        go_enter Tryz.func20, Tryz.ntmps20
        go_wp2_with fail
        (refine bodyPost_ret (v := .agg #[.int .i64 (((0, false) : Int × Bool)).1, .bool (((0, false) : Int × Bool)).2]) (by simp [results, Tryz.results20, go_sem]) rfl ⟨by rw [HR.out]; rfl, ?_⟩)
        (first | exact ((((Gr.refl w).alloc _).alloc _).alloc _).alloc _ | exact ((((((Gr.refl w).alloc _).alloc _).alloc _).alloc _).setCell (by simp; omega) _).setCell (by simp; omega) _)
    · have HR : Hid (actP ⟨3, tape⟩ tick t a b ⟨mode, trail, left, over, v⟩ sees turns = (0, false)) := by show _ = _; rw [HA.out]; unfold tapeAt; rw [if_neg (fun h => h0 h.2.1)]; rfl
      clear HA
      go_enter Tryz.func20, Tryz.ntmps20
      go_wp2_with fail
      (refine bodyPost_ret (v := .agg #[.int .i64 (((0, false) : Int × Bool)).1, .bool (((0, false) : Int × Bool)).2]) (by simp [results, Tryz.results20, go_sem]) rfl ⟨by rw [HR.out]; rfl, ?_⟩)
      (first | exact ((((Gr.refl w).alloc _).alloc _).alloc _).alloc _ | exact ((((((Gr.refl w).alloc _).alloc _).alloc _).alloc _).setCell (by simp; omega) _).setCell (by simp; omega) _)
  · exfalso; omega
end Go.Proofs.YtaanepadgoefhaaGreatDoor
