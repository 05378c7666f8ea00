/- the reference's Step. -/
import Derived.Test.YtaanepadgoefhaaGreatDoorRows
import Derived.Test.YtaanepadgoefhaaGreatDoorRRef4
import Derived.Test.YtaanepadgoefhaaGreatDoorB10
import Derived.Test.YtaanepadgoefhaaGreatDoorB1
import Derived.Deep.Cut
namespace Go.Proofs.YtaanepadgoefhaaGreatDoor
open Go.ChangeShapes Go.WideShapes Go.ChangeAt Go.RowKit Go.Maps
set_option linter.unusedVariables false
set_option linter.unusedSimpArgs false
theorem new2s {w w' : World} {x y : Value} {t : TypeId} (g : Gr (w.alloc (.cells #[x, y] t)) w') : w.heap.size < w'.heap.size ∧ w'.cell? ⟨w.heap.size, 0, none⟩ = some x ∧ w'.cell? ⟨w.heap.size, 1, none⟩ = some y := by
  have hz : w.heap.size < (w.alloc (.cells #[x, y] t)).heap.size := by simp
  exact ⟨Nat.lt_of_lt_of_le hz g.size, (g.cell _ _ hz).trans (by rw [World.cell?_alloc_mark]; rfl), (g.cell _ _ hz).trans (by rw [World.cell?_alloc_mark]; rfl)⟩
theorem throughR (P : Pln) (pos : List Int) (y : Prt) : throughL (outsK (kindP P y.e) y.x) (rliesP pos y.e) = throughL (outsK (eleAt P y.e).k y.x) (liesP pos y.e) := by
  rw [eleAt_kind]; exact through_lies pos y.e _ fun w hw => outsK_pos hw
set_option maxRecDepth 100000 in
set_option maxHeartbeats 4000000 in
theorem refStep_any (v u : Value) (P : Pln) (pos : List Int) (x : Prt) (w : World) (hP : IsPln w v P) (hv : IsVals w u (pos.map (Value.int .i64))) :
    Calls Tryz.prog 53 #[v, u, x.v] w fun e w' => e = .returned (stpR (stepP P pos x)) ∧ Gr w w' := by
  have HPI := Lib.hid hP
  obtain ⟨a1, c1, a2, c2, a3, c3, a4, c4, rfl, -⟩ := hP
  have HLI := Lib.hid (fun (w' : World) (g : Gr w w') (i : Int) => refLies_any u pos i w' (hv.gr g))
  have HS : Hid (stepP P pos x = match nextL P.js x with
    | none => ((⟨0, 0⟩ : Prt), (3 : Int))
    | some y => if kindP P y.e = 4 then (⟨0, 0⟩, 2) else match throughL (outsK (kindP P y.e) y.x) (rliesP pos y.e) with
      | none => (⟨0, 0⟩, 4)
      | some o => (⟨y.e, o⟩, 0)) := by
    show _ = _
    unfold stepP
    cases nextL P.js x with
    | none => rfl
    | some y => dsimp only; rw [throughR]; simp only [eleAt_kind]; rfl
  generalize stepP P pos x = R at HS ⊢
  obtain ⟨xe, xx⟩ := x
  have g0 : Gr w (((w.alloc (.cells #[.slice a1 P.es.length c1, .slice a2 P.js.length c2, .slice a3 P.ss.length c3, .slice a4 P.ls.length c4, .int .i64 P.top, .int .i64 P.brake, .int .i64 P.margin, .int .i64 P.throw, .bool P.hard] 27)).alloc (.cells #[.int .i64 xe, .int .i64 xx] 68)).alloc (.cells #[.int .i64 0, .int .i64 0] 68)) := (((Gr.refl _).alloc _).alloc _).alloc _
  have HB := PBox.new w P (.slice a1 P.es.length c1) (.slice a2 P.js.length c2) (.slice a3 P.ss.length c3) (.slice a4 P.ls.length c4)
  have HR0 : Hid (∀ w1, Gr (((w.alloc (.cells #[.slice a1 P.es.length c1, .slice a2 P.js.length c2, .slice a3 P.ss.length c3, .slice a4 P.ls.length c4, .int .i64 P.top, .int .i64 P.brake, .int .i64 P.margin, .int .i64 P.throw, .bool P.hard] 27)).alloc (.cells #[.int .i64 xe, .int .i64 xx] 68)).alloc (.cells #[.int .i64 0, .int .i64 0] 68)) w1 → w.heap.size + 1 + 1 < w1.heap.size ∧ w1.cell? ⟨w.heap.size + 1 + 1, 0, none⟩ = some (.int .i64 0) ∧ w1.cell? ⟨w.heap.size + 1 + 1, 1, none⟩ = some (.int .i64 0) ∧ w1.frozen? ⟨w.heap.size + 1 + 1, 0, none⟩ = false ∧ w1.frozen? ⟨w.heap.size + 1 + 1, 1, none⟩ = false ∧ PBox w1 w.heap.size P (.slice a1 P.es.length c1) (.slice a2 P.js.length c2) (.slice a3 P.ss.length c3) (.slice a4 P.ls.length c4)) := by
    intro w1 g
    have hz : w.heap.size + 1 + 1 < ((((w.alloc (.cells #[.slice a1 P.es.length c1, .slice a2 P.js.length c2, .slice a3 P.ss.length c3, .slice a4 P.ls.length c4, .int .i64 P.top, .int .i64 P.brake, .int .i64 P.margin, .int .i64 P.throw, .bool P.hard] 27)).alloc (.cells #[.int .i64 xe, .int .i64 xx] 68)).alloc (.cells #[.int .i64 0, .int .i64 0] 68))).heap.size := by simp
    exact ⟨Nat.lt_of_lt_of_le hz g.size, (g.cell _ _ hz).trans (by go_simp), (g.cell _ _ hz).trans (by go_simp), (g.frozen _ _ hz).trans (by go_simp), (g.frozen _ _ hz).trans (by go_simp), HB.gr ((((Gr.refl _).alloc _).alloc _).trans g)⟩
  have hb : w.heap.size ≤ w.heap.size + 1 + 1 := by omega
  unfold plnV
  clear HB
  cases hnx : nextL P.js ⟨xe, xx⟩ with
  | none =>
    have HN1 : Hid (∀ w', Gr w w' → Calls Tryz.prog 44 #[(.agg #[.slice a1 P.es.length c1, .slice a2 P.js.length c2, .slice a3 P.ss.length c3, .slice a4 P.ls.length c4, .int .i64 P.top, .int .i64 P.brake, .int .i64 P.margin, .int .i64 P.throw, .bool P.hard]), .agg #[.int .i64 xe, .int .i64 xx]] w' fun e w'' => e = .returned (.tuple #[.agg #[.int .i64 0, .int .i64 0], .bool false]) ∧ Gr w' w'') := fun w' g => refNext_none hnx _ w' (HPI.out.gr g)
    rw [hnx] at HS
    unfold Prt.v
    dsimp only at HS
    go_enter Tryz.func53, Tryz.ntmps53
    go_wp2_with (first | (go_at_call 44; (with_reducible refine (HN1.out _ g0).mono ?_); rintro e w1 ⟨rfl, g1⟩; have gw1 := g0.trans g1; obtain ⟨hz1, r0, r1, f0, f1, zb1, d0, d1, d2, d3, d4, d5, d6, d7, d8⟩ := HR0.out _ g1) | fail)
    refine bodyPost_ret (v := .tuple #[.agg #[.int .i64 0, .int .i64 0], .int .i64 3]) (by simp [results, Tryz.results53, go_sem, r0, r1, f0, f1, hz1]) rfl ⟨by rw [HS.out]; rfl, ((gw1.setCell hb _).setCell hb _).alloc _⟩
  | some y =>
    obtain ⟨ye, yx⟩ := y
    have HN1 : Hid (∀ w', Gr w w' → Calls Tryz.prog 44 #[(.agg #[.slice a1 P.es.length c1, .slice a2 P.js.length c2, .slice a3 P.ss.length c3, .slice a4 P.ls.length c4, .int .i64 P.top, .int .i64 P.brake, .int .i64 P.margin, .int .i64 P.throw, .bool P.hard]), .agg #[.int .i64 xe, .int .i64 xx]] w' fun e w'' => e = .returned (.tuple #[.agg #[.int .i64 ye, .int .i64 yx], .bool true]) ∧ Gr w' w'') := fun w' g => refNext_some hnx _ w' (HPI.out.gr g)
    rw [hnx] at HS
    dsimp only at HS
    have HKI1 : Hid (∀ w', Gr w w' → Calls Tryz.prog 86 #[(.agg #[.slice a1 P.es.length c1, .slice a2 P.js.length c2, .slice a3 P.ss.length c3, .slice a4 P.ls.length c4, .int .i64 P.top, .int .i64 P.brake, .int .i64 P.margin, .int .i64 P.throw, .bool P.hard]), .int .i64 ye] w' fun e w'' => e = .returned (.int .i64 (kindP P ye)) ∧ Gr w' w'') := fun w' g => kind_any _ P ye w' (HPI.out.gr g)
    have HTH1 : Hid (∀ w', Gr w w' → Calls Tryz.prog 95 #[(.agg #[.slice a1 P.es.length c1, .slice a2 P.js.length c2, .slice a3 P.ss.length c3, .slice a4 P.ls.length c4, .int .i64 P.top, .int .i64 P.brake, .int .i64 P.margin, .int .i64 P.throw, .bool P.hard]), .int .i64 ye, .int .i64 yx, .int .i64 (rliesP pos ye)] w' fun e w'' => e = .returned (thrR (throughL (outsK (kindP P ye) yx) (rliesP pos ye))) ∧ Gr w' w'') := fun w' g => refThrough_any _ P ye yx (rliesP pos ye) w' (HPI.out.gr g)
    have HLI1 : Hid (∀ w', Gr w w' → Calls Tryz.prog 96 #[u, .int .i64 ye] w' fun e w'' => e = .returned (.int .i64 (rliesP pos ye)) ∧ Gr w' w'') := fun w' g => (HLI.out w' g ye).mono fun e w'' h => ⟨h.1, by rw [h.2]; exact Gr.refl _⟩
    generalize rliesP pos ye = lp at HS HTH1 HLI1
    generalize kindP P ye = K at HS HKI1 HTH1
    unfold Prt.v
    by_cases h4 : K = 4
    · rw [if_pos h4] at HS
      subst h4
      go_enter Tryz.func53, Tryz.ntmps53
      go_wp2_with (first | (go_at_call 44; (with_reducible refine (HN1.out _ g0).mono ?_); rintro e w1 ⟨rfl, g1⟩; have gw1 := g0.trans g1; obtain ⟨hz1, r0, r1, f0, f1, zb1, d0, d1, d2, d3, d4, d5, d6, d7, d8⟩ := HR0.out _ g1) | (go_at_call 86; (with_reducible refine (HKI1.out _ (gw1.alloc _)).mono ?_); rintro e w2 ⟨rfl, g2⟩; have gw2 := (gw1.alloc _).trans g2; obtain ⟨hz2, s0, s1, t0, t1, zb2, e0, e1, e2, e3, e4, e5, e6, e7, e8⟩ := HR0.out _ ((g1.alloc _).trans g2); obtain ⟨zy, y0, y1⟩ := new2s g2) | fail)
      refine bodyPost_ret (v := .tuple #[.agg #[.int .i64 0, .int .i64 0], .int .i64 2]) (by simp [results, Tryz.results53, go_sem, s0, s1, t0, t1, hz2]) rfl ⟨by rw [HS.out]; rfl, (gw2.setCell hb _).setCell hb _⟩
    · rw [if_neg h4] at HS
      have t4 : (K == 4) = false := by simpa using h4
      clear h4
      cases htt : throughL (outsK K yx) lp with
      | none =>
        have HT1 : Hid (∀ w', Gr w w' → Calls Tryz.prog 95 #[(.agg #[.slice a1 P.es.length c1, .slice a2 P.js.length c2, .slice a3 P.ss.length c3, .slice a4 P.ls.length c4, .int .i64 P.top, .int .i64 P.brake, .int .i64 P.margin, .int .i64 P.throw, .bool P.hard]), .int .i64 ye, .int .i64 yx, .int .i64 lp] w' fun e w'' => e = .returned (.tuple #[.int .i64 0, .bool false]) ∧ Gr w' w'') := fun w' g => by
          have := HTH1.out w' g
          rw [htt] at this
          exact this
        rw [htt] at HS
        dsimp only at HS
        go_enter Tryz.func53, Tryz.ntmps53
        go_upto_region 6 with (first | (go_at_call 44; (with_reducible refine (HN1.out _ g0).mono ?_); rintro e w1 ⟨rfl, g1⟩; have gw1 := g0.trans g1; obtain ⟨hz1, r0, r1, f0, f1, zb1, d0, d1, d2, d3, d4, d5, d6, d7, d8⟩ := HR0.out _ g1) | (go_at_call 86; (with_reducible refine (HKI1.out _ (gw1.alloc _)).mono ?_); rintro e w2 ⟨rfl, g2⟩; have gw2 := (gw1.alloc _).trans g2; obtain ⟨hz2, s0, s1, t0, t1, zb2, e0, e1, e2, e3, e4, e5, e6, e7, e8⟩ := HR0.out _ ((g1.alloc _).trans g2); obtain ⟨zy, y0, y1⟩ := new2s g2) | fail)
        (have hcy := fun (i : GrW w2) (o : Nat) => GrW.cell zy i o; have hcp := fun (i : GrW w2) (o : Nat) => GrW.cell zb2 i o; (refine wp_region_gr (by kernel_rfl) (by kernel_rfl) ?_; (repeat (go_big_quiet_step ((first | (go_at_call 96; exact Calls.gr_of (HLI1.out _ (gw2.trans (GrW.gr _)))) | (go_at_call 95; exact Calls.gr_of (HT1.out _ (gw2.trans (GrW.gr _)))))))); refine wpQuiet_nil ?_; intro wz hz; obtain ⟨iz, hz⟩ := hz; obtain ⟨wn, gn⟩ := iz; dsimp only at hz; obtain rfl := hz.symm))
        have y0 := (gn.cell _ _ zy).trans y0
        have HRn := HR0.out _ (((g1.alloc _).trans g2).trans gn)
        obtain ⟨hz3, p0, p1, q0, q1, -⟩ := HRn
        go_wp2_with fail
        refine bodyPost_ret (v := .tuple #[.agg #[.int .i64 0, .int .i64 0], .int .i64 4]) (by simp [results, Tryz.results53, go_sem, p0, p1, q0, q1, hz3]) rfl ⟨by rw [HS.out]; rfl, ((gw2.trans gn).setCell hb _).setCell hb _⟩
      | some o =>
        have HT1 : Hid (∀ w', Gr w w' → Calls Tryz.prog 95 #[(.agg #[.slice a1 P.es.length c1, .slice a2 P.js.length c2, .slice a3 P.ss.length c3, .slice a4 P.ls.length c4, .int .i64 P.top, .int .i64 P.brake, .int .i64 P.margin, .int .i64 P.throw, .bool P.hard]), .int .i64 ye, .int .i64 yx, .int .i64 lp] w' fun e w'' => e = .returned (.tuple #[.int .i64 o, .bool true]) ∧ Gr w' w'') := fun w' g => by
          have := HTH1.out w' g
          rw [htt] at this
          exact this
        rw [htt] at HS
        dsimp only at HS
        go_enter Tryz.func53, Tryz.ntmps53
        go_upto_region 6 with (first | (go_at_call 44; (with_reducible refine (HN1.out _ g0).mono ?_); rintro e w1 ⟨rfl, g1⟩; have gw1 := g0.trans g1; obtain ⟨hz1, r0, r1, f0, f1, zb1, d0, d1, d2, d3, d4, d5, d6, d7, d8⟩ := HR0.out _ g1) | (go_at_call 86; (with_reducible refine (HKI1.out _ (gw1.alloc _)).mono ?_); rintro e w2 ⟨rfl, g2⟩; have gw2 := (gw1.alloc _).trans g2; obtain ⟨hz2, s0, s1, t0, t1, zb2, e0, e1, e2, e3, e4, e5, e6, e7, e8⟩ := HR0.out _ ((g1.alloc _).trans g2); obtain ⟨zy, y0, y1⟩ := new2s g2) | fail)
        (have hcy := fun (i : GrW w2) (o : Nat) => GrW.cell zy i o; have hcp := fun (i : GrW w2) (o : Nat) => GrW.cell zb2 i o; (refine wp_region_gr (by kernel_rfl) (by kernel_rfl) ?_; (repeat (go_big_quiet_step ((first | (go_at_call 96; exact Calls.gr_of (HLI1.out _ (gw2.trans (GrW.gr _)))) | (go_at_call 95; exact Calls.gr_of (HT1.out _ (gw2.trans (GrW.gr _)))))))); refine wpQuiet_nil ?_; intro wz hz; obtain ⟨iz, hz⟩ := hz; obtain ⟨wn, gn⟩ := iz; dsimp only at hz; obtain rfl := hz.symm))
        have y0 := (gn.cell _ _ zy).trans y0
        have HRn := HR0.out _ (((g1.alloc _).trans g2).trans gn)
        obtain ⟨hz3, p0, p1, q0, q1, -⟩ := HRn
        go_wp2_with fail
        refine bodyPost_ret (v := .tuple #[.agg #[.int .i64 ye, .int .i64 o], .int .i64 0]) (by simp [results, Tryz.results53, go_sem, p0, p1, q0, q1, hz3]) rfl ⟨by rw [HS.out]; rfl, ((gw2.trans gn).setCell hb _).setCell hb _⟩
end Go.Proofs.YtaanepadgoefhaaGreatDoor
