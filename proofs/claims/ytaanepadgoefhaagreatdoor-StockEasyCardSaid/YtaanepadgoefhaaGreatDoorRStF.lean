/- The net's Plan; stock.Fits and the reference's. -/
import Derived.Test.YtaanepadgoefhaaGreatDoorRows
import Derived.Test.YtaanepadgoefhaaGreatDoorRStZ
namespace Go.Proofs.YtaanepadgoefhaaGreatDoor
open Go.ChangeShapes Go.WideShapes Go.ChangeAt Go.RowKit Go.Maps
set_option linter.unusedVariables false
set_option linter.unusedSimpArgs false
/-- a plan's value with the plan's numbers -/
def RetPv (P : Pln) (w : World) (e : Ending) (w' : World) : Prop := ∃ x1 x2 x3 x4, e = .returned (plnV P x1 x2 x3 x4) ∧ Gr w w'
set_option maxRecDepth 100000 in
set_option maxHeartbeats 1000000 in
theorem netPlan_any (b : Nat) (P : Pln) (w : World) (hN : NetIs w b P) (hn : P.es.length ≤ 1000 ∧ P.js.length ≤ 1000 ∧ P.ss.length ≤ 1000 ∧ P.ls.length ≤ 1000) (hnl : ∀ l ∈ P.ls, l.es.length ≤ 1000) :
    Calls Tryz.prog 59 #[.pointer (some ⟨b, 0, none⟩)] w (RetPv P w) := by
  obtain ⟨v1, v2, v3, v4, bn, n1, f1, br, n2, f2, bl, n3, f3, bd, n4, f4, hb, hp, -⟩ := hN
  have g0 : Gr w (w.alloc (.cells #[.slice none 0 0, .slice none 0 0, .slice none 0 0, .slice none 0 0, .int .i64 0, .int .i64 0, .int .i64 0, .int .i64 0, .bool false] 27)) := (Gr.refl _).alloc _
  have HT := Lib.hid (twin_any _ P _ (hp.gr g0) hn hnl)
  have HC : Hid (∀ w', Gr (w.alloc (.cells #[.slice none 0 0, .slice none 0 0, .slice none 0 0, .slice none 0 0, .int .i64 0, .int .i64 0, .int .i64 0, .int .i64 0, .bool false] 27)) w' → w.heap.size < w'.heap.size ∧ w'.cell? ⟨w.heap.size, 0, none⟩ = some (.slice none 0 0) ∧ w'.cell? ⟨w.heap.size, 1, none⟩ = some (.slice none 0 0) ∧ w'.cell? ⟨w.heap.size, 2, none⟩ = some (.slice none 0 0) ∧ w'.cell? ⟨w.heap.size, 3, none⟩ = some (.slice none 0 0) ∧ w'.cell? ⟨w.heap.size, 4, none⟩ = some (.int .i64 0) ∧ w'.cell? ⟨w.heap.size, 5, none⟩ = some (.int .i64 0) ∧ w'.cell? ⟨w.heap.size, 6, none⟩ = some (.int .i64 0) ∧ w'.cell? ⟨w.heap.size, 7, none⟩ = some (.int .i64 0) ∧ w'.cell? ⟨w.heap.size, 8, none⟩ = some (.bool false) ∧ w'.frozen? ⟨w.heap.size, 0, none⟩ = false ∧ w'.frozen? ⟨w.heap.size, 1, none⟩ = false ∧ w'.frozen? ⟨w.heap.size, 2, none⟩ = false ∧ w'.frozen? ⟨w.heap.size, 3, none⟩ = false ∧ w'.frozen? ⟨w.heap.size, 4, none⟩ = false ∧ w'.frozen? ⟨w.heap.size, 5, none⟩ = false ∧ w'.frozen? ⟨w.heap.size, 6, none⟩ = false ∧ w'.frozen? ⟨w.heap.size, 7, none⟩ = false ∧ w'.frozen? ⟨w.heap.size, 8, none⟩ = false) := by
    intro w' g
    have hz : w.heap.size < ((w.alloc (.cells #[.slice none 0 0, .slice none 0 0, .slice none 0 0, .slice none 0 0, .int .i64 0, .int .i64 0, .int .i64 0, .int .i64 0, .bool false] 27))).heap.size := by simp
    refine ⟨Nat.lt_of_lt_of_le hz g.size, (g.cell _ _ hz).trans ?_, (g.cell _ _ hz).trans ?_, (g.cell _ _ hz).trans ?_, (g.cell _ _ hz).trans ?_, (g.cell _ _ hz).trans ?_, (g.cell _ _ hz).trans ?_, (g.cell _ _ hz).trans ?_, (g.cell _ _ hz).trans ?_, (g.cell _ _ hz).trans ?_, (g.frozen _ _ hz).trans ?_, (g.frozen _ _ hz).trans ?_, (g.frozen _ _ hz).trans ?_, (g.frozen _ _ hz).trans ?_, (g.frozen _ _ hz).trans ?_, (g.frozen _ _ hz).trans ?_, (g.frozen _ _ hz).trans ?_, (g.frozen _ _ hz).trans ?_, (g.frozen _ _ hz).trans ?_⟩
    all_goals go_simp
  obtain ⟨a1, c1, a2, c2, a3, c3, a4, c4, hv, -⟩ := hp
  unfold plnV at hv
  simp only [Value.agg.injEq, Array.mk.injEq, List.cons.injEq, and_true, true_and] at hv
  obtain ⟨rfl, rfl, rfl, rfl⟩ := hv
  unfold plnV at HT
  obtain ⟨zb, p0, p1, p2, p3, p4, p5, p6, p7, p8⟩ := hb
  have zz : b < w.heap.size + 1 := by omega
  have hh : w.heap.size ≤ w.heap.size := Nat.le_refl _
  clear hn hnl
  go_enter Tryz.func59, Tryz.ntmps59
  go_wp2_with (first | (go_at_call 90; (with_reducible refine HT.out.mono ?_); rintro e w2 ⟨v', rfl, hp2, g2⟩; obtain ⟨b1, d1, b2, d2, b3, d3, b4, d4, rfl, -⟩ := hp2; obtain ⟨z2, k0, k1, k2, k3, k4, k5, k6, k7, k8, f0, f1, f2, f3, f4, f5, f6, f7, f8⟩ := HC.out _ g2; unfold plnV) | fail)
  refine bodyPost_ret (v := plnV P (.slice b1 P.es.length d1) (.slice b2 P.js.length d2) (.slice b3 P.ss.length d3) (.slice b4 P.ls.length d4)) (by simp [results, Tryz.results59, go_sem, z2, f0, f1, f2, f3, f4, f5, f6, f7, f8, k0, k1, k2, k3, k4, k5, k6, k7, k8]; rfl) rfl ⟨_, _, _, _, rfl, ?_⟩
  exact ((((((((((g0.trans g2).setCell hh _).setCell hh _).setCell hh _).setCell hh _).setCell hh _).setCell hh _).setCell hh _).setCell hh _).setCell hh _)
theorem pln_field6 (P : Pln) (x1 x2 x3 x4 : Value) (w : World) : (Instr.field 27 (.agg #[x1, x2, x3, x4, .int .i64 P.top, .int .i64 P.brake, .int .i64 P.margin, .int .i64 P.throw, .bool P.hard]) 6).run Tryz.prog w = .ok (.int .i64 P.margin) w := by kernel_rfl
set_option maxRecDepth 100000 in
set_option maxHeartbeats 1000000 in
theorem stFits_any (bn : Nat) (P : Pln) (nm : ByteArray) (l t a b m : Int) (w : World) (hN : NetIs w bn P) (hn : P.es.length ≤ 1000 ∧ P.js.length ≤ 1000 ∧ P.ss.length ≤ 1000 ∧ P.ls.length ≤ 1000) (hnl : ∀ l ∈ P.ls, l.es.length ≤ 1000) (hl : 0 ≤ l ∧ l ≤ 4000) (hm : 0 ≤ P.margin ∧ P.margin ≤ 4000) :
    Calls Tryz.prog 22 #[.pointer (some ⟨bn, 0, none⟩), .agg #[.string nm, .int .i64 l, .int .i64 t, .int .i64 a, .int .i64 b], .int .i64 m] w fun e w' => e = .returned (.bool (fitsS (eleAt P m).k (eleAt P m).l l P.margin)) ∧ Gr w w' := by
  have HK := Lib.hid (fun (w' : World) (g : Gr w w') => netKind_any bn P m w' (hN.gr g))
  have HLN := Lib.hid (fun (w' : World) (g : Gr w w') => netLength_any bn P m w' (hN.gr g))
  have HPL := Lib.hid (fun (w' : World) (g : Gr w w') => netPlan_any bn P w' (hN.gr g) hn hnl)
  have g0 : Gr w (w.alloc (.cells #[.string nm, .int .i64 l, .int .i64 t, .int .i64 a, .int .i64 b] 30)) := (Gr.refl _).alloc _
  have HX : Hid (∀ w', Gr (w.alloc (.cells #[.string nm, .int .i64 l, .int .i64 t, .int .i64 a, .int .i64 b] 30)) w' → w.heap.size < w'.heap.size ∧ w'.cell? ⟨w.heap.size, 1, none⟩ = some (.int .i64 l)) := fun w' g => by
    have hz : w.heap.size < (w.alloc (.cells #[.string nm, .int .i64 l, .int .i64 t, .int .i64 a, .int .i64 b] 30)).heap.size := by simp
    exact ⟨Nat.lt_of_lt_of_le hz g.size, (g.cell _ _ hz).trans (by rw [World.cell?_alloc_mark]; rfl)⟩
  generalize (eleAt P m).k = K at HK ⊢
  generalize (eleAt P m).l = LN at HLN ⊢
  unfold fitsS
  clear hn hnl hN
  by_cases k4 : K = 4
  · have t4 : (K == 4) = true := beqT k4
    have HR : Hid ((decide (K = 4) || decide (K = 1) && decide (l + P.margin ≤ LN)) = true) := by show _ = _; simp [k4]
    generalize (decide (K = 4) || decide (K = 1) && decide (l + P.margin ≤ LN)) = R at HR ⊢
    clear k4
    go_enter Tryz.func22, Tryz.ntmps22
    go_wp2_with (first | (go_at_call 58; (with_reducible refine (HK.out _ g0).mono ?_); rintro e w2 ⟨rfl, g2⟩) | fail)
    go_ret
    exact ⟨ret_bool HR.out.symm, g0.trans g2⟩
  have t4 : (K == 4) = false := beqF k4
  by_cases k1 : K = 1
  · have t1 : (K == 1) = true := beqT k1
    have HR : Hid ((decide (K = 4) || decide (K = 1) && decide (l + P.margin ≤ LN)) = decide (l + P.margin ≤ LN)) := by show _ = _; simp [k1]
    generalize (decide (K = 4) || decide (K = 1) && decide (l + P.margin ≤ LN)) = R at HR ⊢
    clear k4 k1
    have tw : IntKind.i64.wrap (l + P.margin) = l + P.margin := IntWalk.i64_in _ (by omega)
    go_enter Tryz.func22, Tryz.ntmps22
    go_upto_region 5 with (first | (go_at_call 58; (with_reducible refine (HK.out _ g0).mono ?_); rintro e w2 ⟨rfl, g2⟩; have gw2 := g0.trans g2; obtain ⟨zb, s1⟩ := HX.out _ g2) | fail)
    have HF := pln_field6 P
    have HS : Hid (∀ w', Gr w2 w' → Gr w2 w' ∧ w'.cell? ⟨w.heap.size, 1, none⟩ = some (.int .i64 l)) := fun w' g => ⟨g, (g.cell _ _ zb).trans s1⟩
    have HG : Hid (∀ w' : World, (Gr w2 w' ∧ w'.cell? ⟨w.heap.size, 1, none⟩ = some (.int .i64 l)) → Gr w2 w') := fun w' h => h.1
    clear s1
    unfold RetPv plnV at HPL
    go_region_held3 (fun w' => Gr w2 w' ∧ w'.cell? ⟨w.heap.size, 1, none⟩ = some (.int .i64 l)) (first | exact HS.out _ (Gr.refl _) | exact HS.out _ (Gr.refl _).drew | exact HS.out _ ((HG.out _ (by assumption)).trans h5) | exact HS.out _ ((HG.out _ (by assumption)).trans h6)) (first | (go_at_call 50; (with_reducible refine (HLN.out _ (gw2.trans (HG.out _ (by assumption)))).mono ?_); rintro e w5 ⟨rfl, h5⟩) | (go_at_call 59; (with_reducible refine (HPL.out _ (gw2.trans (HG.out _ (by assumption)))).mono ?_); rintro e w6 ⟨x1, x2, x3, x4, rfl, h6⟩))
    all_goals go_wp2_with fail
    all_goals go_ret
    all_goals refine ⟨ret_bool HR.out.symm, gw2.trans ?_⟩
    all_goals first | exact (HG.out _ (by assumption)).trans h6 | exact (HG.out _ (by assumption)).trans h5 | exact ((Gr.refl _).drew.trans h5).trans h6 | exact ((Gr.refl _).drew.trans h6).trans h5
  · have t1 : (K == 1) = false := beqF k1
    have HR : Hid ((decide (K = 4) || decide (K = 1) && decide (l + P.margin ≤ LN)) = false) := by show _ = _; simp [k4, k1]
    generalize (decide (K = 4) || decide (K = 1) && decide (l + P.margin ≤ LN)) = R at HR ⊢
    clear k4 k1
    go_enter Tryz.func22, Tryz.ntmps22
    go_wp2_with (first | (go_at_call 58; (with_reducible refine (HK.out _ g0).mono ?_); rintro e w2 ⟨rfl, g2⟩) | fail)
    go_ret
    exact ⟨ret_bool HR.out.symm, g0.trans g2⟩
set_option maxRecDepth 100000 in
set_option maxHeartbeats 1000000 in
theorem refFits_any (pv : Value) (P : Pln) (nm : ByteArray) (l t a b m : Int) (w : World) (hP : IsPln w pv P) (hl : 0 ≤ l ∧ l ≤ 4000) (hm : 0 ≤ P.margin ∧ P.margin ≤ 4000) :
    Calls Tryz.prog 23 #[pv, .agg #[.string nm, .int .i64 l, .int .i64 t, .int .i64 a, .int .i64 b], .int .i64 m] w fun e w' => e = .returned (.bool (fitsS (eleAt P m).k (eleAt P m).l l P.margin)) ∧ Gr w w' := by
  have HK0 := Lib.hid (fun (w' : World) (g : Gr w w') => kindE2_any _ P m w' (hP.gr g))
  have HL0 := Lib.hid (fun (w' : World) (g : Gr w w') => length_any _ P m w' (hP.gr g))
  rw [eleAt_kind, eleAt_len2]
  obtain ⟨a1, c1, a2, c2, a3, c3, a4, c4, rfl, -⟩ := hP
  have g0 : Gr w ((w.alloc (.cells #[.slice a1 P.es.length c1, .slice a2 P.js.length c2, .slice a3 P.ss.length c3, .slice a4 P.ls.length c4, .int .i64 P.top, .int .i64 P.brake, .int .i64 P.margin, .int .i64 P.throw, .bool P.hard] 27)).alloc (.cells #[.string nm, .int .i64 l, .int .i64 t, .int .i64 a, .int .i64 b] 30)) := ((Gr.refl _).alloc _).alloc _
  have HX : Hid (∀ w', Gr ((w.alloc (.cells #[.slice a1 P.es.length c1, .slice a2 P.js.length c2, .slice a3 P.ss.length c3, .slice a4 P.ls.length c4, .int .i64 P.top, .int .i64 P.brake, .int .i64 P.margin, .int .i64 P.throw, .bool P.hard] 27)).alloc (.cells #[.string nm, .int .i64 l, .int .i64 t, .int .i64 a, .int .i64 b] 30)) w' → PBox w' w.heap.size P (.slice a1 P.es.length c1) (.slice a2 P.js.length c2) (.slice a3 P.ss.length c3) (.slice a4 P.ls.length c4) ∧ w.heap.size + 1 < w'.heap.size ∧ w'.cell? ⟨w.heap.size + 1, 1, none⟩ = some (.int .i64 l)) := fun w' g => by
    have hz : w.heap.size + 1 < (((w.alloc (.cells #[.slice a1 P.es.length c1, .slice a2 P.js.length c2, .slice a3 P.ss.length c3, .slice a4 P.ls.length c4, .int .i64 P.top, .int .i64 P.brake, .int .i64 P.margin, .int .i64 P.throw, .bool P.hard] 27)).alloc (.cells #[.string nm, .int .i64 l, .int .i64 t, .int .i64 a, .int .i64 b] 30))).heap.size := by simp
    exact ⟨(PBox.new w P _ _ _ _).gr (((Gr.refl _).alloc _).trans g), Nat.lt_of_lt_of_le hz g.size, (g.cell _ _ hz).trans (by go_simp)⟩
  unfold plnV at HK0 HL0 ⊢
  have HK : Hid (∀ w', Gr w w' → Calls Tryz.prog 41 #[(.agg #[.slice a1 P.es.length c1, .slice a2 P.js.length c2, .slice a3 P.ss.length c3, .slice a4 P.ls.length c4, .int .i64 P.top, .int .i64 P.brake, .int .i64 P.margin, .int .i64 P.throw, .bool P.hard]), .int .i64 m] w' fun e w'' => e = .returned (.int .i64 (kindP P m)) ∧ Gr w' w'') := HK0.out
  have HLN : Hid (∀ w', Gr w w' → Calls Tryz.prog 43 #[(.agg #[.slice a1 P.es.length c1, .slice a2 P.js.length c2, .slice a3 P.ss.length c3, .slice a4 P.ls.length c4, .int .i64 P.top, .int .i64 P.brake, .int .i64 P.margin, .int .i64 P.throw, .bool P.hard]), .int .i64 m] w' fun e w'' => e = .returned (.int .i64 (lenP P m)) ∧ Gr w' w'') := HL0.out
  clear HK0 HL0
  generalize kindP P m = K at HK ⊢
  generalize lenP P m = LN at HLN ⊢
  unfold fitsS
  by_cases k1 : K = 1
  · have t1 : (K == 1) = true := beqT k1
    have HR : Hid ((decide (K = 4) || decide (K = 1) && decide (l + P.margin ≤ LN)) = decide (l + P.margin ≤ LN)) := by show _ = _; simp [k1]
    generalize (decide (K = 4) || decide (K = 1) && decide (l + P.margin ≤ LN)) = R at HR ⊢
    clear k1
    have tw : IntKind.i64.wrap (l + P.margin) = l + P.margin := IntWalk.i64_in _ (by omega)
    go_enter Tryz.func23, Tryz.ntmps23
    go_upto_region 3 with (first | (go_at_call 41; (with_reducible refine (HK.out _ g0).mono ?_); rintro e w2 ⟨rfl, g2⟩; have gw2 := g0.trans g2; obtain ⟨⟨zb, p0, p1, p2, p3, p4, p5, p6, p7, p8⟩, zs, s1⟩ := HX.out _ g2) | fail)
    have hcb := fun (i : GrW w2) (o : Nat) => GrW.cell zb i o
    have hcs := fun (i : GrW w2) (o : Nat) => GrW.cell zs i o
    (refine wp_region_gr (by kernel_rfl) (by kernel_rfl) ?_; (repeat (go_big_quiet_step ((go_at_call 43; exact Calls.gr_of (HLN.out _ (gw2.trans (GrW.gr _))))))); refine wpQuiet_nil ?_; intro wz hz; obtain ⟨iz, hz⟩ := hz; obtain ⟨wn, gn⟩ := iz; dsimp only at hz; obtain rfl := hz.symm)
    go_wp2_with fail
    go_ret
    exact ⟨ret_bool HR.out.symm, gw2.trans gn⟩
  have t1 : (K == 1) = false := beqF k1
  by_cases k4 : K = 4
  · have t4 : (K == 4) = true := beqT k4
    have HR : Hid ((decide (K = 4) || decide (K = 1) && decide (l + P.margin ≤ LN)) = true) := by show _ = _; simp [k4]
    generalize (decide (K = 4) || decide (K = 1) && decide (l + P.margin ≤ LN)) = R at HR ⊢
    clear k4 k1
    go_enter Tryz.func23, Tryz.ntmps23
    go_wp2_with (first | (go_at_call 41; (with_reducible refine (HK.out _ g0).mono ?_); rintro e w2 ⟨rfl, g2⟩) | fail)
    go_ret
    exact ⟨ret_bool HR.out.symm, g0.trans g2⟩
  · have t4 : (K == 4) = false := beqF k4
    have HR : Hid ((decide (K = 4) || decide (K = 1) && decide (l + P.margin ≤ LN)) = false) := by show _ = _; simp [k4, k1]
    generalize (decide (K = 4) || decide (K = 1) && decide (l + P.margin ≤ LN)) = R at HR ⊢
    clear k4 k1
    go_enter Tryz.func23, Tryz.ntmps23
    go_wp2_with (first | (go_at_call 41; (with_reducible refine (HK.out _ g0).mono ?_); rintro e w2 ⟨rfl, g2⟩) | fail)
    go_ret
    exact ⟨ret_bool HR.out.symm, g0.trans g2⟩
end Go.Proofs.YtaanepadgoefhaaGreatDoor
