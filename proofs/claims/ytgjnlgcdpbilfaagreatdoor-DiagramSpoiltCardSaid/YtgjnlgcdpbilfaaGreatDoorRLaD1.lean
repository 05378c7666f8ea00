/- DiagramChecks, DiagramStock. -/
import Derived.Test.YtgjnlgcdpbilfaaGreatDoorRows
import Derived.Test.YtgjnlgcdpbilfaaGreatDoorB18
import Derived.Test.YtgjnlgcdpbilfaaGreatDoorB14
import Derived.Test.YtgjnlgcdpbilfaaGreatDoorB12
namespace Go.Proofs.YtgjnlgcdpbilfaaGreatDoor
open Go.ChangeShapes Go.WideShapes Go.ChangeAt Go.RowKit Go.Maps
set_option linter.unusedVariables false
set_option linter.unusedSimpArgs false
theorem box_pd (P : Pln) (D : Dgm) (a1 a2 a3 a4 d1 d2 : Option Addr) (c1 c2 c3 c4 k1 k2 : Nat) (w w' : World) (g : Gr ((w.alloc (.cells #[.slice a1 P.es.length c1, .slice a2 P.js.length c2, .slice a3 P.ss.length c3, .slice a4 P.ls.length c4, .int .i64 P.top, .int .i64 P.brake, .int .i64 P.margin, .int .i64 P.throw, .bool P.hard] 27)).alloc (.cells #[.int .i64 D.beg, .slice d1 D.st.length k1, .slice d2 D.runs.length k2] 31)) w') : w.heap.size < w'.heap.size ∧ w'.cell? ⟨w.heap.size, 0, none⟩ = some (.slice a1 P.es.length c1) ∧ w'.cell? ⟨w.heap.size, 1, none⟩ = some (.slice a2 P.js.length c2) ∧ w'.cell? ⟨w.heap.size, 2, none⟩ = some (.slice a3 P.ss.length c3) ∧ w'.cell? ⟨w.heap.size, 3, none⟩ = some (.slice a4 P.ls.length c4) ∧ w'.cell? ⟨w.heap.size, 4, none⟩ = some (.int .i64 P.top) ∧ w'.cell? ⟨w.heap.size, 5, none⟩ = some (.int .i64 P.brake) ∧ w'.cell? ⟨w.heap.size, 6, none⟩ = some (.int .i64 P.margin) ∧ w'.cell? ⟨w.heap.size, 7, none⟩ = some (.int .i64 P.throw) ∧ w'.cell? ⟨w.heap.size, 8, none⟩ = some (.bool P.hard) ∧ w.heap.size + 1 < w'.heap.size ∧ w'.cell? ⟨w.heap.size + 1, 0, none⟩ = some (.int .i64 D.beg) ∧ w'.cell? ⟨w.heap.size + 1, 1, none⟩ = some (.slice d1 D.st.length k1) ∧ w'.cell? ⟨w.heap.size + 1, 2, none⟩ = some (.slice d2 D.runs.length k2) := by
  have z1 : w.heap.size + 1 < (((w.alloc (.cells #[.slice a1 P.es.length c1, .slice a2 P.js.length c2, .slice a3 P.ss.length c3, .slice a4 P.ls.length c4, .int .i64 P.top, .int .i64 P.brake, .int .i64 P.margin, .int .i64 P.throw, .bool P.hard] 27)).alloc (.cells #[.int .i64 D.beg, .slice d1 D.st.length k1, .slice d2 D.runs.length k2] 31))).heap.size := by simp
  have z0 : w.heap.size < (((w.alloc (.cells #[.slice a1 P.es.length c1, .slice a2 P.js.length c2, .slice a3 P.ss.length c3, .slice a4 P.ls.length c4, .int .i64 P.top, .int .i64 P.brake, .int .i64 P.margin, .int .i64 P.throw, .bool P.hard] 27)).alloc (.cells #[.int .i64 D.beg, .slice d1 D.st.length k1, .slice d2 D.runs.length k2] 31))).heap.size := by omega
  refine ⟨Nat.lt_of_lt_of_le z0 g.size, (g.cell _ _ z0).trans ?_, (g.cell _ _ z0).trans ?_, (g.cell _ _ z0).trans ?_, (g.cell _ _ z0).trans ?_, (g.cell _ _ z0).trans ?_, (g.cell _ _ z0).trans ?_, (g.cell _ _ z0).trans ?_, (g.cell _ _ z0).trans ?_, (g.cell _ _ z0).trans ?_, Nat.lt_of_lt_of_le z1 g.size, (g.cell _ _ z1).trans ?_, (g.cell _ _ z1).trans ?_, (g.cell _ _ z1).trans ?_⟩
  all_goals go_simp
set_option maxRecDepth 100000 in
set_option maxHeartbeats 2000000 in
theorem diagramChecks_walk (pv : Value) (P : Pln) (dv : Value) (D : Dgm) (w : World) (ht : Tabs w) (hP : IsPln w pv P ∧ PlnOk P) (hD : IsDgm w dv D ∧ DgmOk D) :
    Calls Tryz.prog 3 #[pv, dv] w fun e w' => e = .returned (.bool true) ∧ Gr w w' := by
  obtain ⟨hP, hpk⟩ := hP
  obtain ⟨hD, hdk⟩ := hD
  have HPI := Lib.hid hP
  have HPK := Lib.hid hpk
  have HDI := Lib.hid hD
  have HOK : Hid (∀ s ∈ D.st, s.nm.size ≤ maxLen) := fun s hs => (hdk.2.1 s hs).1
  have HRK : Hid (∀ r ∈ D.runs, r.nm.size ≤ maxLen) := fun r hr => (hdk.2.2 r hr).1
  obtain ⟨a1, c1, a2, c2, a3, c3, a4, c4, rfl, -⟩ := hP
  obtain ⟨d1, k1, d2, k2, rfl, -⟩ := hD
  unfold plnV at *
  unfold dgmV at *
  clear hpk hdk
  have g0 : Gr w ((w.alloc (.cells #[.slice a1 P.es.length c1, .slice a2 P.js.length c2, .slice a3 P.ss.length c3, .slice a4 P.ls.length c4, .int .i64 P.top, .int .i64 P.brake, .int .i64 P.margin, .int .i64 P.throw, .bool P.hard] 27)).alloc (.cells #[.int .i64 D.beg, .slice d1 D.st.length k1, .slice d2 D.runs.length k2] 31)) := ((Gr.refl _).alloc _).alloc _
  have HBX := Lib.hid (box_pd P D a1 a2 a3 a4 d1 d2 c1 c2 c3 c4 k1 k2 w)
  have HKN := Lib.hid (known30_any _ (ht.gr g0))
  have HFI := Lib.hid (fun (w' : World) (g : Gr w w') => fine_any _ P w' (HPI.out.gr g) HPK.out)
  have HFW := Lib.hid (fun (w' : World) (g : Gr w w') => few30_any _ D w' (HDI.out.gr g) HOK.out HRK.out)
  generalize fineB P = fb at HFI
  cases fb
  · go_enter Tryz.func3, Tryz.ntmps3
    go_wp2_with (first | (go_at_call 10; (with_reducible refine (HKN.out).mono ?_); rintro e w1 ⟨rfl, g1⟩; (obtain ⟨zp, p0, p1, p2, p3, p4, p5, p6, p7, p8, zs, s0, s1, s2⟩ := HBX.out _ g1)) | (go_at_call 11; (with_reducible refine (HFI.out _ (g0.trans g1)).mono ?_); rintro e w2 ⟨rfl, h2⟩; have g2 := g1.trans h2; (obtain ⟨zp, p0, p1, p2, p3, p4, p5, p6, p7, p8, zs, s0, s1, s2⟩ := HBX.out _ g2)) | fail)
    (go_ret; exact ⟨rfl, g0.trans (by assumption)⟩)
  generalize fewD D = fd at HFW
  cases fd
  · go_enter Tryz.func3, Tryz.ntmps3
    go_wp2_with (first | (go_at_call 10; (with_reducible refine (HKN.out).mono ?_); rintro e w1 ⟨rfl, g1⟩; (obtain ⟨zp, p0, p1, p2, p3, p4, p5, p6, p7, p8, zs, s0, s1, s2⟩ := HBX.out _ g1)) | (go_at_call 11; (with_reducible refine (HFI.out _ (g0.trans g1)).mono ?_); rintro e w2 ⟨rfl, h2⟩; have g2 := g1.trans h2; (obtain ⟨zp, p0, p1, p2, p3, p4, p5, p6, p7, p8, zs, s0, s1, s2⟩ := HBX.out _ g2)) | (go_at_call 12; (with_reducible refine (HFW.out _ (g0.trans g2)).mono ?_); rintro e w3 ⟨rfl, h3⟩; have g3 := g2.trans h3; (obtain ⟨zp, p0, p1, p2, p3, p4, p5, p6, p7, p8, zs, s0, s1, s2⟩ := HBX.out _ g3)) | fail)
    (go_ret; exact ⟨rfl, g0.trans (by assumption)⟩)
  have H1 := Lib.hid (fun (w' : World) (g : Gr w w') => dgCheck_any _ _ P D w' (HPI.out.gr g) (HDI.out.gr g) HOK.out HRK.out)
  have H2 := Lib.hid (fun (w' : World) (g : Gr w w') => refCheckD_any _ _ P D w' (HPI.out.gr g) (HDI.out.gr g) HOK.out HRK.out)
  have H3 := Lib.hid (fun (w' : World) (g : Gr w w') => dgLast_any _ D w' (HDI.out.gr g))
  have H4 := Lib.hid (fun (w' : World) (g : Gr w w') => refLast_any _ D w' (HDI.out.gr g))
  have H5 := Lib.hid (fun (w' : World) (g : Gr w w') => dgSame_yes _ _ D w' (HDI.out.gr g) (HDI.out.gr g))
  unfold dgmV at H1 H2 H3 H4 H5
  generalize chkD P D = q1 at H1 H2
  generalize lastD D = q2 at H3 H4
  have t1 : (q1 == q1) = true := by simp
  have t2 : (q2 == q2) = true := by simp
  go_enter Tryz.func3, Tryz.ntmps3
  go_wp2_with (first | (go_at_call 10; (with_reducible refine (HKN.out).mono ?_); rintro e w1 ⟨rfl, g1⟩; (obtain ⟨zp, p0, p1, p2, p3, p4, p5, p6, p7, p8, zs, s0, s1, s2⟩ := HBX.out _ g1)) | (go_at_call 11; (with_reducible refine (HFI.out _ (g0.trans g1)).mono ?_); rintro e w2 ⟨rfl, h2⟩; have g2 := g1.trans h2; (obtain ⟨zp, p0, p1, p2, p3, p4, p5, p6, p7, p8, zs, s0, s1, s2⟩ := HBX.out _ g2)) | (go_at_call 12; (with_reducible refine (HFW.out _ (g0.trans g2)).mono ?_); rintro e w3 ⟨rfl, h3⟩; have g3 := g2.trans h3; (obtain ⟨zp, p0, p1, p2, p3, p4, p5, p6, p7, p8, zs, s0, s1, s2⟩ := HBX.out _ g3)) | fail)
  have hcb := fun (i : GrW w3) (o : Nat) => GrW.cell zp i o
  have hcs := fun (i : GrW w3) (o : Nat) => GrW.cell zs i o
  have gw3 := g0.trans g3
  (refine wp_region_gr (by kernel_rfl) (by kernel_rfl) ?_; (repeat (go_big_quiet_step ((first | (go_at_call 13; exact Calls.gr_of (H1.out _ (gw3.trans (GrW.gr _)))) | (go_at_call 14; exact Calls.gr_of (H2.out _ (gw3.trans (GrW.gr _)))) | (go_at_call 15; exact Calls.gr_of (H3.out _ (gw3.trans (GrW.gr _)))) | (go_at_call 16; exact Calls.gr_of (H4.out _ (gw3.trans (GrW.gr _)))) | (go_at_call 17; exact Calls.gr_of (H5.out _ (gw3.trans (GrW.gr _)))))))); refine wpQuiet_nil ?_; intro wz hz; obtain ⟨iz, hz⟩ := hz; obtain ⟨wn, gn⟩ := iz; dsimp only at hz; obtain rfl := hz.symm)
  go_wp2_with fail
  go_ret
  exact ⟨rfl, gw3.trans gn⟩
set_option maxRecDepth 100000 in
set_option maxHeartbeats 2000000 in
theorem diagramStock_walk (pv : Value) (P : Pln) (dv : Value) (D : Dgm) (w : World) (ht : Tabs w) (hP : IsPln w pv P ∧ PlnOk P) (hD : IsDgm w dv D ∧ DgmOk D) :
    Calls Tryz.prog 9 #[pv, dv] w fun e w' => e = .returned (.bool true) ∧ Gr w w' := by
  obtain ⟨hP, hpk⟩ := hP
  obtain ⟨hD, hdk⟩ := hD
  have HPI := Lib.hid hP
  have HPK := Lib.hid hpk
  have HDI := Lib.hid hD
  have HOK : Hid (∀ s ∈ D.st, s.nm.size ≤ maxLen) := fun s hs => (hdk.2.1 s hs).1
  have HRK : Hid (∀ r ∈ D.runs, r.nm.size ≤ maxLen) := fun r hr => (hdk.2.2 r hr).1
  obtain ⟨a1, c1, a2, c2, a3, c3, a4, c4, rfl, -⟩ := hP
  obtain ⟨d1, k1, d2, k2, rfl, hst, -⟩ := hD
  have HST := Lib.hid hst
  unfold plnV at *
  unfold dgmV at *
  clear hpk hdk hst
  have g0 : Gr w ((w.alloc (.cells #[.slice a1 P.es.length c1, .slice a2 P.js.length c2, .slice a3 P.ss.length c3, .slice a4 P.ls.length c4, .int .i64 P.top, .int .i64 P.brake, .int .i64 P.margin, .int .i64 P.throw, .bool P.hard] 27)).alloc (.cells #[.int .i64 D.beg, .slice d1 D.st.length k1, .slice d2 D.runs.length k2] 31)) := ((Gr.refl _).alloc _).alloc _
  have HBX := Lib.hid (box_pd P D a1 a2 a3 a4 d1 d2 c1 c2 c3 c4 k1 k2 w)
  have HKN := Lib.hid (known30_any _ (ht.gr g0))
  have HFI := Lib.hid (fun (w' : World) (g : Gr w w') => fine_any _ P w' (HPI.out.gr g) HPK.out)
  have HFW := Lib.hid (fun (w' : World) (g : Gr w w') => few30_any _ D w' (HDI.out.gr g) HOK.out HRK.out)
  generalize fineB P = fb at HFI
  cases fb
  · go_enter Tryz.func9, Tryz.ntmps9
    go_wp2_with (first | (go_at_call 10; (with_reducible refine (HKN.out).mono ?_); rintro e w1 ⟨rfl, g1⟩; (obtain ⟨zp, p0, p1, p2, p3, p4, p5, p6, p7, p8, zs, s0, s1, s2⟩ := HBX.out _ g1)) | (go_at_call 11; (with_reducible refine (HFI.out _ (g0.trans g1)).mono ?_); rintro e w2 ⟨rfl, h2⟩; have g2 := g1.trans h2; (obtain ⟨zp, p0, p1, p2, p3, p4, p5, p6, p7, p8, zs, s0, s1, s2⟩ := HBX.out _ g2)) | fail)
    (go_ret; exact ⟨rfl, g0.trans (by assumption)⟩)
  generalize fewD D = fd at HFW
  cases fd
  · go_enter Tryz.func9, Tryz.ntmps9
    go_wp2_with (first | (go_at_call 10; (with_reducible refine (HKN.out).mono ?_); rintro e w1 ⟨rfl, g1⟩; (obtain ⟨zp, p0, p1, p2, p3, p4, p5, p6, p7, p8, zs, s0, s1, s2⟩ := HBX.out _ g1)) | (go_at_call 11; (with_reducible refine (HFI.out _ (g0.trans g1)).mono ?_); rintro e w2 ⟨rfl, h2⟩; have g2 := g1.trans h2; (obtain ⟨zp, p0, p1, p2, p3, p4, p5, p6, p7, p8, zs, s0, s1, s2⟩ := HBX.out _ g2)) | (go_at_call 12; (with_reducible refine (HFW.out _ (g0.trans g2)).mono ?_); rintro e w3 ⟨rfl, h3⟩; have g3 := g2.trans h3; (obtain ⟨zp, p0, p1, p2, p3, p4, p5, p6, p7, p8, zs, s0, s1, s2⟩ := HBX.out _ g3)) | fail)
    (go_ret; exact ⟨rfl, g0.trans (by assumption)⟩)
  have H1 := Lib.hid (fun (w' : World) (g : Gr w w') => refCheckS_any _ _ P D.st w' (HPI.out.gr g) (HST.out.gr g) HOK.out)
  have H2 : Hid (∀ w', Gr w w' → Calls Tryz.prog 13 #[.agg #[.slice a1 P.es.length c1, .slice a2 P.js.length c2, .slice a3 P.ss.length c3, .slice a4 P.ls.length c4, .int .i64 P.top, .int .i64 P.brake, .int .i64 P.margin, .int .i64 P.throw, .bool P.hard], .agg #[.int .i64 D.beg, .slice d1 D.st.length k1, .slice none 0 0]] w' fun e w'' => e = .returned (.int .i64 (if checkS P.top P.brake D.st ≠ 0 then checkS P.top P.brake D.st else if winB D.beg 0 86399 = false then 1 else 0)) ∧ Gr w' w'') := fun w' g => by
    have := dgCheck_any _ _ P (noR D) w' (HPI.out.gr g) (IsDgm.of (D := noR D) (HST.out.gr g) (IsRuns.nil w')) HOK.out (fun r hr => by cases hr)
    rw [noR_chk] at this
    exact this
  have hzz : w.heap.size ≤ w.heap.size + 1 := by omega
  have HFZ : Hid (∀ w', Gr ((w.alloc (.cells #[.slice a1 P.es.length c1, .slice a2 P.js.length c2, .slice a3 P.ss.length c3, .slice a4 P.ls.length c4, .int .i64 P.top, .int .i64 P.brake, .int .i64 P.margin, .int .i64 P.throw, .bool P.hard] 27)).alloc (.cells #[.int .i64 D.beg, .slice d1 D.st.length k1, .slice d2 D.runs.length k2] 31)) w' → w'.frozen? ⟨w.heap.size + 1, 2, none⟩ = false) := fun w' g => by
    have z1 : w.heap.size + 1 < (((w.alloc (.cells #[.slice a1 P.es.length c1, .slice a2 P.js.length c2, .slice a3 P.ss.length c3, .slice a4 P.ls.length c4, .int .i64 P.top, .int .i64 P.brake, .int .i64 P.margin, .int .i64 P.throw, .bool P.hard] 27)).alloc (.cells #[.int .i64 D.beg, .slice d1 D.st.length k1, .slice d2 D.runs.length k2] 31))).heap.size := by simp
    exact (g.frozen _ _ z1).trans (by go_simp)
  generalize checkS P.top P.brake D.st = q at H1 H2
  by_cases hq : q = 0
  rotate_left
  · rw [if_pos hq] at H2
    have tq : (q != 0) = true := bneT hq
    have tq2 : (q == q) = true := by simp
    clear hq
    go_enter Tryz.func9, Tryz.ntmps9
    go_wp2_with (first | (go_at_call 10; (with_reducible refine (HKN.out).mono ?_); rintro e w1 ⟨rfl, g1⟩; (obtain ⟨zp, p0, p1, p2, p3, p4, p5, p6, p7, p8, zs, s0, s1, s2⟩ := HBX.out _ g1)) | (go_at_call 11; (with_reducible refine (HFI.out _ (g0.trans g1)).mono ?_); rintro e w2 ⟨rfl, h2⟩; have g2 := g1.trans h2; (obtain ⟨zp, p0, p1, p2, p3, p4, p5, p6, p7, p8, zs, s0, s1, s2⟩ := HBX.out _ g2)) | (go_at_call 12; (with_reducible refine (HFW.out _ (g0.trans g2)).mono ?_); rintro e w3 ⟨rfl, h3⟩; have g3 := g2.trans h3; (obtain ⟨zp, p0, p1, p2, p3, p4, p5, p6, p7, p8, zs, s0, s1, s2⟩ := HBX.out _ g3)) | (go_at_call 24; (with_reducible refine (H1.out _ (g0.trans g3)).mono ?_); rintro e w4 ⟨rfl, h4⟩; have g4 := g3.trans h4; (obtain ⟨zp, p0, p1, p2, p3, p4, p5, p6, p7, p8, zs, s0, s1, s2⟩ := HBX.out _ g4); have hfz := HFZ.out _ g4) | (go_at_call 13; (with_reducible refine (H2.out _ ((g0.trans g4).setCell hzz _)).mono ?_); rintro e w5 ⟨rfl, h5⟩; have G5 := ((g0.trans g4).setCell hzz _).trans h5; have zs5 : w.heap.size + 1 < w5.heap.size := Nat.lt_of_lt_of_le (by simpa using zs) h5.size; have b5 : w5.cell? ⟨w.heap.size + 1, 0, none⟩ = some (.int .i64 D.beg) := (h5.cell _ _ (by simpa using zs)).trans (by go_simp)) | fail)
    go_ret
    exact ⟨rfl, G5⟩
  subst hq
  rw [if_neg (by simp)] at H2
  by_cases hb1 : 0 ≤ D.beg
  rotate_left
  · rw [winB_no (by omega), if_pos rfl] at H2
    go_enter Tryz.func9, Tryz.ntmps9
    go_wp2_with (first | (go_at_call 10; (with_reducible refine (HKN.out).mono ?_); rintro e w1 ⟨rfl, g1⟩; (obtain ⟨zp, p0, p1, p2, p3, p4, p5, p6, p7, p8, zs, s0, s1, s2⟩ := HBX.out _ g1)) | (go_at_call 11; (with_reducible refine (HFI.out _ (g0.trans g1)).mono ?_); rintro e w2 ⟨rfl, h2⟩; have g2 := g1.trans h2; (obtain ⟨zp, p0, p1, p2, p3, p4, p5, p6, p7, p8, zs, s0, s1, s2⟩ := HBX.out _ g2)) | (go_at_call 12; (with_reducible refine (HFW.out _ (g0.trans g2)).mono ?_); rintro e w3 ⟨rfl, h3⟩; have g3 := g2.trans h3; (obtain ⟨zp, p0, p1, p2, p3, p4, p5, p6, p7, p8, zs, s0, s1, s2⟩ := HBX.out _ g3)) | (go_at_call 24; (with_reducible refine (H1.out _ (g0.trans g3)).mono ?_); rintro e w4 ⟨rfl, h4⟩; have g4 := g3.trans h4; (obtain ⟨zp, p0, p1, p2, p3, p4, p5, p6, p7, p8, zs, s0, s1, s2⟩ := HBX.out _ g4); have hfz := HFZ.out _ g4) | (go_at_call 13; (with_reducible refine (H2.out _ ((g0.trans g4).setCell hzz _)).mono ?_); rintro e w5 ⟨rfl, h5⟩; have G5 := ((g0.trans g4).setCell hzz _).trans h5; have zs5 : w.heap.size + 1 < w5.heap.size := Nat.lt_of_lt_of_le (by simpa using zs) h5.size; have b5 : w5.cell? ⟨w.heap.size + 1, 0, none⟩ = some (.int .i64 D.beg) := (h5.cell _ _ (by simpa using zs)).trans (by go_simp)) | fail)
    go_ret
    exact ⟨rfl, G5⟩
  by_cases hb2 : D.beg < 86400
  · rw [(winB_iff _ _ _).2 (by omega), if_neg (by simp)] at H2
    go_enter Tryz.func9, Tryz.ntmps9
    go_wp2_with (first | (go_at_call 10; (with_reducible refine (HKN.out).mono ?_); rintro e w1 ⟨rfl, g1⟩; (obtain ⟨zp, p0, p1, p2, p3, p4, p5, p6, p7, p8, zs, s0, s1, s2⟩ := HBX.out _ g1)) | (go_at_call 11; (with_reducible refine (HFI.out _ (g0.trans g1)).mono ?_); rintro e w2 ⟨rfl, h2⟩; have g2 := g1.trans h2; (obtain ⟨zp, p0, p1, p2, p3, p4, p5, p6, p7, p8, zs, s0, s1, s2⟩ := HBX.out _ g2)) | (go_at_call 12; (with_reducible refine (HFW.out _ (g0.trans g2)).mono ?_); rintro e w3 ⟨rfl, h3⟩; have g3 := g2.trans h3; (obtain ⟨zp, p0, p1, p2, p3, p4, p5, p6, p7, p8, zs, s0, s1, s2⟩ := HBX.out _ g3)) | (go_at_call 24; (with_reducible refine (H1.out _ (g0.trans g3)).mono ?_); rintro e w4 ⟨rfl, h4⟩; have g4 := g3.trans h4; (obtain ⟨zp, p0, p1, p2, p3, p4, p5, p6, p7, p8, zs, s0, s1, s2⟩ := HBX.out _ g4); have hfz := HFZ.out _ g4) | (go_at_call 13; (with_reducible refine (H2.out _ ((g0.trans g4).setCell hzz _)).mono ?_); rintro e w5 ⟨rfl, h5⟩; have G5 := ((g0.trans g4).setCell hzz _).trans h5; have zs5 : w.heap.size + 1 < w5.heap.size := Nat.lt_of_lt_of_le (by simpa using zs) h5.size; have b5 : w5.cell? ⟨w.heap.size + 1, 0, none⟩ = some (.int .i64 D.beg) := (h5.cell _ _ (by simpa using zs)).trans (by go_simp)) | fail)
    go_ret
    exact ⟨rfl, G5⟩
  · rw [winB_no (by omega), if_pos rfl] at H2
    go_enter Tryz.func9, Tryz.ntmps9
    go_wp2_with (first | (go_at_call 10; (with_reducible refine (HKN.out).mono ?_); rintro e w1 ⟨rfl, g1⟩; (obtain ⟨zp, p0, p1, p2, p3, p4, p5, p6, p7, p8, zs, s0, s1, s2⟩ := HBX.out _ g1)) | (go_at_call 11; (with_reducible refine (HFI.out _ (g0.trans g1)).mono ?_); rintro e w2 ⟨rfl, h2⟩; have g2 := g1.trans h2; (obtain ⟨zp, p0, p1, p2, p3, p4, p5, p6, p7, p8, zs, s0, s1, s2⟩ := HBX.out _ g2)) | (go_at_call 12; (with_reducible refine (HFW.out _ (g0.trans g2)).mono ?_); rintro e w3 ⟨rfl, h3⟩; have g3 := g2.trans h3; (obtain ⟨zp, p0, p1, p2, p3, p4, p5, p6, p7, p8, zs, s0, s1, s2⟩ := HBX.out _ g3)) | (go_at_call 24; (with_reducible refine (H1.out _ (g0.trans g3)).mono ?_); rintro e w4 ⟨rfl, h4⟩; have g4 := g3.trans h4; (obtain ⟨zp, p0, p1, p2, p3, p4, p5, p6, p7, p8, zs, s0, s1, s2⟩ := HBX.out _ g4); have hfz := HFZ.out _ g4) | (go_at_call 13; (with_reducible refine (H2.out _ ((g0.trans g4).setCell hzz _)).mono ?_); rintro e w5 ⟨rfl, h5⟩; have G5 := ((g0.trans g4).setCell hzz _).trans h5; have zs5 : w.heap.size + 1 < w5.heap.size := Nat.lt_of_lt_of_le (by simpa using zs) h5.size; have b5 : w5.cell? ⟨w.heap.size + 1, 0, none⟩ = some (.int .i64 D.beg) := (h5.cell _ _ (by simpa using zs)).trans (by go_simp)) | fail)
    go_ret
    exact ⟨ret_bool (by simp [hb2]), G5⟩
end Go.Proofs.YtgjnlgcdpbilfaaGreatDoor
