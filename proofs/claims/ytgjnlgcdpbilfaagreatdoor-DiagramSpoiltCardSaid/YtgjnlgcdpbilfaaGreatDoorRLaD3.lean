/- DiagramTexts, DiagramReads, DiagramSpoilt. -/
import Derived.Test.YtgjnlgcdpbilfaaGreatDoorRows
import Derived.Test.YtgjnlgcdpbilfaaGreatDoorRLaD1
import Derived.Test.YtgjnlgcdpbilfaaGreatDoorRDgL
import Derived.Test.YtgjnlgcdpbilfaaGreatDoorRDpP
import Derived.Test.YtgjnlgcdpbilfaaGreatDoorB15
import Derived.Deep.RegionWith
namespace Go.Proofs.YtgjnlgcdpbilfaaGreatDoor
open Go.ChangeShapes Go.WideShapes Go.ChangeAt Go.RowKit Go.Maps
set_option linter.unusedVariables false
set_option linter.unusedSimpArgs false
set_option maxRecDepth 100000 in
set_option maxHeartbeats 2000000 in
theorem diagramTexts_walk (pv : Value) (P : Pln) (dv : Value) (D : Dgm) (w : World) (ht : Tabs w) (hP : IsPln w pv P ∧ PlnOk P) (hD : IsDgm w dv D ∧ DgmOk D) :
    Calls Tryz.prog 4 #[pv, dv] w fun e w' => e = .returned (.bool true) ∧ Gr w w' := by
  obtain ⟨hP, hpk⟩ := hP
  obtain ⟨hD, hdk⟩ := hD
  have HPI := Lib.hid hP
  have HPK := Lib.hid hpk
  have HDI := Lib.hid hD
  have HOK : Hid (∀ s ∈ D.st, s.nm.size ≤ maxLen) := fun s hs => (hdk.2.1 s hs).1
  have HRK : Hid (∀ r ∈ D.runs, r.nm.size ≤ maxLen) := fun r hr => (hdk.2.2 r hr).1
  obtain ⟨a1, c1, a2, c2, a3, c3, a4, c4, rfl, -⟩ := hP
  obtain ⟨d1, k1, d2, k2, rfl, -⟩ := hD
  unfold plnV at *
  unfold dgmV at *
  clear hpk hdk
  have g0 : Gr w ((w.alloc (.cells #[.slice a1 P.es.length c1, .slice a2 P.js.length c2, .slice a3 P.ss.length c3, .slice a4 P.ls.length c4, .int .i64 P.top, .int .i64 P.brake, .int .i64 P.margin, .int .i64 P.throw, .bool P.hard] 27)).alloc (.cells #[.int .i64 D.beg, .slice d1 D.st.length k1, .slice d2 D.runs.length k2] 31)) := ((Gr.refl _).alloc _).alloc _
  have HBX := Lib.hid (box_pd P D a1 a2 a3 a4 d1 d2 c1 c2 c3 c4 k1 k2 w)
  have HKN := Lib.hid (known30_any _ (ht.gr g0))
  have HFI := Lib.hid (fun (w' : World) (g : Gr w w') => fine_any _ P w' (HPI.out.gr g) HPK.out)
  have HFW := Lib.hid (fun (w' : World) (g : Gr w w') => few30_any _ D w' (HDI.out.gr g) HOK.out HRK.out)
  have HCHK := Lib.hid (fun (h : fineB P = true) => fine_chk h)
  generalize fineB P = fb at HFI HCHK
  cases fb
  · go_enter Tryz.func4, Tryz.ntmps4
    go_wp2_with (first | (go_at_call 10; (with_reducible refine (HKN.out).mono ?_); rintro e w1 ⟨rfl, g1⟩; (obtain ⟨zp, p0, p1, p2, p3, p4, p5, p6, p7, p8, zs, s0, s1, s2⟩ := HBX.out _ g1)) | (go_at_call 11; (with_reducible refine (HFI.out _ (g0.trans g1)).mono ?_); rintro e w2 ⟨rfl, h2⟩; have g2 := g1.trans h2; (obtain ⟨zp, p0, p1, p2, p3, p4, p5, p6, p7, p8, zs, s0, s1, s2⟩ := HBX.out _ g2)) | fail)
    (go_ret; exact ⟨rfl, g0.trans (by assumption)⟩)
  generalize fewD D = fd at HFW
  cases fd
  · go_enter Tryz.func4, Tryz.ntmps4
    go_wp2_with (first | (go_at_call 10; (with_reducible refine (HKN.out).mono ?_); rintro e w1 ⟨rfl, g1⟩; (obtain ⟨zp, p0, p1, p2, p3, p4, p5, p6, p7, p8, zs, s0, s1, s2⟩ := HBX.out _ g1)) | (go_at_call 11; (with_reducible refine (HFI.out _ (g0.trans g1)).mono ?_); rintro e w2 ⟨rfl, h2⟩; have g2 := g1.trans h2; (obtain ⟨zp, p0, p1, p2, p3, p4, p5, p6, p7, p8, zs, s0, s1, s2⟩ := HBX.out _ g2)) | (go_at_call 12; (with_reducible refine (HFW.out _ (g0.trans g2)).mono ?_); rintro e w3 ⟨rfl, h3⟩; have g3 := g2.trans h3; (obtain ⟨zp, p0, p1, p2, p3, p4, p5, p6, p7, p8, zs, s0, s1, s2⟩ := HBX.out _ g3)) | fail)
    (go_ret; exact ⟨rfl, g0.trans (by assumption)⟩)
  have hk := HCHK.out rfl
  have HP1 := Lib.hid (fun (w' : World) (g : Gr w w') => dgPrint_any _ _ P D w' (ht.gr g) (HPI.out.gr g) hk (HDI.out.gr g) HOK.out HRK.out)
  have HP2 := Lib.hid (fun (w' : World) (g : Gr w w') => refPrintD_any _ _ P D w' (HPI.out.gr g) hk (HDI.out.gr g) HOK.out HRK.out)
  unfold dgmV at HP1 HP2
  by_cases hE : chkD P D = 0
  rotate_left
  · rw [if_neg hE] at HP1 HP2
    generalize chkD P D = q at HP1 HP2 hE
    have tE : (q != 0) = true := bneT hE
    have tq : (q != q) = false := by simp
    have tT : ((⟨#[]⟩ : ByteArray).toList != (⟨#[]⟩ : ByteArray).toList) = false := by simp
    clear hE
    go_enter Tryz.func4, Tryz.ntmps4
    go_wp2_with (first | (go_at_call 10; (with_reducible refine (HKN.out).mono ?_); rintro e w1 ⟨rfl, g1⟩; (obtain ⟨zp, p0, p1, p2, p3, p4, p5, p6, p7, p8, zs, s0, s1, s2⟩ := HBX.out _ g1)) | (go_at_call 11; (with_reducible refine (HFI.out _ (g0.trans g1)).mono ?_); rintro e w2 ⟨rfl, h2⟩; have g2 := g1.trans h2; (obtain ⟨zp, p0, p1, p2, p3, p4, p5, p6, p7, p8, zs, s0, s1, s2⟩ := HBX.out _ g2)) | (go_at_call 12; (with_reducible refine (HFW.out _ (g0.trans g2)).mono ?_); rintro e w3 ⟨rfl, h3⟩; have g3 := g2.trans h3; (obtain ⟨zp, p0, p1, p2, p3, p4, p5, p6, p7, p8, zs, s0, s1, s2⟩ := HBX.out _ g3)) | (go_at_call 18; (with_reducible refine (HP1.out _ (g0.trans g3)).mono ?_); rintro e w4 ⟨rfl, h4⟩; have g4 := g3.trans h4; (obtain ⟨zp, p0, p1, p2, p3, p4, p5, p6, p7, p8, zs, s0, s1, s2⟩ := HBX.out _ g4)) | (go_at_call 19; (with_reducible refine (HP2.out _ (g0.trans g4)).mono ?_); rintro e w5 ⟨rfl, h5⟩; have g5 := g4.trans h5; (obtain ⟨zp, p0, p1, p2, p3, p4, p5, p6, p7, p8, zs, s0, s1, s2⟩ := HBX.out _ g5)) | fail)
    (go_ret; exact ⟨rfl, g0.trans (by assumption)⟩)
  rw [if_pos hE] at HP1 HP2
  have hsz := printD_size hk hE
  have HPA0 := Lib.hid (fun (w' : World) (g : Gr w w') => dgParse_any _ P (printD P D) (by omega) w' (shp_gr ht.sh g) (HPI.out.gr g))
  rw [parD_print hk hE (by omega)] at HPA0
  have HPA : Hid (∀ w', Gr w w' → Calls Tryz.prog 20 #[.agg #[.slice a1 P.es.length c1, .slice a2 P.js.length c2, .slice a3 P.ss.length c3, .slice a4 P.ls.length c4, .int .i64 P.top, .int .i64 P.brake, .int .i64 P.margin, .int .i64 P.throw, .bool P.hard], .string (printD P D)] w' fun e w'' => ∃ v, e = .returned (.tuple #[v, .int .i64 ((rowsD P D).length : Int), .int .i64 0]) ∧ IsDgm w'' v D ∧ Gr w' w'') := HPA0.out
  rw [hE] at HP1 HP2
  generalize printD P D = T at HP1 HP2 HPA
  generalize ((rowsD P D).length : Int) = rl at HPA
  have tT : (T.toList != T.toList) = false := by simp
  clear HPA0 hsz hE
  go_enter Tryz.func4, Tryz.ntmps4
  go_wp2_with (first | (go_at_call 10; (with_reducible refine (HKN.out).mono ?_); rintro e w1 ⟨rfl, g1⟩; (obtain ⟨zp, p0, p1, p2, p3, p4, p5, p6, p7, p8, zs, s0, s1, s2⟩ := HBX.out _ g1)) | (go_at_call 11; (with_reducible refine (HFI.out _ (g0.trans g1)).mono ?_); rintro e w2 ⟨rfl, h2⟩; have g2 := g1.trans h2; (obtain ⟨zp, p0, p1, p2, p3, p4, p5, p6, p7, p8, zs, s0, s1, s2⟩ := HBX.out _ g2)) | (go_at_call 12; (with_reducible refine (HFW.out _ (g0.trans g2)).mono ?_); rintro e w3 ⟨rfl, h3⟩; have g3 := g2.trans h3; (obtain ⟨zp, p0, p1, p2, p3, p4, p5, p6, p7, p8, zs, s0, s1, s2⟩ := HBX.out _ g3)) | (go_at_call 18; (with_reducible refine (HP1.out _ (g0.trans g3)).mono ?_); rintro e w4 ⟨rfl, h4⟩; have g4 := g3.trans h4; (obtain ⟨zp, p0, p1, p2, p3, p4, p5, p6, p7, p8, zs, s0, s1, s2⟩ := HBX.out _ g4)) | (go_at_call 19; (with_reducible refine (HP2.out _ (g0.trans g4)).mono ?_); rintro e w5 ⟨rfl, h5⟩; have g5 := g4.trans h5; (obtain ⟨zp, p0, p1, p2, p3, p4, p5, p6, p7, p8, zs, s0, s1, s2⟩ := HBX.out _ g5)) | (go_at_call 20; (with_reducible refine (HPA.out _ (g0.trans g5)).mono ?_); rintro e w6 ⟨vQ, rfl, hQ, h6⟩; have g6 := g5.trans h6; (obtain ⟨zp, p0, p1, p2, p3, p4, p5, p6, p7, p8, zs, s0, s1, s2⟩ := HBX.out _ g6); have HQ := Lib.hid hQ; obtain ⟨qa1, qc1, qa2, qc2, rfl, -⟩ := hQ; unfold dgmV at HQ ⊢) | (go_at_call 21; (with_reducible refine (refSameD_any _ _ D _ (HQ.out.gr ((Gr.refl _).alloc _)) (HDI.out.gr ((g0.trans g6).alloc _))).mono ?_); rintro e w7 ⟨rfl, h7⟩) | fail)
  go_ret
  exact ⟨rfl, ((g0.trans g6).alloc _).trans h7⟩
theorem dgm_new {w w' : World} {t : Int} {sv rv : Value} {T : TypeId} (g : Gr (w.alloc (.cells #[.int .i64 t, sv, rv] T)) w') : w.heap.size < w'.heap.size ∧ w'.cell? ⟨w.heap.size, 0, none⟩ = some (.int .i64 t) ∧ w'.cell? ⟨w.heap.size, 1, none⟩ = some sv ∧ w'.cell? ⟨w.heap.size, 2, none⟩ = some rv := by
  have hz : w.heap.size < (w.alloc (.cells #[.int .i64 t, sv, rv] T)).heap.size := by simp
  exact ⟨Nat.lt_of_lt_of_le hz g.size, (g.cell _ _ hz).trans (by simp), (g.cell _ _ hz).trans (by simp), (g.cell _ _ hz).trans (by simp)⟩
set_option maxRecDepth 100000 in
set_option maxHeartbeats 2000000 in
theorem diagramReads_walk (pv : Value) (P : Pln) (s : ByteArray) (w : World) (ht : Tabs w) (hP : IsPln w pv P ∧ PlnOk P) (hs : s.size ≤ maxLen) :
    Calls Tryz.prog 5 #[pv, .string s] w fun e w' => e = .returned (.bool true) ∧ Gr w w' := by
  obtain ⟨hP, hpk⟩ := hP
  have HPI := Lib.hid hP
  have HPK := Lib.hid hpk
  obtain ⟨a1, c1, a2, c2, a3, c3, a4, c4, rfl, -⟩ := hP
  unfold plnV at *
  unfold maxLen at hs
  clear hpk
  have g0 : Gr w (w.alloc (.cells #[.slice a1 P.es.length c1, .slice a2 P.js.length c2, .slice a3 P.ss.length c3, .slice a4 P.ls.length c4, .int .i64 P.top, .int .i64 P.brake, .int .i64 P.margin, .int .i64 P.throw, .bool P.hard] 27)) := (Gr.refl _).alloc _
  have HBX := Lib.hid (fun (w' : World) (g : Gr (w.alloc (.cells #[.slice a1 P.es.length c1, .slice a2 P.js.length c2, .slice a3 P.ss.length c3, .slice a4 P.ls.length c4, .int .i64 P.top, .int .i64 P.brake, .int .i64 P.margin, .int .i64 P.throw, .bool P.hard] 27)) w') => (PBox.new w P (.slice a1 P.es.length c1) (.slice a2 P.js.length c2) (.slice a3 P.ss.length c3) (.slice a4 P.ls.length c4)).gr g)
  have HKN := Lib.hid (known30_any _ (ht.gr g0))
  have HFI := Lib.hid (fun (w' : World) (g : Gr w w') => fine_any _ P w' (HPI.out.gr g) HPK.out)
  generalize fineB P = fb at HFI
  cases fb
  · go_enter Tryz.func5, Tryz.ntmps5
    go_wp2_with (first | (go_at_call 10; (with_reducible refine (HKN.out).mono ?_); rintro e w1 ⟨rfl, g1⟩; (obtain ⟨zp, p0, p1, p2, p3, p4, p5, p6, p7, p8⟩ := HBX.out _ g1)) | (go_at_call 11; (with_reducible refine (HFI.out _ (g0.trans g1)).mono ?_); rintro e w2 ⟨rfl, h2⟩; have g2 := g1.trans h2; (obtain ⟨zp, p0, p1, p2, p3, p4, p5, p6, p7, p8⟩ := HBX.out _ g2)) | fail)
    (go_ret; exact ⟨rfl, g0.trans (by assumption)⟩)
  by_cases hl : 40000 < s.size
  · have hl1 : 40000 < (s.size : Int) := by omega
    go_enter Tryz.func5, Tryz.ntmps5
    go_wp2_with (first | (go_at_call 10; (with_reducible refine (HKN.out).mono ?_); rintro e w1 ⟨rfl, g1⟩; (obtain ⟨zp, p0, p1, p2, p3, p4, p5, p6, p7, p8⟩ := HBX.out _ g1)) | (go_at_call 11; (with_reducible refine (HFI.out _ (g0.trans g1)).mono ?_); rintro e w2 ⟨rfl, h2⟩; have g2 := g1.trans h2; (obtain ⟨zp, p0, p1, p2, p3, p4, p5, p6, p7, p8⟩ := HBX.out _ g2)) | fail)
    (go_ret; exact ⟨rfl, g0.trans (by assumption)⟩)
  have hl1 : ¬ 40000 < (s.size : Int) := by omega
  have HPA0 := Lib.hid (fun (w' : World) (g : Gr w w') => dgParse_any _ P s (by omega) w' (shp_gr ht.sh g) (HPI.out.gr g))
  have HPB0 := Lib.hid (fun (w' : World) (g : Gr w w') => refParseD_any _ P s (by omega) w' (HPI.out.gr g))
  generalize parD P s = r at HPA0 HPB0
  obtain ⟨D, n, e⟩ := r
  have HPA : Hid (∀ w', Gr w w' → Calls Tryz.prog 20 #[.agg #[.slice a1 P.es.length c1, .slice a2 P.js.length c2, .slice a3 P.ss.length c3, .slice a4 P.ls.length c4, .int .i64 P.top, .int .i64 P.brake, .int .i64 P.margin, .int .i64 P.throw, .bool P.hard], .string s] w' fun e' w'' => ∃ v, e' = .returned (.tuple #[v, .int .i64 n, .int .i64 e]) ∧ IsDgm w'' v D ∧ Gr w' w'') := HPA0.out
  have HPB : Hid (∀ w', Gr w w' → Calls Tryz.prog 22 #[.agg #[.slice a1 P.es.length c1, .slice a2 P.js.length c2, .slice a3 P.ss.length c3, .slice a4 P.ls.length c4, .int .i64 P.top, .int .i64 P.brake, .int .i64 P.margin, .int .i64 P.throw, .bool P.hard], .string s] w' fun e' w'' => ∃ v, e' = .returned (.tuple #[v, .int .i64 n, .int .i64 e]) ∧ IsDgm w'' v D ∧ Gr w' w'') := HPB0.out
  clear HPA0 HPB0
  go_enter Tryz.func5, Tryz.ntmps5
  go_upto_region 7 with (first | (go_at_call 10; (with_reducible refine (HKN.out).mono ?_); rintro e w1 ⟨rfl, g1⟩; (obtain ⟨zp, p0, p1, p2, p3, p4, p5, p6, p7, p8⟩ := HBX.out _ g1)) | (go_at_call 11; (with_reducible refine (HFI.out _ (g0.trans g1)).mono ?_); rintro e w2 ⟨rfl, h2⟩; have g2 := g1.trans h2; (obtain ⟨zp, p0, p1, p2, p3, p4, p5, p6, p7, p8⟩ := HBX.out _ g2)) | (go_at_call 20; (with_reducible refine (HPA.out _ (g0.trans g2)).mono ?_); rintro e w3 ⟨vQ, rfl, hQ, h3⟩; have g3 := (g2.trans h3); (obtain ⟨zp, p0, p1, p2, p3, p4, p5, p6, p7, p8⟩ := HBX.out _ g3); have HQ := Lib.hid hQ; obtain ⟨qa1, qc1, qa2, qc2, rfl, -⟩ := hQ; unfold dgmV at HQ ⊢) | (go_at_call 22; (with_reducible refine (HPB.out _ ((g0.trans g3).alloc _)).mono ?_); rintro e w4 ⟨vU, rfl, hU, h4⟩; have g4 := (g3.alloc _).trans h4; (obtain ⟨zp, p0, p1, p2, p3, p4, p5, p6, p7, p8⟩ := HBX.out _ g4); have HU := Lib.hid hU; obtain ⟨ua1, uc1, ua2, uc2, rfl, -⟩ := hU; unfold dgmV at HU ⊢; obtain ⟨zx, x0, x1, x2⟩ := dgm_new h4) | fail)
  go_wp2_with (first | (go_at_call 21; (with_reducible refine (refSameD_any _ _ D _ (HQ.out.gr ((((Gr.refl _).alloc _).trans h4).alloc _)) (HU.out.gr ((Gr.refl _).alloc _))).mono ?_); rintro e w5 ⟨rfl, h5⟩) | fail)
  go_ret
  exact ⟨rfl, ((g0.trans g4).alloc _).trans h5⟩
end Go.Proofs.YtgjnlgcdpbilfaaGreatDoor
