/- DiagramSpoilt. -/
import Derived.Test.YtgjnlgcdpbilfaaGreatDoorRows
import Derived.Test.YtgjnlgcdpbilfaaGreatDoorRLaD3
namespace Go.Proofs.YtgjnlgcdpbilfaaGreatDoor
open Go.ChangeShapes Go.WideShapes Go.ChangeAt Go.RowKit Go.Maps
set_option linter.unusedVariables false
set_option linter.unusedSimpArgs false
set_option maxRecDepth 100000 in
set_option maxHeartbeats 2000000 in
theorem diagramSpoilt_walk (pv : Value) (P : Pln) (dv : Value) (D : Dgm) (at_ c : Int) (w : World) (ht : Tabs w) (hP : IsPln w pv P ∧ PlnOk P) (hD : IsDgm w dv D ∧ DgmOk D) (wa : (Lit.int .i64 at_).wf = true) (wc : (Lit.int .u8 c).wf = true) :
    Calls Tryz.prog 6 #[pv, dv, .int .i64 at_, .int .u8 c] w fun e w' => e = .returned (.bool true) ∧ Gr w w' := by
  have hcb : 0 ≤ c ∧ c ≤ 255 := by simpa [Lit.wf, IntKind.min, IntKind.max, IntKind.signed, IntKind.bits] using wc
  obtain ⟨hP, hpk⟩ := hP
  obtain ⟨hD, hdk⟩ := hD
  have HPI := Lib.hid hP
  have HPK := Lib.hid hpk
  have HDI := Lib.hid hD
  have HOK : Hid (∀ s ∈ D.st, s.nm.size ≤ maxLen) := fun s hs => (hdk.2.1 s hs).1
  have HRK : Hid (∀ r ∈ D.runs, r.nm.size ≤ maxLen) := fun r hr => (hdk.2.2 r hr).1
  obtain ⟨a1, c1, a2, c2, a3, c3, a4, c4, rfl, -⟩ := hP
  obtain ⟨d1, k1, d2, k2, rfl, -⟩ := hD
  unfold plnV at *
  unfold dgmV at *
  clear hpk hdk
  have g0 : Gr w ((w.alloc (.cells #[.slice a1 P.es.length c1, .slice a2 P.js.length c2, .slice a3 P.ss.length c3, .slice a4 P.ls.length c4, .int .i64 P.top, .int .i64 P.brake, .int .i64 P.margin, .int .i64 P.throw, .bool P.hard] 27)).alloc (.cells #[.int .i64 D.beg, .slice d1 D.st.length k1, .slice d2 D.runs.length k2] 31)) := ((Gr.refl _).alloc _).alloc _
  have HBX := Lib.hid (box_pd P D a1 a2 a3 a4 d1 d2 c1 c2 c3 c4 k1 k2 w)
  have HKN := Lib.hid (known30_any _ (ht.gr g0))
  have HFI := Lib.hid (fun (w' : World) (g : Gr w w') => fine_any _ P w' (HPI.out.gr g) HPK.out)
  have HFW := Lib.hid (fun (w' : World) (g : Gr w w') => few30_any _ D w' (HDI.out.gr g) HOK.out HRK.out)
  have HCHK := Lib.hid (fun (h : fineB P = true) => fine_chk h)
  generalize fineB P = fb at HFI HCHK
  cases fb
  · go_enter Tryz.func6, Tryz.ntmps6
    go_wp2_with (first | (go_at_call 10; (with_reducible refine (HKN.out).mono ?_); rintro e w1 ⟨rfl, g1⟩; (obtain ⟨zp, p0, p1, p2, p3, p4, p5, p6, p7, p8, zs, s0, s1, s2⟩ := HBX.out _ g1)) | (go_at_call 11; (with_reducible refine (HFI.out _ (g0.trans g1)).mono ?_); rintro e w2 ⟨rfl, h2⟩; have g2 := g1.trans h2; (obtain ⟨zp, p0, p1, p2, p3, p4, p5, p6, p7, p8, zs, s0, s1, s2⟩ := HBX.out _ g2)) | fail)
    (go_ret; exact ⟨rfl, g0.trans (by assumption)⟩)
  generalize fewD D = fd at HFW
  cases fd
  · go_enter Tryz.func6, Tryz.ntmps6
    go_wp2_with (first | (go_at_call 10; (with_reducible refine (HKN.out).mono ?_); rintro e w1 ⟨rfl, g1⟩; (obtain ⟨zp, p0, p1, p2, p3, p4, p5, p6, p7, p8, zs, s0, s1, s2⟩ := HBX.out _ g1)) | (go_at_call 11; (with_reducible refine (HFI.out _ (g0.trans g1)).mono ?_); rintro e w2 ⟨rfl, h2⟩; have g2 := g1.trans h2; (obtain ⟨zp, p0, p1, p2, p3, p4, p5, p6, p7, p8, zs, s0, s1, s2⟩ := HBX.out _ g2)) | (go_at_call 12; (with_reducible refine (HFW.out _ (g0.trans g2)).mono ?_); rintro e w3 ⟨rfl, h3⟩; have g3 := g2.trans h3; (obtain ⟨zp, p0, p1, p2, p3, p4, p5, p6, p7, p8, zs, s0, s1, s2⟩ := HBX.out _ g3)) | fail)
    (go_ret; exact ⟨rfl, g0.trans (by assumption)⟩)
  have hk := HCHK.out rfl
  have HP2 := Lib.hid (fun (w' : World) (g : Gr w w') => refPrintD_any _ _ P D w' (HPI.out.gr g) hk (HDI.out.gr g) HOK.out HRK.out)
  unfold dgmV at HP2
  by_cases hE : chkD P D = 0
  rotate_left
  · rw [if_neg hE] at HP2
    generalize chkD P D = q at HP2 hE
    have tE : (q != 0) = true := bneT hE
    clear hE
    go_enter Tryz.func6, Tryz.ntmps6
    go_wp2_with (first | (go_at_call 10; (with_reducible refine (HKN.out).mono ?_); rintro e w1 ⟨rfl, g1⟩; (obtain ⟨zp, p0, p1, p2, p3, p4, p5, p6, p7, p8, zs, s0, s1, s2⟩ := HBX.out _ g1)) | (go_at_call 11; (with_reducible refine (HFI.out _ (g0.trans g1)).mono ?_); rintro e w2 ⟨rfl, h2⟩; have g2 := g1.trans h2; (obtain ⟨zp, p0, p1, p2, p3, p4, p5, p6, p7, p8, zs, s0, s1, s2⟩ := HBX.out _ g2)) | (go_at_call 12; (with_reducible refine (HFW.out _ (g0.trans g2)).mono ?_); rintro e w3 ⟨rfl, h3⟩; have g3 := g2.trans h3; (obtain ⟨zp, p0, p1, p2, p3, p4, p5, p6, p7, p8, zs, s0, s1, s2⟩ := HBX.out _ g3)) | (go_at_call 19; (with_reducible refine (HP2.out _ (g0.trans g3)).mono ?_); rintro e w4 ⟨rfl, h4⟩; have g4 := g3.trans h4; (obtain ⟨zp, p0, p1, p2, p3, p4, p5, p6, p7, p8, zs, s0, s1, s2⟩ := HBX.out _ g4)) | fail)
    (go_ret; exact ⟨rfl, g0.trans (by assumption)⟩)
  rw [if_pos hE] at HP2
  have hsz := printD_size hk hE
  rw [hE] at HP2
  generalize printD P D = T at HP2 hsz
  by_cases hn : T.size = 0
  · have tn : ((T.size : Int) == 0) = true := beqT (by omega)
    clear hn
    go_enter Tryz.func6, Tryz.ntmps6
    go_wp2_with (first | (go_at_call 10; (with_reducible refine (HKN.out).mono ?_); rintro e w1 ⟨rfl, g1⟩; (obtain ⟨zp, p0, p1, p2, p3, p4, p5, p6, p7, p8, zs, s0, s1, s2⟩ := HBX.out _ g1)) | (go_at_call 11; (with_reducible refine (HFI.out _ (g0.trans g1)).mono ?_); rintro e w2 ⟨rfl, h2⟩; have g2 := g1.trans h2; (obtain ⟨zp, p0, p1, p2, p3, p4, p5, p6, p7, p8, zs, s0, s1, s2⟩ := HBX.out _ g2)) | (go_at_call 12; (with_reducible refine (HFW.out _ (g0.trans g2)).mono ?_); rintro e w3 ⟨rfl, h3⟩; have g3 := g2.trans h3; (obtain ⟨zp, p0, p1, p2, p3, p4, p5, p6, p7, p8, zs, s0, s1, s2⟩ := HBX.out _ g3)) | (go_at_call 19; (with_reducible refine (HP2.out _ (g0.trans g3)).mono ?_); rintro e w4 ⟨rfl, h4⟩; have g4 := g3.trans h4; (obtain ⟨zp, p0, p1, p2, p3, p4, p5, p6, p7, p8, zs, s0, s1, s2⟩ := HBX.out _ g4)) | fail)
    (go_ret; exact ⟨rfl, g0.trans (by assumption)⟩)
  have tn : ((T.size : Int) == 0) = false := beqF (by omega)
  have hc1 := fun (wx : World) g (hg : wx.cell? ⟨g, 0, none⟩ = some (.int .u8 c)) => conv1_cell (P := Tryz.prog) 46 9 5 Tryz.underlying46 Tryz.underlying5 Tryz.underlying9 c hcb wx g hg
  have hT : (0 : Int) < (T.size : Int) := by omega
  have hu0 : 0 ≤ IntKind.u64.wrap at_ := by
    have h : IntKind.u64.wrap at_ = at_ % (2 ^ 64 : Int) := by simp [IntKind.wrap, IntKind.signed, IntKind.bits]
    rw [h]
    exact Int.emod_nonneg _ (by decide)
  have hk0 : 0 ≤ (IntKind.u64.wrap at_).tmod (T.size : Int) ∧ (IntKind.u64.wrap at_).tmod (T.size : Int) < (T.size : Int) := ⟨Int.tmod_nonneg _ hu0, Int.tmod_lt_of_pos _ hT⟩
  obtain ⟨k, hkk⟩ := Int.eq_ofNat_of_zero_le hk0.1
  have tk : IntKind.i64.wrap ((IntKind.u64.wrap at_).tmod (T.size : Int)) = (k : Int) := by rw [hkk]; exact IntWalk.i64_in _ (by omega)
  have hkT : k < T.size := by omega
  clear hu0 hk0 hkk hT hn
  have t1 : ((k : Int) + 1).toNat = k + 1 := by omega
  have t2 : IntKind.i64.wrap ((k : Int) + 1) = (k : Int) + 1 := IntWalk.i64_in _ (by omega)
  have j1 : ¬ 9223372036854775807 < min k T.size + 1 := by omega
  have j2 : ¬ 9223372036854775807 < min k T.size + 1 + (T.size - (k + 1)) := by omega
  have i1 : (k : Int) ≤ (T.size : Int) := by omega
  have i2 : (k : Int) + 1 ≤ (T.size : Int) := by omega
  have i3 : 0 ≤ (k : Int) + 1 := by omega
  have i4 : (k : Int) < (T.size : Int) := by omega
  obtain ⟨Z, hZ⟩ : ∃ Z, T.extract 0 k ++ ⟨#[UInt8.ofNat c.toNat]⟩ ++ T.extract (k + 1) T.size = Z := ⟨_, rfl⟩
  have hzz : Z.size ≤ 1048576 := by
    have e : (⟨#[UInt8.ofNat c.toNat]⟩ : ByteArray).size = 1 := rfl
    rw [← hZ]
    simp only [ByteArray.size_append, ByteArray.size_extract, e]
    omega
  have HPA0 := Lib.hid (fun (w' : World) (g : Gr w w') => dgParse_any _ P Z hzz w' (shp_gr ht.sh g) (HPI.out.gr g))
  have HPB0 := Lib.hid (fun (w' : World) (g : Gr w w') => refParseD_any _ P Z hzz w' (HPI.out.gr g))
  generalize parD P Z = r at HPA0 HPB0
  obtain ⟨E, n, e⟩ := r
  have HPA : Hid (∀ w', Gr w w' → Calls Tryz.prog 20 #[.agg #[.slice a1 P.es.length c1, .slice a2 P.js.length c2, .slice a3 P.ss.length c3, .slice a4 P.ls.length c4, .int .i64 P.top, .int .i64 P.brake, .int .i64 P.margin, .int .i64 P.throw, .bool P.hard], .string Z] w' fun e' w'' => ∃ v, e' = .returned (.tuple #[v, .int .i64 n, .int .i64 e]) ∧ IsDgm w'' v E ∧ Gr w' w'') := HPA0.out
  have HPB : Hid (∀ w', Gr w w' → Calls Tryz.prog 22 #[.agg #[.slice a1 P.es.length c1, .slice a2 P.js.length c2, .slice a3 P.ss.length c3, .slice a4 P.ls.length c4, .int .i64 P.top, .int .i64 P.brake, .int .i64 P.margin, .int .i64 P.throw, .bool P.hard], .string Z] w' fun e' w'' => ∃ v, e' = .returned (.tuple #[v, .int .i64 n, .int .i64 e]) ∧ IsDgm w'' v E ∧ Gr w' w'') := HPB0.out
  clear HPA0 HPB0 hzz
  go_enter Tryz.func6, Tryz.ntmps6
  go_upto_region 9 with (first | (go_at_call 10; (with_reducible refine (HKN.out).mono ?_); rintro e w1 ⟨rfl, g1⟩; (obtain ⟨zp, p0, p1, p2, p3, p4, p5, p6, p7, p8, zs, s0, s1, s2⟩ := HBX.out _ g1)) | (go_at_call 11; (with_reducible refine (HFI.out _ (g0.trans g1)).mono ?_); rintro e w2 ⟨rfl, h2⟩; have g2 := g1.trans h2; (obtain ⟨zp, p0, p1, p2, p3, p4, p5, p6, p7, p8, zs, s0, s1, s2⟩ := HBX.out _ g2)) | (go_at_call 12; (with_reducible refine (HFW.out _ (g0.trans g2)).mono ?_); rintro e w3 ⟨rfl, h3⟩; have g3 := g2.trans h3; (obtain ⟨zp, p0, p1, p2, p3, p4, p5, p6, p7, p8, zs, s0, s1, s2⟩ := HBX.out _ g3)) | (go_at_call 19; (with_reducible refine (HP2.out _ (g0.trans g3)).mono ?_); rintro e w4 ⟨rfl, h4⟩; have g4 := g3.trans h4; (obtain ⟨zp, p0, p1, p2, p3, p4, p5, p6, p7, p8, zs, s0, s1, s2⟩ := HBX.out _ g4)) | fail)
  go_region
  have g5 : Gr ((w.alloc (.cells #[.slice a1 P.es.length c1, .slice a2 P.js.length c2, .slice a3 P.ss.length c3, .slice a4 P.ls.length c4, .int .i64 P.top, .int .i64 P.brake, .int .i64 P.margin, .int .i64 P.throw, .bool P.hard] 27)).alloc (.cells #[.int .i64 D.beg, .slice d1 D.st.length k1, .slice d2 D.runs.length k2] 31)) ((w4.alloc (.cells #[.int .u8 c] 5)).drew) := (g4.alloc _).drew
  generalize (w4.alloc (.cells #[.int .u8 c] 5)).drew = w5 at *
  clear zp p0 p1 p2 p3 p4 p5 p6 p7 p8 zs s0 s1 s2 hZ
  have gw5 := g0.trans g5
  (obtain ⟨zp, p0, p1, p2, p3, p4, p5, p6, p7, p8, zs, s0, s1, s2⟩ := HBX.out _ g5)
  go_upto_region 12 with (first | (go_at_call 20; (with_reducible refine (HPA.out _ gw5).mono ?_); rintro e w6 ⟨vQ, rfl, hQ, h6⟩; have g6 := (g5.trans h6); (obtain ⟨zp, p0, p1, p2, p3, p4, p5, p6, p7, p8, zs, s0, s1, s2⟩ := HBX.out _ g6); have HQ := Lib.hid hQ; obtain ⟨qa1, qc1, qa2, qc2, rfl, -⟩ := hQ; unfold dgmV at HQ ⊢) | (go_at_call 22; (with_reducible refine (HPB.out _ ((g0.trans g6).alloc _)).mono ?_); rintro e w7 ⟨vU, rfl, hU, h7⟩; have g7 := (g6.alloc _).trans h7; (obtain ⟨zp, p0, p1, p2, p3, p4, p5, p6, p7, p8, zs, s0, s1, s2⟩ := HBX.out _ g7); have HU := Lib.hid hU; obtain ⟨ua1, uc1, ua2, uc2, rfl, -⟩ := hU; unfold dgmV at HU ⊢; obtain ⟨zx, x0, x1, x2⟩ := dgm_new h7) | fail)
  go_wp2_with (first | (go_at_call 21; (with_reducible refine (refSameD_any _ _ E _ (HQ.out.gr ((((Gr.refl _).alloc _).trans h7).alloc _)) (HU.out.gr ((Gr.refl _).alloc _))).mono ?_); rintro e w8 ⟨rfl, h8⟩) | fail)
  go_ret
  exact ⟨rfl, ((g0.trans g7).alloc _).trans h8⟩
end Go.Proofs.YtgjnlgcdpbilfaaGreatDoor
