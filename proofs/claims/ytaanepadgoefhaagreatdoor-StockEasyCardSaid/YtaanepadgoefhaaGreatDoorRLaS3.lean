/- StockStands, StockMays. -/
import Derived.Test.YtaanepadgoefhaaGreatDoorRows
import Derived.Test.YtaanepadgoefhaaGreatDoorRStK
import Derived.Test.YtaanepadgoefhaaGreatDoorROpnK
import Derived.Test.YtaanepadgoefhaaGreatDoorROpnS
import Derived.Test.YtaanepadgoefhaaGreatDoorROpnL
import Derived.Test.YtaanepadgoefhaaGreatDoorRFinP
namespace Go.Proofs.YtaanepadgoefhaaGreatDoor
open Go.ChangeShapes Go.WideShapes Go.ChangeAt Go.RowKit Go.Maps
set_option linter.unusedVariables false
set_option linter.unusedSimpArgs false
theorem fine_margin {P : Pln} (h : chk P = 0) : 1 ≤ P.margin ∧ P.margin ≤ 4000 := by
  have ha := (fine_parts h).1
  unfold argsB at ha
  simp only [Bool.and_eq_true] at ha
  obtain ⟨⟨⟨⟨⟨⟨⟨-, -⟩, hmm⟩, -⟩, -⟩, -⟩, -⟩, -⟩ := ha
  unfold inB at hmm
  simp only [Bool.and_eq_true, decide_eq_true_eq] at hmm
  exact hmm
theorem fine_few {P : Pln} (h : fineB P = true) : fewB P = true := by
  unfold fineB at h
  simp only [Bool.and_eq_true, decide_eq_true_eq] at h
  exact h.1
theorem few_sizes {P : Pln} (h : fewB P = true) : (P.es.length ≤ 1000 ∧ P.js.length ≤ 1000 ∧ P.ss.length ≤ 1000 ∧ P.ls.length ≤ 1000) ∧ ∀ l ∈ P.ls, l.es.length ≤ 1000 := by
  obtain ⟨h1, h2, h3, h4, h5, -⟩ := few_bd h
  exact ⟨by omega, fun l hl => by have := (h5 l hl).1; omega⟩
set_option maxRecDepth 100000 in
set_option maxHeartbeats 2000000 in
theorem stockStands_walk (pv : Value) (P : Pln) (sv : Value) (s : Stk) (m : Int) (w : World) (ht : Tabs w) (hP : IsPln w pv P ∧ PlnOk P) (hs : IsStk sv s) (wm : (Lit.int .i64 m).wf = true) :
    Calls Tryz.prog 4 #[pv, sv, .int .i64 m] w fun e w' => e = .returned (.bool true) ∧ Gr w w' := by
  obtain ⟨hP, hpk⟩ := hP
  have HPI := Lib.hid hP
  have HPK := Lib.hid hpk
  obtain ⟨a1, c1, a2, c2, a3, c3, a4, c4, rfl, -⟩ := hP
  obtain ⟨nm, l, t, a, b⟩ := s
  obtain ⟨rfl, hsz, -⟩ := hs
  dsimp only at hsz ⊢
  unfold plnV at *
  clear hpk
  have g0 : Gr w ((w.alloc (.cells #[.slice a1 P.es.length c1, .slice a2 P.js.length c2, .slice a3 P.ss.length c3, .slice a4 P.ls.length c4, .int .i64 P.top, .int .i64 P.brake, .int .i64 P.margin, .int .i64 P.throw, .bool P.hard] 27)).alloc (.cells #[.string nm, .int .i64 l, .int .i64 t, .int .i64 a, .int .i64 b] 30)) := ((Gr.refl _).alloc _).alloc _
  have HBX : Hid (∀ w', Gr ((w.alloc (.cells #[.slice a1 P.es.length c1, .slice a2 P.js.length c2, .slice a3 P.ss.length c3, .slice a4 P.ls.length c4, .int .i64 P.top, .int .i64 P.brake, .int .i64 P.margin, .int .i64 P.throw, .bool P.hard] 27)).alloc (.cells #[.string nm, .int .i64 l, .int .i64 t, .int .i64 a, .int .i64 b] 30)) w' → w.heap.size < w'.heap.size ∧ w'.cell? ⟨w.heap.size, 0, none⟩ = some (.slice a1 P.es.length c1) ∧ w'.cell? ⟨w.heap.size, 1, none⟩ = some (.slice a2 P.js.length c2) ∧ w'.cell? ⟨w.heap.size, 2, none⟩ = some (.slice a3 P.ss.length c3) ∧ w'.cell? ⟨w.heap.size, 3, none⟩ = some (.slice a4 P.ls.length c4) ∧ w'.cell? ⟨w.heap.size, 4, none⟩ = some (.int .i64 P.top) ∧ w'.cell? ⟨w.heap.size, 5, none⟩ = some (.int .i64 P.brake) ∧ w'.cell? ⟨w.heap.size, 6, none⟩ = some (.int .i64 P.margin) ∧ w'.cell? ⟨w.heap.size, 7, none⟩ = some (.int .i64 P.throw) ∧ w'.cell? ⟨w.heap.size, 8, none⟩ = some (.bool P.hard) ∧ w.heap.size + 1 < w'.heap.size ∧ w'.cell? ⟨w.heap.size + 1, 0, none⟩ = some (.string nm) ∧ w'.cell? ⟨w.heap.size + 1, 1, none⟩ = some (.int .i64 l) ∧ w'.cell? ⟨w.heap.size + 1, 2, none⟩ = some (.int .i64 t) ∧ w'.cell? ⟨w.heap.size + 1, 3, none⟩ = some (.int .i64 a) ∧ w'.cell? ⟨w.heap.size + 1, 4, none⟩ = some (.int .i64 b)) := by
    intro w' g
    have z1 : w.heap.size + 1 < (((w.alloc (.cells #[.slice a1 P.es.length c1, .slice a2 P.js.length c2, .slice a3 P.ss.length c3, .slice a4 P.ls.length c4, .int .i64 P.top, .int .i64 P.brake, .int .i64 P.margin, .int .i64 P.throw, .bool P.hard] 27)).alloc (.cells #[.string nm, .int .i64 l, .int .i64 t, .int .i64 a, .int .i64 b] 30))).heap.size := by simp
    have z0 : w.heap.size < (((w.alloc (.cells #[.slice a1 P.es.length c1, .slice a2 P.js.length c2, .slice a3 P.ss.length c3, .slice a4 P.ls.length c4, .int .i64 P.top, .int .i64 P.brake, .int .i64 P.margin, .int .i64 P.throw, .bool P.hard] 27)).alloc (.cells #[.string nm, .int .i64 l, .int .i64 t, .int .i64 a, .int .i64 b] 30))).heap.size := by omega
    refine ⟨Nat.lt_of_lt_of_le z0 g.size, (g.cell _ _ z0).trans ?_, (g.cell _ _ z0).trans ?_, (g.cell _ _ z0).trans ?_, (g.cell _ _ z0).trans ?_, (g.cell _ _ z0).trans ?_, (g.cell _ _ z0).trans ?_, (g.cell _ _ z0).trans ?_, (g.cell _ _ z0).trans ?_, (g.cell _ _ z0).trans ?_, Nat.lt_of_lt_of_le z1 g.size, (g.cell _ _ z1).trans ?_, (g.cell _ _ z1).trans ?_, (g.cell _ _ z1).trans ?_, (g.cell _ _ z1).trans ?_, (g.cell _ _ z1).trans ?_⟩
    all_goals go_simp
  have HKN := Lib.hid (known21_any _ (ht.gr g0))
  have HFI := Lib.hid (fun (w' : World) (g : Gr w w') => fine_any _ P w' (HPI.out.gr g) HPK.out)
  have HMY := Lib.hid (fun w' => may_any nm l t a b hsz w')
  have HPT := Lib.hid (mayB_parts (nm := nm) (l := l) (t := t) (a := a) (b := b))
  have HFC := Lib.hid (fine_chk (P := P))
  have HFF := Lib.hid (fine_few (P := P))
  have HMK0 := Lib.hid (fun (hf : fineB P = true) (w' : World) (g : Gr w w') => made_fine _ P w' (HPI.out.gr g) HPK.out hf)
  generalize fineB P = fb at HFI HFC HMK0 HFF
  cases fb
  · go_enter Tryz.func4, Tryz.ntmps4
    go_wp2_with (first | (go_at_call 21; (with_reducible refine (HKN.out).mono ?_); rintro e w1 ⟨rfl, g1⟩; (obtain ⟨zp, p0, p1, p2, p3, p4, p5, p6, p7, p8, zs, s0, s1, s2, s3, s4⟩ := HBX.out _ g1)) | (go_at_call 12; (with_reducible refine (HFI.out _ (g0.trans g1)).mono ?_); rintro e w2 ⟨rfl, h2⟩; have g2 := g1.trans h2; (obtain ⟨zp, p0, p1, p2, p3, p4, p5, p6, p7, p8, zs, s0, s1, s2, s3, s4⟩ := HBX.out _ g2)) | fail)
    (go_ret; exact ⟨rfl, g0.trans (by assumption)⟩)
  have hck := HFC.out rfl
  have hfew := few_sizes (HFF.out rfl)
  have hmar := fine_margin hck
  have HMK := Lib.hid (HMK0.out rfl)
  clear HFC HMK0 HFF
  generalize mayB nm l t a b = mb at HMY HPT
  cases mb
  · go_enter Tryz.func4, Tryz.ntmps4
    go_wp2_with (first | (go_at_call 21; (with_reducible refine (HKN.out).mono ?_); rintro e w1 ⟨rfl, g1⟩; (obtain ⟨zp, p0, p1, p2, p3, p4, p5, p6, p7, p8, zs, s0, s1, s2, s3, s4⟩ := HBX.out _ g1)) | (go_at_call 12; (with_reducible refine (HFI.out _ (g0.trans g1)).mono ?_); rintro e w2 ⟨rfl, h2⟩; have g2 := g1.trans h2; (obtain ⟨zp, p0, p1, p2, p3, p4, p5, p6, p7, p8, zs, s0, s1, s2, s3, s4⟩ := HBX.out _ g2)) | (go_at_call 13; (with_reducible refine (HMY.out _).mono ?_); rintro e w3 ⟨rfl, h3⟩; have g3 := g2.trans h3; (obtain ⟨zp, p0, p1, p2, p3, p4, p5, p6, p7, p8, zs, s0, s1, s2, s3, s4⟩ := HBX.out _ g3)) | fail)
    (go_ret; exact ⟨rfl, g0.trans (by assumption)⟩)
  obtain ⟨-, hl, -⟩ := HPT.out rfl
  clear HPT
  have HF1 := Lib.hid (fun (nb : Nat) (w' : World) (hn : NetIs w' nb P) => stFits_any nb P nm l t a b m w' hn hfew.1 hfew.2 (by omega) (by omega))
  have HF2 := Lib.hid (fun (w' : World) (g : Gr w w') => refFits_any _ P nm l t a b m w' (HPI.out.gr g) (by omega) (by omega))
  generalize fitsS (eleAt P m).k (eleAt P m).l l P.margin = F at HF1 HF2
  have ff : (F == F) = true := by simp
  clear hck hfew hmar hl
  go_enter Tryz.func4, Tryz.ntmps4
  go_wp2_with (first | (go_at_call 21; (with_reducible refine (HKN.out).mono ?_); rintro e w1 ⟨rfl, g1⟩; (obtain ⟨zp, p0, p1, p2, p3, p4, p5, p6, p7, p8, zs, s0, s1, s2, s3, s4⟩ := HBX.out _ g1)) | (go_at_call 12; (with_reducible refine (HFI.out _ (g0.trans g1)).mono ?_); rintro e w2 ⟨rfl, h2⟩; have g2 := g1.trans h2; (obtain ⟨zp, p0, p1, p2, p3, p4, p5, p6, p7, p8, zs, s0, s1, s2, s3, s4⟩ := HBX.out _ g2)) | (go_at_call 13; (with_reducible refine (HMY.out _).mono ?_); rintro e w3 ⟨rfl, h3⟩; have g3 := g2.trans h3; (obtain ⟨zp, p0, p1, p2, p3, p4, p5, p6, p7, p8, zs, s0, s1, s2, s3, s4⟩ := HBX.out _ g3)) | (go_at_call 16; (with_reducible refine (HMK.out _ (g0.trans g3)).mono ?_); rintro e w6 ⟨nb, rfl, hnet, h6⟩; have g6 := g3.trans h6; have HNT := Lib.hid hnet; clear hnet; (obtain ⟨zp, p0, p1, p2, p3, p4, p5, p6, p7, p8, zs, s0, s1, s2, s3, s4⟩ := HBX.out _ g6)) | fail)
  have hcb := fun (i : GrW w6) (o : Nat) => GrW.cell zp i o
  have hcs := fun (i : GrW w6) (o : Nat) => GrW.cell zs i o
  have gw6 := g0.trans g6
  have H1 := Lib.hid (fun (w' : World) (g : Gr w6 w') => HF1.out nb w' (HNT.out.gr g))
  clear HF1 HNT
  (refine wp_region_gr (by kernel_rfl) (by kernel_rfl) ?_; (repeat (go_big_quiet_step ((first | (go_at_call 22; exact Calls.gr_of (H1.out _ (GrW.gr _))) | (go_at_call 23; exact Calls.gr_of (HF2.out _ (gw6.trans (GrW.gr _)))))))); refine wpQuiet_nil ?_; intro wz hz; obtain ⟨iz, hz⟩ := hz; obtain ⟨wn, gn⟩ := iz; dsimp only at hz; obtain rfl := hz.symm)
  go_wp2_with fail
  go_ret
  exact ⟨rfl, gw6.trans gn⟩
set_option maxRecDepth 100000 in
set_option maxHeartbeats 2000000 in
theorem stockMays_walk (pv : Value) (P : Pln) (sv : Value) (s : Stk) (v : Value) (L : List Stk) (n : ByteArray) (w : World) (ht : Tabs w) (hP : IsPln w pv P ∧ PlnOk P) (hs : IsStk sv s) (hL : IsStks w v L ∧ ∀ x ∈ L, StkOk x) (hn : n.size ≤ maxLen) :
    Calls Tryz.prog 10 #[pv, sv, v, .string n] w fun e w' => e = .returned (.bool true) ∧ Gr w w' := by
  obtain ⟨hP, hpk⟩ := hP
  have HPI := Lib.hid hP
  obtain ⟨a1, c1, a2, c2, a3, c3, a4, c4, rfl, -⟩ := hP
  obtain ⟨nm, l, t, a, b⟩ := s
  obtain ⟨rfl, hsz, -⟩ := hs
  dsimp only at hsz ⊢
  obtain ⟨hL, hok⟩ := hL
  have HLS := Lib.hid hL
  have HOK : Hid (∀ x ∈ L, x.nm.size ≤ maxLen) := fun x hx => (hok x hx).1
  obtain ⟨la, lc, rfl, hm, -⟩ := hL.form
  unfold maxLen at hm
  unfold plnV at *
  clear hpk hL hok
  have g0 : Gr w ((w.alloc (.cells #[.slice a1 P.es.length c1, .slice a2 P.js.length c2, .slice a3 P.ss.length c3, .slice a4 P.ls.length c4, .int .i64 P.top, .int .i64 P.brake, .int .i64 P.margin, .int .i64 P.throw, .bool P.hard] 27)).alloc (.cells #[.string nm, .int .i64 l, .int .i64 t, .int .i64 a, .int .i64 b] 30)) := ((Gr.refl _).alloc _).alloc _
  have HBX : Hid (∀ w', Gr ((w.alloc (.cells #[.slice a1 P.es.length c1, .slice a2 P.js.length c2, .slice a3 P.ss.length c3, .slice a4 P.ls.length c4, .int .i64 P.top, .int .i64 P.brake, .int .i64 P.margin, .int .i64 P.throw, .bool P.hard] 27)).alloc (.cells #[.string nm, .int .i64 l, .int .i64 t, .int .i64 a, .int .i64 b] 30)) w' → w.heap.size < w'.heap.size ∧ w'.cell? ⟨w.heap.size, 0, none⟩ = some (.slice a1 P.es.length c1) ∧ w'.cell? ⟨w.heap.size, 1, none⟩ = some (.slice a2 P.js.length c2) ∧ w'.cell? ⟨w.heap.size, 2, none⟩ = some (.slice a3 P.ss.length c3) ∧ w'.cell? ⟨w.heap.size, 3, none⟩ = some (.slice a4 P.ls.length c4) ∧ w'.cell? ⟨w.heap.size, 4, none⟩ = some (.int .i64 P.top) ∧ w'.cell? ⟨w.heap.size, 5, none⟩ = some (.int .i64 P.brake) ∧ w'.cell? ⟨w.heap.size, 6, none⟩ = some (.int .i64 P.margin) ∧ w'.cell? ⟨w.heap.size, 7, none⟩ = some (.int .i64 P.throw) ∧ w'.cell? ⟨w.heap.size, 8, none⟩ = some (.bool P.hard) ∧ w.heap.size + 1 < w'.heap.size ∧ w'.cell? ⟨w.heap.size + 1, 0, none⟩ = some (.string nm) ∧ w'.cell? ⟨w.heap.size + 1, 1, none⟩ = some (.int .i64 l) ∧ w'.cell? ⟨w.heap.size + 1, 2, none⟩ = some (.int .i64 t) ∧ w'.cell? ⟨w.heap.size + 1, 3, none⟩ = some (.int .i64 a) ∧ w'.cell? ⟨w.heap.size + 1, 4, none⟩ = some (.int .i64 b)) := by
    intro w' g
    have z1 : w.heap.size + 1 < (((w.alloc (.cells #[.slice a1 P.es.length c1, .slice a2 P.js.length c2, .slice a3 P.ss.length c3, .slice a4 P.ls.length c4, .int .i64 P.top, .int .i64 P.brake, .int .i64 P.margin, .int .i64 P.throw, .bool P.hard] 27)).alloc (.cells #[.string nm, .int .i64 l, .int .i64 t, .int .i64 a, .int .i64 b] 30))).heap.size := by simp
    have z0 : w.heap.size < (((w.alloc (.cells #[.slice a1 P.es.length c1, .slice a2 P.js.length c2, .slice a3 P.ss.length c3, .slice a4 P.ls.length c4, .int .i64 P.top, .int .i64 P.brake, .int .i64 P.margin, .int .i64 P.throw, .bool P.hard] 27)).alloc (.cells #[.string nm, .int .i64 l, .int .i64 t, .int .i64 a, .int .i64 b] 30))).heap.size := by omega
    refine ⟨Nat.lt_of_lt_of_le z0 g.size, (g.cell _ _ z0).trans ?_, (g.cell _ _ z0).trans ?_, (g.cell _ _ z0).trans ?_, (g.cell _ _ z0).trans ?_, (g.cell _ _ z0).trans ?_, (g.cell _ _ z0).trans ?_, (g.cell _ _ z0).trans ?_, (g.cell _ _ z0).trans ?_, (g.cell _ _ z0).trans ?_, Nat.lt_of_lt_of_le z1 g.size, (g.cell _ _ z1).trans ?_, (g.cell _ _ z1).trans ?_, (g.cell _ _ z1).trans ?_, (g.cell _ _ z1).trans ?_, (g.cell _ _ z1).trans ?_⟩
    all_goals go_simp
  have HKN := Lib.hid (known21_any _ (ht.gr g0))
  have HFW := Lib.hid (fun (w' : World) (g : Gr w w') => few_any _ P w' (HPI.out.gr g))
  by_cases hl : 100 < L.length
  · have hl1 : 100 < (L.length : Int) := by omega
    go_enter Tryz.func10, Tryz.ntmps10
    go_wp2_with (first | (go_at_call 21; (with_reducible refine (HKN.out).mono ?_); rintro e w1 ⟨rfl, g1⟩; (obtain ⟨zp, p0, p1, p2, p3, p4, p5, p6, p7, p8, zs, s0, s1, s2, s3, s4⟩ := HBX.out _ g1)) | fail)
    (go_ret; exact ⟨rfl, g0.trans (by assumption)⟩)
  have hl1 : ¬ 100 < (L.length : Int) := by omega
  generalize fewB P = fb at HFW
  cases fb
  · go_enter Tryz.func10, Tryz.ntmps10
    go_wp2_with (first | (go_at_call 21; (with_reducible refine (HKN.out).mono ?_); rintro e w1 ⟨rfl, g1⟩; (obtain ⟨zp, p0, p1, p2, p3, p4, p5, p6, p7, p8, zs, s0, s1, s2, s3, s4⟩ := HBX.out _ g1)) | (go_at_call 29; (with_reducible refine (HFW.out _ (g0.trans g1)).mono ?_); rintro e w2 ⟨rfl, h2⟩; have g2 := g1.trans h2; (obtain ⟨zp, p0, p1, p2, p3, p4, p5, p6, p7, p8, zs, s0, s1, s2, s3, s4⟩ := HBX.out _ g2)) | fail)
    (go_ret; exact ⟨rfl, g0.trans (by assumption)⟩)
  have H1 := Lib.hid (fun w' => stMay_any nm l t a b hsz w')
  have H2 := Lib.hid (fun w' => may_any nm l t a b hsz w')
  have H3 := Lib.hid (fun (w' : World) (g : Gr w w') => stCheck_any _ _ P L w' (HPI.out.gr g) (HLS.out.gr g) HOK.out)
  have H4 := Lib.hid (fun (w' : World) (g : Gr w w') => refCheckS_any _ _ P L w' (HPI.out.gr g) (HLS.out.gr g) HOK.out)
  have H5 := Lib.hid (fun (w' : World) (g : Gr w w') => stFind_any _ L n w' (HLS.out.gr g))
  have H6 := Lib.hid (fun (w' : World) (g : Gr w w') => refFindS_any _ L n w' (HLS.out.gr g))
  generalize mayB nm l t a b = q1 at H1 H2
  generalize checkS P.top P.brake L = q2 at H3 H4
  generalize findN L n = q3 at H5 H6
  have t1 : (q1 == q1) = true := by simp
  have t2 : (q2 == q2) = true := by simp
  have t3 : (q3 == q3) = true := by simp
  go_enter Tryz.func10, Tryz.ntmps10
  go_wp2_with (first | (go_at_call 21; (with_reducible refine (HKN.out).mono ?_); rintro e w1 ⟨rfl, g1⟩; (obtain ⟨zp, p0, p1, p2, p3, p4, p5, p6, p7, p8, zs, s0, s1, s2, s3, s4⟩ := HBX.out _ g1)) | (go_at_call 29; (with_reducible refine (HFW.out _ (g0.trans g1)).mono ?_); rintro e w2 ⟨rfl, h2⟩; have g2 := g1.trans h2; (obtain ⟨zp, p0, p1, p2, p3, p4, p5, p6, p7, p8, zs, s0, s1, s2, s3, s4⟩ := HBX.out _ g2)) | fail)
  have hcb := fun (i : GrW w2) (o : Nat) => GrW.cell zp i o
  have hcs := fun (i : GrW w2) (o : Nat) => GrW.cell zs i o
  have gw2 := g0.trans g2
  (refine wp_region_gr (by kernel_rfl) (by kernel_rfl) ?_; (repeat (go_big_quiet_step ((first | (go_at_call 31; exact Calls.gr_of (H1.out _)) | (go_at_call 13; exact Calls.gr_of (H2.out _)) | (go_at_call 30; exact Calls.gr_of (H3.out _ (gw2.trans (GrW.gr _)))) | (go_at_call 32; exact Calls.gr_of (H4.out _ (gw2.trans (GrW.gr _)))) | (go_at_call 33; exact Calls.gr_of (H5.out _ (gw2.trans (GrW.gr _)))) | (go_at_call 34; exact Calls.gr_of (H6.out _ (gw2.trans (GrW.gr _)))))))); refine wpQuiet_nil ?_; intro wz hz; obtain ⟨iz, hz⟩ := hz; obtain ⟨wn, gn⟩ := iz; dsimp only at hz; obtain rfl := hz.symm)
  go_wp2_with fail
  go_ret
  exact ⟨rfl, gw2.trans gn⟩
end Go.Proofs.YtaanepadgoefhaaGreatDoor
