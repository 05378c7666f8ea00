/- StockLonger. -/
import Derived.Test.YtaanepadgoefhaaGreatDoorRows
import Derived.Test.YtaanepadgoefhaaGreatDoorRLaS3
import Derived.Test.YtaanepadgoefhaaGreatDoorROpnK
import Derived.Test.YtaanepadgoefhaaGreatDoorROpnS
import Derived.Test.YtaanepadgoefhaaGreatDoorROpnL
import Derived.Test.YtaanepadgoefhaaGreatDoorRFinP
namespace Go.Proofs.YtaanepadgoefhaaGreatDoor
open Go.ChangeShapes Go.WideShapes Go.ChangeAt Go.RowKit Go.Maps
set_option linter.unusedVariables false
set_option linter.unusedSimpArgs false
theorem long_new {w w' : World} {nm : ByteArray} {t a b l2 : Int} {T : TypeId} (g : Gr (w.alloc (.cells #[.string nm, .int .i64 l2, .int .i64 t, .int .i64 a, .int .i64 b] T)) w') :
    w.heap.size < w'.heap.size ∧ w'.cell? ⟨w.heap.size, 0, none⟩ = some (.string nm) ∧ w'.cell? ⟨w.heap.size, 1, none⟩ = some (.int .i64 l2) ∧ w'.cell? ⟨w.heap.size, 2, none⟩ = some (.int .i64 t) ∧ w'.cell? ⟨w.heap.size, 3, none⟩ = some (.int .i64 a) ∧ w'.cell? ⟨w.heap.size, 4, none⟩ = some (.int .i64 b) := by
  have hz : w.heap.size < (w.alloc (.cells #[.string nm, .int .i64 l2, .int .i64 t, .int .i64 a, .int .i64 b] T)).heap.size := by simp
  refine ⟨Nat.lt_of_lt_of_le hz g.size, (g.cell _ _ hz).trans ?_, (g.cell _ _ hz).trans ?_, (g.cell _ _ hz).trans ?_, (g.cell _ _ hz).trans ?_, (g.cell _ _ hz).trans ?_⟩
  all_goals go_simp
theorem fits_less (k len l l2 m : Int) (h : l ≤ l2) (hf : fitsS k len l2 m = true) : fitsS k len l m = true := by
  unfold fitsS at hf ⊢
  simp only [Bool.or_eq_true, Bool.and_eq_true, decide_eq_true_eq] at hf ⊢
  rcases hf with h1 | ⟨h1, h2⟩
  · exact .inl h1
  · exact .inr ⟨h1, by omega⟩
set_option maxRecDepth 100000 in
set_option maxHeartbeats 2000000 in
theorem stockLonger_walk (pv : Value) (P : Pln) (sv : Value) (s : Stk) (by2 m : Int) (w : World) (ht : Tabs w) (hP : IsPln w pv P ∧ PlnOk P) (hs : IsStk sv s) (wb : (Lit.int .u16 by2).wf = true) (wm : (Lit.int .i64 m).wf = true) :
    Calls Tryz.prog 8 #[pv, sv, .int .u16 by2, .int .i64 m] w fun e w' => e = .returned (.bool true) ∧ Gr w w' := by
  obtain ⟨hP, hpk⟩ := hP
  have HPI := Lib.hid hP
  have HPK := Lib.hid hpk
  obtain ⟨a1, c1, a2, c2, a3, c3, a4, c4, rfl, -⟩ := hP
  obtain ⟨nm, l, t, a, b⟩ := s
  obtain ⟨rfl, hsz, -⟩ := hs
  dsimp only at hsz ⊢
  have b2 : 0 ≤ by2 ∧ by2 ≤ 65535 := by simpa [Lit.wf, IntKind.min, IntKind.max, IntKind.signed, IntKind.bits] using wb
  unfold plnV at *
  clear hpk wb
  have g0 : Gr w ((w.alloc (.cells #[.slice a1 P.es.length c1, .slice a2 P.js.length c2, .slice a3 P.ss.length c3, .slice a4 P.ls.length c4, .int .i64 P.top, .int .i64 P.brake, .int .i64 P.margin, .int .i64 P.throw, .bool P.hard] 27)).alloc (.cells #[.string nm, .int .i64 l, .int .i64 t, .int .i64 a, .int .i64 b] 30)) := ((Gr.refl _).alloc _).alloc _
  have HBX : Hid (∀ w', Gr ((w.alloc (.cells #[.slice a1 P.es.length c1, .slice a2 P.js.length c2, .slice a3 P.ss.length c3, .slice a4 P.ls.length c4, .int .i64 P.top, .int .i64 P.brake, .int .i64 P.margin, .int .i64 P.throw, .bool P.hard] 27)).alloc (.cells #[.string nm, .int .i64 l, .int .i64 t, .int .i64 a, .int .i64 b] 30)) w' → w.heap.size < w'.heap.size ∧ w'.cell? ⟨w.heap.size, 0, none⟩ = some (.slice a1 P.es.length c1) ∧ w'.cell? ⟨w.heap.size, 1, none⟩ = some (.slice a2 P.js.length c2) ∧ w'.cell? ⟨w.heap.size, 2, none⟩ = some (.slice a3 P.ss.length c3) ∧ w'.cell? ⟨w.heap.size, 3, none⟩ = some (.slice a4 P.ls.length c4) ∧ w'.cell? ⟨w.heap.size, 4, none⟩ = some (.int .i64 P.top) ∧ w'.cell? ⟨w.heap.size, 5, none⟩ = some (.int .i64 P.brake) ∧ w'.cell? ⟨w.heap.size, 6, none⟩ = some (.int .i64 P.margin) ∧ w'.cell? ⟨w.heap.size, 7, none⟩ = some (.int .i64 P.throw) ∧ w'.cell? ⟨w.heap.size, 8, none⟩ = some (.bool P.hard) ∧ w.heap.size + 1 < w'.heap.size ∧ w'.cell? ⟨w.heap.size + 1, 0, none⟩ = some (.string nm) ∧ w'.cell? ⟨w.heap.size + 1, 1, none⟩ = some (.int .i64 l) ∧ w'.cell? ⟨w.heap.size + 1, 2, none⟩ = some (.int .i64 t) ∧ w'.cell? ⟨w.heap.size + 1, 3, none⟩ = some (.int .i64 a) ∧ w'.cell? ⟨w.heap.size + 1, 4, none⟩ = some (.int .i64 b)) := by
    intro w' g
    have z1 : w.heap.size + 1 < (((w.alloc (.cells #[.slice a1 P.es.length c1, .slice a2 P.js.length c2, .slice a3 P.ss.length c3, .slice a4 P.ls.length c4, .int .i64 P.top, .int .i64 P.brake, .int .i64 P.margin, .int .i64 P.throw, .bool P.hard] 27)).alloc (.cells #[.string nm, .int .i64 l, .int .i64 t, .int .i64 a, .int .i64 b] 30))).heap.size := by simp
    have z0 : w.heap.size < (((w.alloc (.cells #[.slice a1 P.es.length c1, .slice a2 P.js.length c2, .slice a3 P.ss.length c3, .slice a4 P.ls.length c4, .int .i64 P.top, .int .i64 P.brake, .int .i64 P.margin, .int .i64 P.throw, .bool P.hard] 27)).alloc (.cells #[.string nm, .int .i64 l, .int .i64 t, .int .i64 a, .int .i64 b] 30))).heap.size := by omega
    refine ⟨Nat.lt_of_lt_of_le z0 g.size, (g.cell _ _ z0).trans ?_, (g.cell _ _ z0).trans ?_, (g.cell _ _ z0).trans ?_, (g.cell _ _ z0).trans ?_, (g.cell _ _ z0).trans ?_, (g.cell _ _ z0).trans ?_, (g.cell _ _ z0).trans ?_, (g.cell _ _ z0).trans ?_, (g.cell _ _ z0).trans ?_, Nat.lt_of_lt_of_le z1 g.size, (g.cell _ _ z1).trans ?_, (g.cell _ _ z1).trans ?_, (g.cell _ _ z1).trans ?_, (g.cell _ _ z1).trans ?_, (g.cell _ _ z1).trans ?_⟩
    all_goals go_simp
  have HKN := Lib.hid (known21_any _ (ht.gr g0))
  have HFI := Lib.hid (fun (w' : World) (g : Gr w w') => fine_any _ P w' (HPI.out.gr g) HPK.out)
  have HMY := Lib.hid (fun w' => may_any nm l t a b hsz w')
  have HM2 := Lib.hid (fun w' => may_any nm (l + by2) t a b hsz w')
  have HPT := Lib.hid (mayB_parts (nm := nm) (l := l) (t := t) (a := a) (b := b))
  have HPT2 := Lib.hid (mayB_parts (nm := nm) (l := l + by2) (t := t) (a := a) (b := b))
  have HFC := Lib.hid (fine_chk (P := P))
  have HFF := Lib.hid (fine_few (P := P))
  have HMK0 := Lib.hid (fun (hf : fineB P = true) (w' : World) (g : Gr w w') => made_fine _ P w' (HPI.out.gr g) HPK.out hf)
  generalize fineB P = fb at HFI HFC HMK0 HFF
  cases fb
  · go_enter Tryz.func8, Tryz.ntmps8
    go_wp2_with (first | (go_at_call 21; (with_reducible refine (HKN.out).mono ?_); rintro e w1 ⟨rfl, g1⟩; (obtain ⟨zp, p0, p1, p2, p3, p4, p5, p6, p7, p8, zs, s0, s1, s2, s3, s4⟩ := HBX.out _ g1)) | (go_at_call 12; (with_reducible refine (HFI.out _ (g0.trans g1)).mono ?_); rintro e w2 ⟨rfl, h2⟩; have g2 := g1.trans h2; (obtain ⟨zp, p0, p1, p2, p3, p4, p5, p6, p7, p8, zs, s0, s1, s2, s3, s4⟩ := HBX.out _ g2)) | fail)
    (go_ret; exact ⟨rfl, g0.trans (by assumption)⟩)
  have hck := HFC.out rfl
  have hfew := few_sizes (HFF.out rfl)
  have hmar := fine_margin hck
  have HMK := Lib.hid (HMK0.out rfl)
  clear HFC HMK0 HFF
  generalize mayB nm l t a b = mb at HMY HPT
  cases mb
  · go_enter Tryz.func8, Tryz.ntmps8
    go_wp2_with (first | (go_at_call 21; (with_reducible refine (HKN.out).mono ?_); rintro e w1 ⟨rfl, g1⟩; (obtain ⟨zp, p0, p1, p2, p3, p4, p5, p6, p7, p8, zs, s0, s1, s2, s3, s4⟩ := HBX.out _ g1)) | (go_at_call 12; (with_reducible refine (HFI.out _ (g0.trans g1)).mono ?_); rintro e w2 ⟨rfl, h2⟩; have g2 := g1.trans h2; (obtain ⟨zp, p0, p1, p2, p3, p4, p5, p6, p7, p8, zs, s0, s1, s2, s3, s4⟩ := HBX.out _ g2)) | (go_at_call 13; (with_reducible refine (HMY.out _).mono ?_); rintro e w3 ⟨rfl, h3⟩; have g3 := g2.trans h3; (obtain ⟨zp, p0, p1, p2, p3, p4, p5, p6, p7, p8, zs, s0, s1, s2, s3, s4⟩ := HBX.out _ g3)) | fail)
    (go_ret; exact ⟨rfl, g0.trans (by assumption)⟩)
  obtain ⟨-, hl, -⟩ := HPT.out rfl
  have tw : IntKind.i64.wrap by2 = by2 := IntWalk.i64_in _ (by omega)
  have tw2 : IntKind.i64.wrap (l + by2) = l + by2 := IntWalk.i64_in _ (by omega)
  clear HPT
  generalize mayB nm (l + by2) t a b = mb2 at HM2 HPT2
  cases mb2
  · go_enter Tryz.func8, Tryz.ntmps8
    go_wp2_with (first | (go_at_call 21; (with_reducible refine (HKN.out).mono ?_); rintro e w1 ⟨rfl, g1⟩; (obtain ⟨zp, p0, p1, p2, p3, p4, p5, p6, p7, p8, zs, s0, s1, s2, s3, s4⟩ := HBX.out _ g1)) | (go_at_call 12; (with_reducible refine (HFI.out _ (g0.trans g1)).mono ?_); rintro e w2 ⟨rfl, h2⟩; have g2 := g1.trans h2; (obtain ⟨zp, p0, p1, p2, p3, p4, p5, p6, p7, p8, zs, s0, s1, s2, s3, s4⟩ := HBX.out _ g2)) | (go_at_call 13; first | ((with_reducible refine (HMY.out _).mono ?_); rintro e w3 ⟨rfl, h3⟩; have g3 := g2.trans h3; (obtain ⟨zp, p0, p1, p2, p3, p4, p5, p6, p7, p8, zs, s0, s1, s2, s3, s4⟩ := HBX.out _ g3)) | ((with_reducible refine (HM2.out _).mono ?_); rintro e w4 ⟨rfl, h4⟩; have g34 := ((Gr.refl w3).alloc (.cells #[.string nm, .int .i64 (l + by2), .int .i64 t, .int .i64 a, .int .i64 b] 30)).trans h4; have g4 := g3.trans g34; (obtain ⟨zp, p0, p1, p2, p3, p4, p5, p6, p7, p8, zs, s0, s1, s2, s3, s4⟩ := HBX.out _ g4); obtain ⟨zt, t0, t1, t2, t3, t4⟩ := long_new h4; have HLN := Lib.hid (fun (w' : World) (g : Gr w4 w') => long_new (h4.trans g)))) | fail)
    (go_ret; exact ⟨rfl, g0.trans (by assumption)⟩)
  obtain ⟨-, hl2, -⟩ := HPT2.out rfl
  clear HPT2
  have HF1 := Lib.hid (fun (nb : Nat) (w' : World) (hn : NetIs w' nb P) => stFits_any nb P nm l t a b m w' hn hfew.1 hfew.2 (by omega) (by omega))
  have HF2 := Lib.hid (fun (nb : Nat) (w' : World) (hn : NetIs w' nb P) => stFits_any nb P nm (l + by2) t a b m w' hn hfew.1 hfew.2 (by omega) (by omega))
  have hle := fits_less (eleAt P m).k (eleAt P m).l l (l + by2) P.margin (by omega)
  generalize fitsS (eleAt P m).k (eleAt P m).l l P.margin = F at HF1 hle
  generalize fitsS (eleAt P m).k (eleAt P m).l (l + by2) P.margin = F2 at HF2 hle
  clear hck hfew hmar hl hl2
  cases F
  · cases F2
    · clear hle
      go_enter Tryz.func8, Tryz.ntmps8
      go_wp2_with (first | (go_at_call 21; (with_reducible refine (HKN.out).mono ?_); rintro e w1 ⟨rfl, g1⟩; (obtain ⟨zp, p0, p1, p2, p3, p4, p5, p6, p7, p8, zs, s0, s1, s2, s3, s4⟩ := HBX.out _ g1)) | (go_at_call 12; (with_reducible refine (HFI.out _ (g0.trans g1)).mono ?_); rintro e w2 ⟨rfl, h2⟩; have g2 := g1.trans h2; (obtain ⟨zp, p0, p1, p2, p3, p4, p5, p6, p7, p8, zs, s0, s1, s2, s3, s4⟩ := HBX.out _ g2)) | (go_at_call 13; first | ((with_reducible refine (HMY.out _).mono ?_); rintro e w3 ⟨rfl, h3⟩; have g3 := g2.trans h3; (obtain ⟨zp, p0, p1, p2, p3, p4, p5, p6, p7, p8, zs, s0, s1, s2, s3, s4⟩ := HBX.out _ g3)) | ((with_reducible refine (HM2.out _).mono ?_); rintro e w4 ⟨rfl, h4⟩; have g34 := ((Gr.refl w3).alloc (.cells #[.string nm, .int .i64 (l + by2), .int .i64 t, .int .i64 a, .int .i64 b] 30)).trans h4; have g4 := g3.trans g34; (obtain ⟨zp, p0, p1, p2, p3, p4, p5, p6, p7, p8, zs, s0, s1, s2, s3, s4⟩ := HBX.out _ g4); obtain ⟨zt, t0, t1, t2, t3, t4⟩ := long_new h4; have HLN := Lib.hid (fun (w' : World) (g : Gr w4 w') => long_new (h4.trans g)))) | (go_at_call 16; (with_reducible refine (HMK.out _ (g0.trans g4)).mono ?_); rintro e w6 ⟨nb, rfl, hnet, h6⟩; have g6 := g4.trans h6; have HNT := Lib.hid hnet; clear hnet; (obtain ⟨zp, p0, p1, p2, p3, p4, p5, p6, p7, p8, zs, s0, s1, s2, s3, s4⟩ := HBX.out _ g6); obtain ⟨zt, t0, t1, t2, t3, t4⟩ := HLN.out _ h6) | (go_at_call 22; first | ((with_reducible refine (HF1.out nb _ (HNT.out)).mono ?_); rintro e w7 ⟨rfl, h7⟩; have g7 := g6.trans h7; (obtain ⟨zp, p0, p1, p2, p3, p4, p5, p6, p7, p8, zs, s0, s1, s2, s3, s4⟩ := HBX.out _ g7); obtain ⟨zt, t0, t1, t2, t3, t4⟩ := HLN.out _ (h6.trans h7)) | ((with_reducible refine (HF2.out nb _ (HNT.out.gr h7)).mono ?_); rintro e w8 ⟨rfl, h8⟩; have g8 := g7.trans h8)) | fail)
      (go_ret; exact ⟨rfl, g0.trans (by assumption)⟩)
    · exact absurd (hle rfl) (by decide)
  · clear hle
    go_enter Tryz.func8, Tryz.ntmps8
    go_wp2_with (first | (go_at_call 21; (with_reducible refine (HKN.out).mono ?_); rintro e w1 ⟨rfl, g1⟩; (obtain ⟨zp, p0, p1, p2, p3, p4, p5, p6, p7, p8, zs, s0, s1, s2, s3, s4⟩ := HBX.out _ g1)) | (go_at_call 12; (with_reducible refine (HFI.out _ (g0.trans g1)).mono ?_); rintro e w2 ⟨rfl, h2⟩; have g2 := g1.trans h2; (obtain ⟨zp, p0, p1, p2, p3, p4, p5, p6, p7, p8, zs, s0, s1, s2, s3, s4⟩ := HBX.out _ g2)) | (go_at_call 13; first | ((with_reducible refine (HMY.out _).mono ?_); rintro e w3 ⟨rfl, h3⟩; have g3 := g2.trans h3; (obtain ⟨zp, p0, p1, p2, p3, p4, p5, p6, p7, p8, zs, s0, s1, s2, s3, s4⟩ := HBX.out _ g3)) | ((with_reducible refine (HM2.out _).mono ?_); rintro e w4 ⟨rfl, h4⟩; have g34 := ((Gr.refl w3).alloc (.cells #[.string nm, .int .i64 (l + by2), .int .i64 t, .int .i64 a, .int .i64 b] 30)).trans h4; have g4 := g3.trans g34; (obtain ⟨zp, p0, p1, p2, p3, p4, p5, p6, p7, p8, zs, s0, s1, s2, s3, s4⟩ := HBX.out _ g4); obtain ⟨zt, t0, t1, t2, t3, t4⟩ := long_new h4; have HLN := Lib.hid (fun (w' : World) (g : Gr w4 w') => long_new (h4.trans g)))) | (go_at_call 16; (with_reducible refine (HMK.out _ (g0.trans g4)).mono ?_); rintro e w6 ⟨nb, rfl, hnet, h6⟩; have g6 := g4.trans h6; have HNT := Lib.hid hnet; clear hnet; (obtain ⟨zp, p0, p1, p2, p3, p4, p5, p6, p7, p8, zs, s0, s1, s2, s3, s4⟩ := HBX.out _ g6); obtain ⟨zt, t0, t1, t2, t3, t4⟩ := HLN.out _ h6) | (go_at_call 22; first | ((with_reducible refine (HF1.out nb _ (HNT.out)).mono ?_); rintro e w7 ⟨rfl, h7⟩; have g7 := g6.trans h7; (obtain ⟨zp, p0, p1, p2, p3, p4, p5, p6, p7, p8, zs, s0, s1, s2, s3, s4⟩ := HBX.out _ g7); obtain ⟨zt, t0, t1, t2, t3, t4⟩ := HLN.out _ (h6.trans h7)) | ((with_reducible refine (HF2.out nb _ (HNT.out.gr h7)).mono ?_); rintro e w8 ⟨rfl, h8⟩; have g8 := g7.trans h8)) | fail)
    (go_ret; exact ⟨rfl, g0.trans (by assumption)⟩)
end Go.Proofs.YtaanepadgoefhaaGreatDoor
