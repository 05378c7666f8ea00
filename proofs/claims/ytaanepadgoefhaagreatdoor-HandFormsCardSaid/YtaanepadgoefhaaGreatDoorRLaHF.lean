/- HandForms. -/
import Derived.Test.YtaanepadgoefhaaGreatDoorRows
import Derived.Test.YtaanepadgoefhaaGreatDoorRKn25
import Derived.Test.YtaanepadgoefhaaGreatDoorRPacM
import Derived.Test.YtaanepadgoefhaaGreatDoorRRac
import Derived.Test.YtaanepadgoefhaaGreatDoorRMbg
import Derived.Test.YtaanepadgoefhaaGreatDoorROpnS
import Derived.Test.YtaanepadgoefhaaGreatDoorROpnB
import Derived.Test.YtaanepadgoefhaaGreatDoorROpnD
import Derived.Test.YtaanepadgoefhaaGreatDoorROpnL
import Derived.Test.YtaanepadgoefhaaGreatDoorROpnV
import Derived.Test.YtaanepadgoefhaaGreatDoorRDrv1
namespace Go.Proofs.YtaanepadgoefhaaGreatDoor
open Go.ChangeShapes Go.WideShapes Go.ChangeAt Go.RowKit Go.Maps
set_option linter.unusedVariables false
set_option linter.unusedSimpArgs false
theorem mayD_kind3 {D : Drv} (h : mayD D = true) : D.kind = 1 ∨ D.kind = 2 ∨ D.kind = 3 := by
  by_cases h1 : D.kind = 1 ∨ D.kind = 2
  · rcases h1 with h1 | h1
    · exact .inl h1
    · exact .inr (.inl h1)
  · by_cases h3 : D.kind = 3
    · exact .inr (.inr h3)
    · rw [mayD_none h1 h3] at h; cases h
set_option maxRecDepth 100000 in
set_option maxHeartbeats 4000000 in
theorem handForms_walk (pv : Value) (P : Pln) (posv : Value) (pos : List Int) (lv : Value) (L : List Int) (sv : Value) (s : Stk) (bv : Value) (B : Bdy) (dv : Value) (D : Drv) (tick sees : Int) (turn : Bool) (w : World) (hs0 : w.ShapedOpen Tryz.prog)
    (hP : IsPln w pv P ∧ PlnOk P) (hpos : IsVals w posv (pos.map (Value.int .i64)) ∧ ∀ n ∈ pos, (Lit.int .i64 n).wf = true) (hL : IsVals w lv (L.map (Value.int .i64)) ∧ ∀ n ∈ L, (Lit.int .i64 n).wf = true) (hs : IsStk sv s) (hB : IsBdy w bv B ∧ (∀ x ∈ B.trail, PrtOk x) ∧ I64 B.mode ∧ I64 B.left ∧ I64 B.over ∧ I64 B.v) (hD : IsDrv w dv D ∧ I64 D.kind ∧ ∀ x ∈ D.tape, I64 x)
    (wt : (Lit.int .i64 tick).wf = true) (ws : (Lit.int .i64 sees).wf = true) :
    Calls Tryz.prog 3 #[pv, posv, lv, sv, bv, dv, .int .i64 tick, .int .i64 sees, .bool turn] w fun e w' => e = .returned (.bool true) ∧ Gr w w' := by
  obtain ⟨hP, hpk⟩ := hP
  have HPI := Lib.hid hP
  have HPK := Lib.hid hpk
  obtain ⟨a1, c1, a2, c2, a3, c3, a4, c4, rfl, -⟩ := hP
  obtain ⟨hpos, -⟩ := hpos
  have HPO := Lib.hid hpos
  obtain ⟨pa, pc, rfl, hpm, -⟩ := hpos
  obtain ⟨hL, -⟩ := hL
  have HLA := Lib.hid hL
  obtain ⟨la, lc, rfl, hlm, -⟩ := hL
  rw [List.length_map] at HPO HLA hpm hlm ⊢
  rw [List.length_map]
  unfold maxLen at hpm hlm
  obtain ⟨nm, l, t, a, b⟩ := s
  obtain ⟨rfl, hsz, -⟩ := hs
  dsimp only at hsz ⊢
  obtain ⟨hB, hTO, -⟩ := hB
  have HBD := Lib.hid hB
  have HTO := Lib.hid hTO
  obtain ⟨ta, tc, rfl, ht⟩ := hB
  have htm := IsRow.len ht
  unfold maxLen at htm
  obtain ⟨mode, T, left, over, v⟩ := B
  obtain ⟨hD, -⟩ := hD
  have HDR := Lib.hid hD
  obtain ⟨da, dc, rfl, hd⟩ := hD
  have hdm : D.tape.length ≤ maxLen := by obtain ⟨_, _, e, hm, -⟩ := hd; simpa using hm
  unfold maxLen at hdm
  obtain ⟨kind, tape⟩ := D
  unfold plnV bdyV drvV at *
  dsimp only at *
  clear ht hd hTO hpk
  have g0 : Gr w ((((w.alloc (.cells #[.slice a1 P.es.length c1, .slice a2 P.js.length c2, .slice a3 P.ss.length c3, .slice a4 P.ls.length c4, .int .i64 P.top, .int .i64 P.brake, .int .i64 P.margin, .int .i64 P.throw, .bool P.hard] 27)).alloc (.cells #[.string nm, .int .i64 l, .int .i64 t, .int .i64 a, .int .i64 b] 30)).alloc (.cells #[.int .i64 mode, .slice ta T.length tc, .int .i64 left, .int .i64 over, .int .i64 v] 33)).alloc (.cells #[.int .i64 kind, .slice da tape.length dc] 35)) := ((((Gr.refl _).alloc _).alloc _).alloc _).alloc _
  have HBX : Hid (∀ w', Gr ((((w.alloc (.cells #[.slice a1 P.es.length c1, .slice a2 P.js.length c2, .slice a3 P.ss.length c3, .slice a4 P.ls.length c4, .int .i64 P.top, .int .i64 P.brake, .int .i64 P.margin, .int .i64 P.throw, .bool P.hard] 27)).alloc (.cells #[.string nm, .int .i64 l, .int .i64 t, .int .i64 a, .int .i64 b] 30)).alloc (.cells #[.int .i64 mode, .slice ta T.length tc, .int .i64 left, .int .i64 over, .int .i64 v] 33)).alloc (.cells #[.int .i64 kind, .slice da tape.length dc] 35)) w' → w.heap.size < w'.heap.size ∧ w'.cell? ⟨w.heap.size, 0, none⟩ = some (.slice a1 P.es.length c1) ∧ w'.cell? ⟨w.heap.size, 1, none⟩ = some (.slice a2 P.js.length c2) ∧ w'.cell? ⟨w.heap.size, 2, none⟩ = some (.slice a3 P.ss.length c3) ∧ w'.cell? ⟨w.heap.size, 3, none⟩ = some (.slice a4 P.ls.length c4) ∧ w'.cell? ⟨w.heap.size, 4, none⟩ = some (.int .i64 P.top) ∧ w'.cell? ⟨w.heap.size, 5, none⟩ = some (.int .i64 P.brake) ∧ w'.cell? ⟨w.heap.size, 6, none⟩ = some (.int .i64 P.margin) ∧ w'.cell? ⟨w.heap.size, 7, none⟩ = some (.int .i64 P.throw) ∧ w'.cell? ⟨w.heap.size, 8, none⟩ = some (.bool P.hard) ∧ w.heap.size + 1 < w'.heap.size ∧ w'.cell? ⟨w.heap.size + 1, 0, none⟩ = some (.string nm) ∧ w'.cell? ⟨w.heap.size + 1, 1, none⟩ = some (.int .i64 l) ∧ w'.cell? ⟨w.heap.size + 1, 2, none⟩ = some (.int .i64 t) ∧ w'.cell? ⟨w.heap.size + 1, 3, none⟩ = some (.int .i64 a) ∧ w'.cell? ⟨w.heap.size + 1, 4, none⟩ = some (.int .i64 b) ∧ w.heap.size + 1 + 1 < w'.heap.size ∧ w'.cell? ⟨w.heap.size + 1 + 1, 0, none⟩ = some (.int .i64 mode) ∧ w'.cell? ⟨w.heap.size + 1 + 1, 1, none⟩ = some (.slice ta T.length tc) ∧ w'.cell? ⟨w.heap.size + 1 + 1, 2, none⟩ = some (.int .i64 left) ∧ w'.cell? ⟨w.heap.size + 1 + 1, 3, none⟩ = some (.int .i64 over) ∧ w'.cell? ⟨w.heap.size + 1 + 1, 4, none⟩ = some (.int .i64 v) ∧ w.heap.size + 1 + 1 + 1 < w'.heap.size ∧ w'.cell? ⟨w.heap.size + 1 + 1 + 1, 0, none⟩ = some (.int .i64 kind) ∧ w'.cell? ⟨w.heap.size + 1 + 1 + 1, 1, none⟩ = some (.slice da tape.length dc)) := by
    intro w' g
    have z3 : w.heap.size + 1 + 1 + 1 < (((((w.alloc (.cells #[.slice a1 P.es.length c1, .slice a2 P.js.length c2, .slice a3 P.ss.length c3, .slice a4 P.ls.length c4, .int .i64 P.top, .int .i64 P.brake, .int .i64 P.margin, .int .i64 P.throw, .bool P.hard] 27)).alloc (.cells #[.string nm, .int .i64 l, .int .i64 t, .int .i64 a, .int .i64 b] 30)).alloc (.cells #[.int .i64 mode, .slice ta T.length tc, .int .i64 left, .int .i64 over, .int .i64 v] 33)).alloc (.cells #[.int .i64 kind, .slice da tape.length dc] 35))).heap.size := by simp
    have z2 : w.heap.size + 1 + 1 < (((((w.alloc (.cells #[.slice a1 P.es.length c1, .slice a2 P.js.length c2, .slice a3 P.ss.length c3, .slice a4 P.ls.length c4, .int .i64 P.top, .int .i64 P.brake, .int .i64 P.margin, .int .i64 P.throw, .bool P.hard] 27)).alloc (.cells #[.string nm, .int .i64 l, .int .i64 t, .int .i64 a, .int .i64 b] 30)).alloc (.cells #[.int .i64 mode, .slice ta T.length tc, .int .i64 left, .int .i64 over, .int .i64 v] 33)).alloc (.cells #[.int .i64 kind, .slice da tape.length dc] 35))).heap.size := by omega
    have z1 : w.heap.size + 1 < (((((w.alloc (.cells #[.slice a1 P.es.length c1, .slice a2 P.js.length c2, .slice a3 P.ss.length c3, .slice a4 P.ls.length c4, .int .i64 P.top, .int .i64 P.brake, .int .i64 P.margin, .int .i64 P.throw, .bool P.hard] 27)).alloc (.cells #[.string nm, .int .i64 l, .int .i64 t, .int .i64 a, .int .i64 b] 30)).alloc (.cells #[.int .i64 mode, .slice ta T.length tc, .int .i64 left, .int .i64 over, .int .i64 v] 33)).alloc (.cells #[.int .i64 kind, .slice da tape.length dc] 35))).heap.size := by omega
    have z0 : w.heap.size < (((((w.alloc (.cells #[.slice a1 P.es.length c1, .slice a2 P.js.length c2, .slice a3 P.ss.length c3, .slice a4 P.ls.length c4, .int .i64 P.top, .int .i64 P.brake, .int .i64 P.margin, .int .i64 P.throw, .bool P.hard] 27)).alloc (.cells #[.string nm, .int .i64 l, .int .i64 t, .int .i64 a, .int .i64 b] 30)).alloc (.cells #[.int .i64 mode, .slice ta T.length tc, .int .i64 left, .int .i64 over, .int .i64 v] 33)).alloc (.cells #[.int .i64 kind, .slice da tape.length dc] 35))).heap.size := by omega
    refine ⟨Nat.lt_of_lt_of_le z0 g.size, (g.cell _ _ z0).trans ?_, (g.cell _ _ z0).trans ?_, (g.cell _ _ z0).trans ?_, (g.cell _ _ z0).trans ?_, (g.cell _ _ z0).trans ?_, (g.cell _ _ z0).trans ?_, (g.cell _ _ z0).trans ?_, (g.cell _ _ z0).trans ?_, (g.cell _ _ z0).trans ?_, Nat.lt_of_lt_of_le z1 g.size, (g.cell _ _ z1).trans ?_, (g.cell _ _ z1).trans ?_, (g.cell _ _ z1).trans ?_, (g.cell _ _ z1).trans ?_, (g.cell _ _ z1).trans ?_, Nat.lt_of_lt_of_le z2 g.size, (g.cell _ _ z2).trans ?_, (g.cell _ _ z2).trans ?_, (g.cell _ _ z2).trans ?_, (g.cell _ _ z2).trans ?_, (g.cell _ _ z2).trans ?_, Nat.lt_of_lt_of_le z3 g.size, (g.cell _ _ z3).trans ?_, (g.cell _ _ z3).trans ?_⟩
    all_goals go_simp
  have HKN := Lib.hid (known25_any _ (shp_gr hs0 g0))
  have HFI := Lib.hid (fun (w' : World) (g : Gr w w') => fine_any _ P w' (HPI.out.gr g) HPK.out)
  have HMY := Lib.hid (fun w' => may_any nm l t a b hsz w')
  have HPT := Lib.hid (mayB_parts (nm := nm) (l := l) (t := t) (a := a) (b := b))
  have HMD := Lib.hid (fun (w' : World) (g : Gr w w') => refMayD_any _ ⟨kind, tape⟩ w' (HDR.out.gr g))
  have HK3 := Lib.hid (mayD_kind3 (D := ⟨kind, tape⟩))
  have HFC := Lib.hid (fine_chk (P := P))
  have HMK0 := Lib.hid (fun (hf : fineB P = true) (w' : World) (g : Gr w w') => made_fine _ P w' (HPI.out.gr g) HPK.out hf)
  unfold drvV at HMD
  try dsimp only at HMD
  by_cases n1 : 100 < pos.length
  · have n1' : 100 < (pos.length : Int) := by omega
    go_enter Tryz.func3, Tryz.ntmps3
    go_wp2_with (first | (go_at_call 11; (with_reducible refine (HKN.out).mono ?_); rintro e w1 ⟨rfl, g1⟩; (obtain ⟨zp, p0, p1, p2, p3, p4, p5, p6, p7, p8, zs, s0, s1, s2, s3, s4, zt, t0, t1, t2, t3, t4, zd, d0, d1⟩ := HBX.out _ g1)) | fail)
    (go_ret; exact ⟨rfl, g0.trans (by assumption)⟩)
  have n1' : ¬ 100 < (pos.length : Int) := by omega
  by_cases n2 : 100 < L.length
  · have n2' : 100 < (L.length : Int) := by omega
    go_enter Tryz.func3, Tryz.ntmps3
    go_wp2_with (first | (go_at_call 11; (with_reducible refine (HKN.out).mono ?_); rintro e w1 ⟨rfl, g1⟩; (obtain ⟨zp, p0, p1, p2, p3, p4, p5, p6, p7, p8, zs, s0, s1, s2, s3, s4, zt, t0, t1, t2, t3, t4, zd, d0, d1⟩ := HBX.out _ g1)) | fail)
    (go_ret; exact ⟨rfl, g0.trans (by assumption)⟩)
  have n2' : ¬ 100 < (L.length : Int) := by omega
  by_cases n3 : 5000 < T.length
  · have n3' : 5000 < (T.length : Int) := by omega
    go_enter Tryz.func3, Tryz.ntmps3
    go_wp2_with (first | (go_at_call 11; (with_reducible refine (HKN.out).mono ?_); rintro e w1 ⟨rfl, g1⟩; (obtain ⟨zp, p0, p1, p2, p3, p4, p5, p6, p7, p8, zs, s0, s1, s2, s3, s4, zt, t0, t1, t2, t3, t4, zd, d0, d1⟩ := HBX.out _ g1)) | fail)
    (go_ret; exact ⟨rfl, g0.trans (by assumption)⟩)
  have n3' : ¬ 5000 < (T.length : Int) := by omega
  by_cases n4 : 100 < tape.length
  · have n4' : 100 < (tape.length : Int) := by omega
    go_enter Tryz.func3, Tryz.ntmps3
    go_wp2_with (first | (go_at_call 11; (with_reducible refine (HKN.out).mono ?_); rintro e w1 ⟨rfl, g1⟩; (obtain ⟨zp, p0, p1, p2, p3, p4, p5, p6, p7, p8, zs, s0, s1, s2, s3, s4, zt, t0, t1, t2, t3, t4, zd, d0, d1⟩ := HBX.out _ g1)) | fail)
    (go_ret; exact ⟨rfl, g0.trans (by assumption)⟩)
  have n4' : ¬ 100 < (tape.length : Int) := by omega
  generalize fineB P = fb at HFI HFC HMK0
  cases fb
  · go_enter Tryz.func3, Tryz.ntmps3
    go_wp2_with (first | (go_at_call 11; (with_reducible refine (HKN.out).mono ?_); rintro e w1 ⟨rfl, g1⟩; (obtain ⟨zp, p0, p1, p2, p3, p4, p5, p6, p7, p8, zs, s0, s1, s2, s3, s4, zt, t0, t1, t2, t3, t4, zd, d0, d1⟩ := HBX.out _ g1)) | (go_at_call 12; (with_reducible refine (HFI.out _ (g0.trans g1)).mono ?_); rintro e w2 ⟨rfl, h2⟩; have g2 := g1.trans h2; (obtain ⟨zp, p0, p1, p2, p3, p4, p5, p6, p7, p8, zs, s0, s1, s2, s3, s4, zt, t0, t1, t2, t3, t4, zd, d0, d1⟩ := HBX.out _ g2)) | fail)
    (go_ret; exact ⟨rfl, g0.trans (by assumption)⟩)
  have hck := HFC.out rfl
  have HMK := Lib.hid (HMK0.out rfl)
  clear HFC HMK0
  generalize mayB nm l t a b = m at HMY HPT
  cases m
  · go_enter Tryz.func3, Tryz.ntmps3
    go_wp2_with (first | (go_at_call 11; (with_reducible refine (HKN.out).mono ?_); rintro e w1 ⟨rfl, g1⟩; (obtain ⟨zp, p0, p1, p2, p3, p4, p5, p6, p7, p8, zs, s0, s1, s2, s3, s4, zt, t0, t1, t2, t3, t4, zd, d0, d1⟩ := HBX.out _ g1)) | (go_at_call 12; (with_reducible refine (HFI.out _ (g0.trans g1)).mono ?_); rintro e w2 ⟨rfl, h2⟩; have g2 := g1.trans h2; (obtain ⟨zp, p0, p1, p2, p3, p4, p5, p6, p7, p8, zs, s0, s1, s2, s3, s4, zt, t0, t1, t2, t3, t4, zd, d0, d1⟩ := HBX.out _ g2)) | (go_at_call 13; (with_reducible refine (HMY.out _).mono ?_); rintro e w3 ⟨rfl, h3⟩; have g3 := g2.trans h3; (obtain ⟨zp, p0, p1, p2, p3, p4, p5, p6, p7, p8, zs, s0, s1, s2, s3, s4, zt, t0, t1, t2, t3, t4, zd, d0, d1⟩ := HBX.out _ g3)) | fail)
    (go_ret; exact ⟨rfl, g0.trans (by assumption)⟩)
  obtain ⟨-, -, hT, hA, hBr⟩ := HPT.out rfl
  clear HPT
  have HMB := Lib.hid (fun (w' : World) (g : Gr w w') => mayBody_any _ _ P ⟨mode, T, left, over, v⟩ l w' (HPI.out.gr g) hck (HBD.out.gr g) (by show T.length ≤ 5000; omega))
  have HSE := Lib.hid (fun (nb : Nat) (w' : World) (g : Gr w w') (hn : NetIs w' nb P) => sees_any nb P _ _ _ pos L ⟨mode, T, left, over, v⟩ w' hn (HPO.out.gr g) (HLA.out.gr g) (HBD.out.gr g) HPK.out HTO.out (fun m => (fine_len hck m).1))
  have HSR := Lib.hid (fun (hok : BdyOk ⟨mode, T, left, over, v⟩) (w' : World) (g : Gr w w') => refSees_any _ _ _ _ P pos L ⟨mode, T, left, over, v⟩ w' (HPI.out.gr g) HPK.out hck (HPO.out.gr g) (HLA.out.gr g) (HBD.out.gr g) HTO.out hok.1 hok.2)
  have HAC := Lib.hid (fun (w' : World) (g : Gr w w') => act_any ⟨kind, tape⟩ _ _ ⟨mode, T, left, over, v⟩ nm l t a b tick sees turn hT hA hBr w' (HDR.out.gr g) (HBD.out.gr g))
  have HAR := Lib.hid (fun (hk : kind = 1 ∨ kind = 2 ∨ kind = 3) (w' : World) (g : Gr w w') => refAct_any ⟨kind, tape⟩ _ _ ⟨mode, T, left, over, v⟩ nm l t a b tick sees turn hT hA hBr w' (HDR.out.gr g) (HBD.out.gr g) hk)
  try unfold plnV at *
  try unfold bdyV at *
  try unfold drvV at *
  unfold actR at HAC HAR
  try dsimp only at HMB HSE HSR HAC HAR
  generalize seesP P pos L ⟨mode, T, left, over, v⟩ = S at HSE HSR
  generalize actP ⟨kind, tape⟩ tick t a b ⟨mode, T, left, over, v⟩ sees turn = R at HAC HAR
  obtain ⟨r1, r2⟩ := R
  try dsimp only at HAC HAR
  have ss : (S == S) = true := by simp
  have E1 : ∀ w, (binOp .eql 46 (.agg #[.int .i64 r1, .bool r2]) (.agg #[.int .i64 r1, .bool r2])).run Tryz.prog w = .ok (.bool true) w := fun w => by rw [act_eql]; simp
  have GG := act_guard .eql
  generalize mayD ⟨kind, tape⟩ = d at HMD HK3
  cases d
  · go_enter Tryz.func3, Tryz.ntmps3
    go_wp2_with (first | (go_at_call 11; (with_reducible refine (HKN.out).mono ?_); rintro e w1 ⟨rfl, g1⟩; (obtain ⟨zp, p0, p1, p2, p3, p4, p5, p6, p7, p8, zs, s0, s1, s2, s3, s4, zt, t0, t1, t2, t3, t4, zd, d0, d1⟩ := HBX.out _ g1)) | (go_at_call 12; (with_reducible refine (HFI.out _ (g0.trans g1)).mono ?_); rintro e w2 ⟨rfl, h2⟩; have g2 := g1.trans h2; (obtain ⟨zp, p0, p1, p2, p3, p4, p5, p6, p7, p8, zs, s0, s1, s2, s3, s4, zt, t0, t1, t2, t3, t4, zd, d0, d1⟩ := HBX.out _ g2)) | (go_at_call 13; (with_reducible refine (HMY.out _).mono ?_); rintro e w3 ⟨rfl, h3⟩; have g3 := g2.trans h3; (obtain ⟨zp, p0, p1, p2, p3, p4, p5, p6, p7, p8, zs, s0, s1, s2, s3, s4, zt, t0, t1, t2, t3, t4, zd, d0, d1⟩ := HBX.out _ g3)) | (go_at_call 14; (with_reducible refine (HMB.out _ (g0.trans g3)).mono ?_); rintro e w4 ⟨m, rfl, h4, hok⟩; have g4 := g3.trans h4; (obtain ⟨zp, p0, p1, p2, p3, p4, p5, p6, p7, p8, zs, s0, s1, s2, s3, s4, zt, t0, t1, t2, t3, t4, zd, d0, d1⟩ := HBX.out _ g4); rcases m with _ | _) | fail)
    all_goals (try go_wp2_with (first | (go_at_call 15; (with_reducible refine (HMD.out _ (g0.trans g4)).mono ?_); rintro e w5 ⟨rfl, h5⟩; have g5 := g4.trans h5; (obtain ⟨zp, p0, p1, p2, p3, p4, p5, p6, p7, p8, zs, s0, s1, s2, s3, s4, zt, t0, t1, t2, t3, t4, zd, d0, d1⟩ := HBX.out _ g5)) | fail))
    all_goals (go_ret; exact ⟨rfl, g0.trans (by assumption)⟩)
  have hk3 := HK3.out rfl
  go_enter Tryz.func3, Tryz.ntmps3
  go_wp2_with (first | (go_at_call 11; (with_reducible refine (HKN.out).mono ?_); rintro e w1 ⟨rfl, g1⟩; (obtain ⟨zp, p0, p1, p2, p3, p4, p5, p6, p7, p8, zs, s0, s1, s2, s3, s4, zt, t0, t1, t2, t3, t4, zd, d0, d1⟩ := HBX.out _ g1)) | (go_at_call 12; (with_reducible refine (HFI.out _ (g0.trans g1)).mono ?_); rintro e w2 ⟨rfl, h2⟩; have g2 := g1.trans h2; (obtain ⟨zp, p0, p1, p2, p3, p4, p5, p6, p7, p8, zs, s0, s1, s2, s3, s4, zt, t0, t1, t2, t3, t4, zd, d0, d1⟩ := HBX.out _ g2)) | (go_at_call 13; (with_reducible refine (HMY.out _).mono ?_); rintro e w3 ⟨rfl, h3⟩; have g3 := g2.trans h3; (obtain ⟨zp, p0, p1, p2, p3, p4, p5, p6, p7, p8, zs, s0, s1, s2, s3, s4, zt, t0, t1, t2, t3, t4, zd, d0, d1⟩ := HBX.out _ g3)) | (go_at_call 14; (with_reducible refine (HMB.out _ (g0.trans g3)).mono ?_); rintro e w4 ⟨m, rfl, h4, hok⟩; have g4 := g3.trans h4; (obtain ⟨zp, p0, p1, p2, p3, p4, p5, p6, p7, p8, zs, s0, s1, s2, s3, s4, zt, t0, t1, t2, t3, t4, zd, d0, d1⟩ := HBX.out _ g4); rcases m with _ | _) | fail)
  all_goals (try go_wp2_with (first | (go_at_call 15; (with_reducible refine (HMD.out _ (g0.trans g4)).mono ?_); rintro e w5 ⟨rfl, h5⟩; have g5 := g4.trans h5; (obtain ⟨zp, p0, p1, p2, p3, p4, p5, p6, p7, p8, zs, s0, s1, s2, s3, s4, zt, t0, t1, t2, t3, t4, zd, d0, d1⟩ := HBX.out _ g5)) | (go_at_call 16; (with_reducible refine (HMK.out _ (g0.trans g5)).mono ?_); rintro e w6 ⟨nb, rfl, hnet, h6⟩; have g6 := g5.trans h6; have HNT := Lib.hid hnet; clear hnet; (obtain ⟨zp, p0, p1, p2, p3, p4, p5, p6, p7, p8, zs, s0, s1, s2, s3, s4, zt, t0, t1, t2, t3, t4, zd, d0, d1⟩ := HBX.out _ g6)) | fail))
  all_goals first
    | ((go_ret; exact ⟨rfl, g0.trans (by assumption)⟩); done)
    | (have hcb := fun (i : GrW w6) (o : Nat) => GrW.cell zp i o
       have hcs := fun (i : GrW w6) (o : Nat) => GrW.cell zs i o
       have hct := fun (i : GrW w6) (o : Nat) => GrW.cell zt i o
       have hcd := fun (i : GrW w6) (o : Nat) => GrW.cell zd i o
       have gw6 := g0.trans g6
       have HS1 := Lib.hid (fun (w' : World) (g : Gr w6 w') => HSE.out nb w' (gw6.trans g) (HNT.out.gr g))
       have HS2 := Lib.hid (HSR.out (hok (by trivial)))
       have HA2 := Lib.hid (HAR.out hk3)
       clear HSE HSR HAR HNT hok
       (refine wp_region_gr (by kernel_rfl) (by kernel_rfl) ?_; (repeat (go_big_quiet_step ((first | (go_at_call 17; exact Calls.gr_of (HS1.out _ (GrW.gr _))) | (go_at_call 18; exact Calls.gr_of (HS2.out _ (gw6.trans (GrW.gr _)))) | (go_at_call 19; exact Calls.gr_of (HAC.out _ (gw6.trans (GrW.gr _)))) | (go_at_call 20; exact Calls.gr_of (HA2.out _ (gw6.trans (GrW.gr _)))))))); refine wpQuiet_nil ?_; intro wz hz; obtain ⟨iz, hz⟩ := hz; obtain ⟨wn, gn⟩ := iz; dsimp only at hz; obtain rfl := hz.symm)
       go_wp2_with fail
       go_ret
       exact ⟨rfl, gw6.trans gn⟩)
end Go.Proofs.YtaanepadgoefhaaGreatDoor
