/- The plans' known. -/
import Derived.Test.YtknmngejjoohdaaGreatDoorRows
import Derived.Test.YtknmngejjoohdaaGreatDoorRDrK
import Derived.Test.YtknmngejjoohdaaGreatDoorRDrI
import Derived.Test.YtknmngejjoohdaaGreatDoorRDrQ
import Derived.Test.YtknmngejjoohdaaGreatDoorB16
namespace Go.Proofs.YtknmngejjoohdaaGreatDoor
open Go.ChangeShapes Go.WideShapes Go.ChangeAt Go.RowKit Go.Maps
set_option linter.unusedVariables false
set_option linter.unusedSimpArgs false
set_option maxRecDepth 100000 in
theorem text2_parse : parT ⟨#[112, 108, 97, 110, 32, 49, 48, 32, 53, 32, 49, 53, 32, 50, 32, 115, 111, 102, 116, 10, 116, 114, 97, 99, 107, 32, 65, 32, 50, 48, 10, 115, 105, 103, 110, 97, 108, 32, 97, 32, 66, 46, 49, 10]⟩ = (pln0, 3, 5) := by kernel_rfl
theorem small_chk : chk smallP = 0 := fine_chk small_fine
theorem small_parse : parT (printT smallP) = (smallP, 17, 0) := by rw [parT_print small_chk]; rfl
theorem small_port : portO smallP ⟨#[67, 46, 49]⟩ = some ⟨4, 1⟩ := by kernel_rfl
theorem small_told : toldT smallP ⟨4, 1⟩ = ⟨#[67, 46, 49]⟩ := by kernel_rfl
set_option maxRecDepth 100000 in
set_option maxHeartbeats 4000000 in
theorem known3_any (w : World) (ht : Tabs w) : Calls Tryz.prog 10 #[] w fun e w' => e = .returned (.bool true) ∧ Gr w w' := by
  have HSM : Hid (∀ w', Calls Tryz.prog 33 #[] w' fun e w'' => ∃ v, e = .returned v ∧ IsPln w'' v smallP ∧ Gr w' w'') := fun w' => small_any w'
  have HPR : Hid (∀ pv w', Gr w w' → IsPln w' pv smallP → Calls Tryz.prog 34 #[pv] w' fun e w'' => e = .returned (.tuple #[.string (printT smallP), .int .i64 0]) ∧ Gr w' w'') := fun pv w' g hp => by
    have := drPrint_any pv smallP w' (ht.gr g) hp small_ok (by decide)
    rwa [small_chk, if_pos rfl] at this
  have HPA : Hid (∀ w', Gr w w' → Calls Tryz.prog 11 #[.string (printT smallP)] w' fun e w'' => ∃ v, e = .returned (.tuple #[v, .int .i64 17, .int .i64 0]) ∧ IsPln w'' v smallP ∧ Gr w' w'') := fun w' g => by
    have := drParse_any (printT smallP) (by have := print_size small_chk; omega) w' (shp_gr ht.sh g)
    rw [small_parse] at this
    exact this
  have HP2 : Hid (∀ w', Gr w w' → Calls Tryz.prog 11 #[.string ⟨#[112, 108, 97, 110, 32, 49, 48, 32, 53, 32, 49, 53, 32, 50, 32, 115, 111, 102, 116, 10, 116, 114, 97, 99, 107, 32, 65, 32, 50, 48, 10, 115, 105, 103, 110, 97, 108, 32, 97, 32, 66, 46, 49, 10]⟩] w' fun e w'' => ∃ v, e = .returned (.tuple #[v, .int .i64 3, .int .i64 5]) ∧ IsPln w'' v pln0 ∧ Gr w' w'') := fun w' g => by
    have := drParse_any ⟨#[112, 108, 97, 110, 32, 49, 48, 32, 53, 32, 49, 53, 32, 50, 32, 115, 111, 102, 116, 10, 116, 114, 97, 99, 107, 32, 65, 32, 50, 48, 10, 115, 105, 103, 110, 97, 108, 32, 97, 32, 66, 46, 49, 10]⟩ (by decide) w' (shp_gr ht.sh g)
    rw [text2_parse] at this
    exact this
  have HPO : Hid (∀ pv w', IsPln w' pv smallP → Calls Tryz.prog 35 #[pv, .string ⟨#[67, 46, 49]⟩] w' fun e w'' => e = .returned (.tuple #[.agg #[.int .i64 4, .int .i64 1], .bool true]) ∧ Gr w' w'') := fun pv w' hp => by
    have := dport_any pv smallP ⟨#[67, 46, 49]⟩ (by decide) w' hp
    rw [small_port] at this
    exact this
  have HTO : Hid (∀ pv w', Gr w w' → IsPln w' pv smallP → Calls Tryz.prog 36 #[pv, .agg #[.int .i64 4, .int .i64 1]] w' fun e w'' => e = .returned (.string ⟨#[67, 46, 49]⟩) ∧ Gr w' w'') := fun pv w' g hp => by
    have := dtold_any pv smallP ⟨4, 1⟩ w' (ht.gr g) hp (fun e he => by have := nm_size (fine_ele small_chk e he).1; omega)
    rw [small_told] at this
    exact this
  generalize printT smallP = T at HPR HPA
  generalize smallP = P at *
  generalize pln0 = P0 at HP2
  have tT : ((⟨#[67, 46, 49]⟩ : ByteArray).toList == [67, 46, 49]) = true := by rw [ByteArray.toList_eq]; rfl
  have E1 := prt_eql 4 1 4 1
  rw [decide_eq_true rfl] at E1
  have G1 := prt_guard .eql
  go_enter Tryz.func10, Tryz.ntmps10
  go_upto_region 2 with (first | (go_at_call 33; (with_reducible refine (HSM.out _).mono ?_); rintro e wS ⟨vS, rfl, hPS, gS⟩; have HPS := Lib.hid hPS; obtain ⟨a1, c1, a2, c2, a3, c3, a4, c4, rfl, -⟩ := hPS; unfold plnV at HPS ⊢) | fail)
  have g1 : Gr wS (wS.alloc (.cells #[.slice a1 P.es.length c1, .slice a2 P.js.length c2, .slice a3 P.ss.length c3, .slice a4 P.ls.length c4, .int .i64 P.top, .int .i64 P.brake, .int .i64 P.margin, .int .i64 P.throw, .bool P.hard] 28)) := (Gr.refl _).alloc _
  have HP := Lib.hid (fun (w' : World) (g : Gr (wS.alloc (.cells #[.slice a1 P.es.length c1, .slice a2 P.js.length c2, .slice a3 P.ss.length c3, .slice a4 P.ls.length c4, .int .i64 P.top, .int .i64 P.brake, .int .i64 P.margin, .int .i64 P.throw, .bool P.hard] 28)) w') => (PBox.new wS P (.slice a1 P.es.length c1) (.slice a2 P.js.length c2) (.slice a3 P.ss.length c3) (.slice a4 P.ls.length c4)).gr g)
  have HPI := Lib.hid (fun (w' : World) (g : Gr (wS.alloc (.cells #[.slice a1 P.es.length c1, .slice a2 P.js.length c2, .slice a3 P.ss.length c3, .slice a4 P.ls.length c4, .int .i64 P.top, .int .i64 P.brake, .int .i64 P.margin, .int .i64 P.throw, .bool P.hard] 28)) w') => HPS.out.gr (g1.trans g))
  have GA := Lib.hid (gS.trans g1)
  clear HPS HSM g1
  obtain ⟨zp, p0, p1, p2, p3, p4, p5, p6, p7, p8⟩ := HP.out _ (Gr.refl _)
  generalize wS.alloc (.cells #[.slice a1 P.es.length c1, .slice a2 P.js.length c2, .slice a3 P.ss.length c3, .slice a4 P.ls.length c4, .int .i64 P.top, .int .i64 P.brake, .int .i64 P.margin, .int .i64 P.throw, .bool P.hard] 28) = wa at *
  generalize wS.heap.size = pb at *
  go_upto_region 4 with (first | (go_at_call 34; (with_reducible refine (HPR.out _ _ GA.out (HPI.out _ (Gr.refl _))).mono ?_); rintro e wP ⟨rfl, gP⟩; obtain ⟨zp, p0, p1, p2, p3, p4, p5, p6, p7, p8⟩ := HP.out _ (gP)) | (go_at_call 11; (with_reducible refine (HPA.out _ (GA.out.trans gP)).mono ?_); rintro e wQ ⟨vQ, rfl, hPQ, gQ⟩; have HPQ := Lib.hid hPQ; obtain ⟨b1, d1, b2, d2, b3, d3, b4, d4, rfl, -⟩ := hPQ; unfold plnV at HPQ ⊢; obtain ⟨zp, p0, p1, p2, p3, p4, p5, p6, p7, p8⟩ := HP.out _ (gP.trans gQ)) | fail)
  have g2 : Gr wQ (wQ.alloc (.cells #[.slice b1 P.es.length d1, .slice b2 P.js.length d2, .slice b3 P.ss.length d3, .slice b4 P.ls.length d4, .int .i64 P.top, .int .i64 P.brake, .int .i64 P.margin, .int .i64 P.throw, .bool P.hard] 28)) := (Gr.refl _).alloc _
  have HQ := Lib.hid (fun (w' : World) (g : Gr (wQ.alloc (.cells #[.slice b1 P.es.length d1, .slice b2 P.js.length d2, .slice b3 P.ss.length d3, .slice b4 P.ls.length d4, .int .i64 P.top, .int .i64 P.brake, .int .i64 P.margin, .int .i64 P.throw, .bool P.hard] 28)) w') => (PBox.new wQ P (.slice b1 P.es.length d1) (.slice b2 P.js.length d2) (.slice b3 P.ss.length d3) (.slice b4 P.ls.length d4)).gr g)
  have HQI := Lib.hid (fun (w' : World) (g : Gr (wQ.alloc (.cells #[.slice b1 P.es.length d1, .slice b2 P.js.length d2, .slice b3 P.ss.length d3, .slice b4 P.ls.length d4, .int .i64 P.top, .int .i64 P.brake, .int .i64 P.margin, .int .i64 P.throw, .bool P.hard] 28)) w') => HPQ.out.gr (g2.trans g))
  have gAB := (gP.trans gQ).trans g2
  clear HPQ HPA HPR g2
  obtain ⟨zp, p0, p1, p2, p3, p4, p5, p6, p7, p8⟩ := HP.out _ (gAB)
  obtain ⟨zq, q0, q1, q2, q3, q4, q5, q6, q7, q8⟩ := HQ.out _ (Gr.refl _)
  generalize wQ.alloc (.cells #[.slice b1 P.es.length d1, .slice b2 P.js.length d2, .slice b3 P.ss.length d3, .slice b4 P.ls.length d4, .int .i64 P.top, .int .i64 P.brake, .int .i64 P.margin, .int .i64 P.throw, .bool P.hard] 28) = wb at *
  generalize wQ.heap.size = qb at *
  go_upto_region 5 with (first | (go_at_call 11; (with_reducible refine (HP2.out _ (GA.out.trans gAB)).mono ?_); rintro e wR ⟨vR, rfl, hPR, gR⟩; obtain ⟨e1, f1, e2, f2, e3, f3, e4, f4, rfl, -⟩ := hPR; unfold plnV; obtain ⟨zp, p0, p1, p2, p3, p4, p5, p6, p7, p8⟩ := HP.out _ (gAB.trans gR); obtain ⟨zq, q0, q1, q2, q3, q4, q5, q6, q7, q8⟩ := HQ.out _ (gR)) | fail)
  have g3 : Gr wR (wR.alloc (.cells #[.slice e1 P0.es.length f1, .slice e2 P0.js.length f2, .slice e3 P0.ss.length f3, .slice e4 P0.ls.length f4, .int .i64 P0.top, .int .i64 P0.brake, .int .i64 P0.margin, .int .i64 P0.throw, .bool P0.hard] 28)) := (Gr.refl _).alloc _
  have gQC := gR.trans g3
  have gAC := gAB.trans gQC
  clear HP2 g3
  obtain ⟨zp, p0, p1, p2, p3, p4, p5, p6, p7, p8⟩ := HP.out _ (gAC)
  obtain ⟨zq, q0, q1, q2, q3, q4, q5, q6, q7, q8⟩ := HQ.out _ (gQC)
  generalize wR.alloc (.cells #[.slice e1 P0.es.length f1, .slice e2 P0.js.length f2, .slice e3 P0.ss.length f3, .slice e4 P0.ls.length f4, .int .i64 P0.top, .int .i64 P0.brake, .int .i64 P0.margin, .int .i64 P0.throw, .bool P0.hard] 28) = wc at *
  go_upto_region 6 with (first | (go_at_call 35; (with_reducible refine (HPO.out _ _ (HPI.out _ gAC)).mono ?_); rintro e wO ⟨rfl, gO⟩; obtain ⟨zp, p0, p1, p2, p3, p4, p5, p6, p7, p8⟩ := HP.out _ (gAC.trans gO); obtain ⟨zq, q0, q1, q2, q3, q4, q5, q6, q7, q8⟩ := HQ.out _ (gQC.trans gO)) | fail)
  have g4 : Gr wO (wO.alloc (.cells #[.int .i64 4, .int .i64 1] 67)) := (Gr.refl _).alloc _
  have zx : wO.heap.size < (wO.alloc (.cells #[.int .i64 4, .int .i64 1] 67)).heap.size := by simp
  have HX := Lib.hid (fun (w' : World) (g : Gr (wO.alloc (.cells #[.int .i64 4, .int .i64 1] 67)) w') => (⟨Nat.lt_of_lt_of_le zx g.size, (g.cell _ _ zx).trans (by go_simp), (g.cell _ _ zx).trans (by go_simp)⟩ : wO.heap.size < w'.heap.size ∧ w'.cell? ⟨wO.heap.size, 0, none⟩ = some (.int .i64 4) ∧ w'.cell? ⟨wO.heap.size, 1, none⟩ = some (.int .i64 1)))
  have gAX := (gAC.trans gO).trans g4
  have gQX := (gQC.trans gO).trans g4
  clear HPO g4 zx
  obtain ⟨zp, p0, p1, p2, p3, p4, p5, p6, p7, p8⟩ := HP.out _ (gAX)
  obtain ⟨zq, q0, q1, q2, q3, q4, q5, q6, q7, q8⟩ := HQ.out _ (gQX)
  obtain ⟨zx, x0, x1⟩ := HX.out _ (Gr.refl _)
  generalize wO.alloc (.cells #[.int .i64 4, .int .i64 1] 67) = wx at *
  generalize wO.heap.size = xb at *
  go_wp2_with (first | (go_at_call 13; (with_reducible refine (refSameP_any _ _ P _ (HPI.out _ gAX) (HQI.out _ gQX)).mono ?_); rintro e wS2 ⟨rfl, gS2⟩; obtain ⟨zp, p0, p1, p2, p3, p4, p5, p6, p7, p8⟩ := HP.out _ (gAX.trans gS2); obtain ⟨zx, x0, x1⟩ := HX.out _ gS2) | (go_at_call 36; (with_reducible refine (HTO.out _ _ ((GA.out.trans gAX).trans gS2) (HPI.out _ (gAX.trans gS2))).mono ?_); rintro e wT ⟨rfl, gT⟩) | fail)
  go_ret
  exact ⟨rfl, ((GA.out.trans gAX).trans gS2).trans gT⟩
end Go.Proofs.YtknmngejjoohdaaGreatDoor
