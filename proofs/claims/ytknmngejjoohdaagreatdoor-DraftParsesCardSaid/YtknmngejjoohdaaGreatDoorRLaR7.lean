/- DraftParses. -/
import Derived.Test.YtknmngejjoohdaaGreatDoorRows
import Derived.Test.YtknmngejjoohdaaGreatDoorRDrKn
import Derived.Test.YtknmngejjoohdaaGreatDoorRDrP4
namespace Go.Proofs.YtknmngejjoohdaaGreatDoor
open Go.ChangeShapes Go.WideShapes Go.ChangeAt Go.RowKit Go.Maps
set_option linter.unusedVariables false
set_option linter.unusedSimpArgs false
set_option maxRecDepth 100000 in
set_option maxHeartbeats 4000000 in
theorem draftParses_walk (s : ByteArray) (w : World) (ht : Tabs w) (hs : s.size ≤ maxLen) :
    Calls Tryz.prog 3 #[.string s] w fun e w' => e = .returned (.bool true) ∧ Gr w w' := by
  have HKN := Lib.hid (known3_any w ht)
  unfold maxLen at hs
  by_cases hl : 33000 < s.size
  · have hl1 : (33000 : Int) < (s.size : Int) := by omega
    go_enter Tryz.func3, Tryz.ntmps3
    go_wp2_with (first | (go_at_call 10; (with_reducible refine (HKN.out).mono ?_); rintro e wk ⟨rfl, gk⟩) | fail)
    go_ret
    exact ⟨rfl, gk⟩
  have hl1 : ¬ (33000 : Int) < (s.size : Int) := by omega
  have HPA0 := Lib.hid (fun (w' : World) (g : Gr w w') => drParse_any s (by omega) w' (shp_gr ht.sh g))
  have HPB0 := Lib.hid (fun (w' : World) => refParsePl_any s (by omega) w')
  generalize parT s = R at HPA0 HPB0
  obtain ⟨P, n, E⟩ := R
  have HPA : Hid (∀ w', Gr w w' → Calls Tryz.prog 11 #[.string s] w' fun e w'' => ∃ v, e = .returned (.tuple #[v, .int .i64 n, .int .i64 E]) ∧ IsPln w'' v P ∧ Gr w' w'') := HPA0.out
  have HPB : Hid (∀ w', Calls Tryz.prog 12 #[.string s] w' fun e w'' => ∃ v, e = .returned (.tuple #[v, .int .i64 n, .int .i64 E]) ∧ IsPln w'' v P ∧ Gr w' w'') := HPB0.out
  have tn : (n == n) = true := beqT rfl
  have tE : (E == E) = true := beqT rfl
  clear HPA0 HPB0
  go_enter Tryz.func3, Tryz.ntmps3
  go_upto_region 6 with (first | (go_at_call 10; (with_reducible refine (HKN.out).mono ?_); rintro e wk ⟨rfl, gk⟩) | (go_at_call 11; (with_reducible refine (HPA.out _ gk).mono ?_); rintro e wP ⟨v, rfl, hv, gP⟩; have HPS := Lib.hid hv; obtain ⟨a1, c1, a2, c2, a3, c3, a4, c4, rfl, -⟩ := hv; unfold plnV at HPS ⊢) | fail)
  have g1 : Gr wP (wP.alloc (.cells #[.slice a1 P.es.length c1, .slice a2 P.js.length c2, .slice a3 P.ss.length c3, .slice a4 P.ls.length c4, .int .i64 P.top, .int .i64 P.brake, .int .i64 P.margin, .int .i64 P.throw, .bool P.hard] 28)) := (Gr.refl _).alloc _
  have HP := Lib.hid (fun (w' : World) (g : Gr (wP.alloc (.cells #[.slice a1 P.es.length c1, .slice a2 P.js.length c2, .slice a3 P.ss.length c3, .slice a4 P.ls.length c4, .int .i64 P.top, .int .i64 P.brake, .int .i64 P.margin, .int .i64 P.throw, .bool P.hard] 28)) w') => (PBox.new wP P (.slice a1 P.es.length c1) (.slice a2 P.js.length c2) (.slice a3 P.ss.length c3) (.slice a4 P.ls.length c4)).gr g)
  have HPI := Lib.hid (fun (w' : World) (g : Gr (wP.alloc (.cells #[.slice a1 P.es.length c1, .slice a2 P.js.length c2, .slice a3 P.ss.length c3, .slice a4 P.ls.length c4, .int .i64 P.top, .int .i64 P.brake, .int .i64 P.margin, .int .i64 P.throw, .bool P.hard] 28)) w') => HPS.out.gr (g1.trans g))
  have GA := Lib.hid ((gk.trans gP).trans g1)
  clear HPS g1
  obtain ⟨zp, p0, p1, p2, p3, p4, p5, p6, p7, p8⟩ := HP.out _ (Gr.refl _)
  generalize wP.alloc (.cells #[.slice a1 P.es.length c1, .slice a2 P.js.length c2, .slice a3 P.ss.length c3, .slice a4 P.ls.length c4, .int .i64 P.top, .int .i64 P.brake, .int .i64 P.margin, .int .i64 P.throw, .bool P.hard] 28) = wa at *
  generalize wP.heap.size = pb at *
  go_upto_region 7 with (first | (go_at_call 12; (with_reducible refine (HPB.out _).mono ?_); rintro e wQ ⟨v, rfl, hv, gQ⟩; have HQS := Lib.hid hv; obtain ⟨b1, d1, b2, d2, b3, d3, b4, d4, rfl, -⟩ := hv; unfold plnV at HQS ⊢; obtain ⟨zp, p0, p1, p2, p3, p4, p5, p6, p7, p8⟩ := HP.out _ (gQ)) | fail)
  have g2 : Gr wQ (wQ.alloc (.cells #[.slice b1 P.es.length d1, .slice b2 P.js.length d2, .slice b3 P.ss.length d3, .slice b4 P.ls.length d4, .int .i64 P.top, .int .i64 P.brake, .int .i64 P.margin, .int .i64 P.throw, .bool P.hard] 28)) := (Gr.refl _).alloc _
  have HQ := Lib.hid (fun (w' : World) (g : Gr (wQ.alloc (.cells #[.slice b1 P.es.length d1, .slice b2 P.js.length d2, .slice b3 P.ss.length d3, .slice b4 P.ls.length d4, .int .i64 P.top, .int .i64 P.brake, .int .i64 P.margin, .int .i64 P.throw, .bool P.hard] 28)) w') => (PBox.new wQ P (.slice b1 P.es.length d1) (.slice b2 P.js.length d2) (.slice b3 P.ss.length d3) (.slice b4 P.ls.length d4)).gr g)
  have HQI := Lib.hid (fun (w' : World) (g : Gr (wQ.alloc (.cells #[.slice b1 P.es.length d1, .slice b2 P.js.length d2, .slice b3 P.ss.length d3, .slice b4 P.ls.length d4, .int .i64 P.top, .int .i64 P.brake, .int .i64 P.margin, .int .i64 P.throw, .bool P.hard] 28)) w') => HQS.out.gr (g2.trans g))
  have gAB := gQ.trans g2
  clear HQS g2
  obtain ⟨zp, p0, p1, p2, p3, p4, p5, p6, p7, p8⟩ := HP.out _ (gAB)
  obtain ⟨zq, q0, q1, q2, q3, q4, q5, q6, q7, q8⟩ := HQ.out _ (Gr.refl _)
  generalize wQ.alloc (.cells #[.slice b1 P.es.length d1, .slice b2 P.js.length d2, .slice b3 P.ss.length d3, .slice b4 P.ls.length d4, .int .i64 P.top, .int .i64 P.brake, .int .i64 P.margin, .int .i64 P.throw, .bool P.hard] 28) = wb at *
  generalize wQ.heap.size = qb at *
  go_wp2_with (first | (go_at_call 13; (with_reducible refine (refSameP_any _ _ P _ (HPI.out _ gAB) (HQI.out _ (Gr.refl _))).mono ?_); rintro e wS ⟨rfl, gS⟩) | fail)
  go_ret
  exact ⟨rfl, (GA.out.trans gAB).trans gS⟩
end Go.Proofs.YtknmngejjoohdaaGreatDoor
