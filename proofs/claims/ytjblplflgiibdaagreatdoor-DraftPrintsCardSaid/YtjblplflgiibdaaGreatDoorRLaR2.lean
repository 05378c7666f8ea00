/- DraftPrints. -/
import Derived.Test.YtjblplflgiibdaaGreatDoorRows
import Derived.Test.YtjblplflgiibdaaGreatDoorRDrKn
import Derived.Test.YtjblplflgiibdaaGreatDoorRDrPr
import Derived.Test.YtjblplflgiibdaaGreatDoorB6
import Derived.Test.YtjblplflgiibdaaGreatDoorB11
namespace Go.Proofs.YtjblplflgiibdaaGreatDoor
open Go.ChangeShapes Go.WideShapes Go.ChangeAt Go.RowKit Go.Maps
set_option linter.unusedVariables false
set_option linter.unusedSimpArgs false
set_option maxRecDepth 100000 in
set_option maxHeartbeats 4000000 in
theorem draftPrints_walk (pv : Value) (P : Pln) (w : World) (ht : Tabs w) (hP : IsPln w pv P ∧ PlnOk P) :
    Calls Tryz.prog 4 #[pv] w fun e w' => e = .returned (.bool true) ∧ Gr w w' := by
  obtain ⟨hP, hok⟩ := hP
  have HFW := Lib.hid (fun (w' : World) (g : Gr w w') => few_any _ P w' (hP.gr g))
  have HPI := Lib.hid hP
  obtain ⟨a1, c1, a2, c2, a3, c3, a4, c4, rfl, -⟩ := hP
  unfold plnV at *
  have G1 : Gr w (w.alloc (.cells #[.slice a1 P.es.length c1, .slice a2 P.js.length c2, .slice a3 P.ss.length c3, .slice a4 P.ls.length c4, .int .i64 P.top, .int .i64 P.brake, .int .i64 P.margin, .int .i64 P.throw, .bool P.hard] 28)) := (Gr.refl _).alloc _
  have HKN := Lib.hid (known3_any _ (ht.gr G1))
  have HP := Lib.hid (fun (w' : World) (g : Gr (w.alloc (.cells #[.slice a1 P.es.length c1, .slice a2 P.js.length c2, .slice a3 P.ss.length c3, .slice a4 P.ls.length c4, .int .i64 P.top, .int .i64 P.brake, .int .i64 P.margin, .int .i64 P.throw, .bool P.hard] 28)) w') => (PBox.new w P (.slice a1 P.es.length c1) (.slice a2 P.js.length c2) (.slice a3 P.ss.length c3) (.slice a4 P.ls.length c4)).gr g)
  have hfew : fewB P = true → (P.ls.flatMap (·.es)).length ≤ 1000000 := fun h => by have := few_flat h; omega
  generalize fewB P = fb at HFW hfew
  cases fb
  · go_enter Tryz.func4, Tryz.ntmps4
    go_wp2_with (first | (go_at_call 9; (with_reducible refine (HKN.out).mono ?_); rintro e wk ⟨rfl, gk⟩; obtain ⟨zp, p0, p1, p2, p3, p4, p5, p6, p7, p8⟩ := HP.out _ (gk)) | (go_at_call 13; (with_reducible refine (HFW.out _ (G1.trans gk)).mono ?_); rintro e wf ⟨rfl, gf⟩; obtain ⟨zp, p0, p1, p2, p3, p4, p5, p6, p7, p8⟩ := HP.out _ (gk.trans gf)) | fail)
    go_ret
    exact ⟨rfl, G1.trans (gk.trans gf)⟩
  have hfl := hfew rfl
  have HPR := Lib.hid (fun (w' : World) (g : Gr w w') => drPrint_any _ P w' (ht.gr g) (HPI.out.gr g) hok hfl)
  have HPS := Lib.hid (fun (w' : World) (g : Gr w w') => refPrintP_any _ P w' (HPI.out.gr g) hok hfl)
  generalize (if chk P = 0 then printT P else ⟨#[]⟩) = T at HPR HPS
  generalize chk P = E at HPR HPS
  have tE : (E == E) = true := beqT rfl
  have tT : (T.toList == T.toList) = true := by simp
  clear hfew hok hfl
  go_enter Tryz.func4, Tryz.ntmps4
  go_wp2_with (first | (go_at_call 9; (with_reducible refine (HKN.out).mono ?_); rintro e wk ⟨rfl, gk⟩; obtain ⟨zp, p0, p1, p2, p3, p4, p5, p6, p7, p8⟩ := HP.out _ (gk)) | (go_at_call 13; (with_reducible refine (HFW.out _ (G1.trans gk)).mono ?_); rintro e wf ⟨rfl, gf⟩; obtain ⟨zp, p0, p1, p2, p3, p4, p5, p6, p7, p8⟩ := HP.out _ (gk.trans gf)) | (go_at_call 14; (with_reducible refine (HPR.out _ (G1.trans (gk.trans gf))).mono ?_); rintro e wp ⟨rfl, gp⟩; obtain ⟨zp, p0, p1, p2, p3, p4, p5, p6, p7, p8⟩ := HP.out _ ((gk.trans gf).trans gp)) | (go_at_call 15; (with_reducible refine (HPS.out _ ((G1.trans (gk.trans gf)).trans gp)).mono ?_); rintro e wq ⟨rfl, gq⟩) | fail)
  go_ret
  exact ⟨rfl, ((G1.trans (gk.trans gf)).trans gp).trans gq⟩
end Go.Proofs.YtjblplflgiibdaaGreatDoor
