/- DraftBack. -/
import Derived.Test.YtjblplflgiibdaaGreatDoorRows
import Derived.Test.YtjblplflgiibdaaGreatDoorRDrKn
import Derived.Test.YtjblplflgiibdaaGreatDoorB6
import Derived.Test.YtjblplflgiibdaaGreatDoorB11
namespace Go.Proofs.YtjblplflgiibdaaGreatDoor
open Go.ChangeShapes Go.WideShapes Go.ChangeAt Go.RowKit Go.Maps
set_option linter.unusedVariables false
set_option linter.unusedSimpArgs false
set_option maxRecDepth 100000 in
set_option maxHeartbeats 4000000 in
theorem draftBack_walk (pv : Value) (P : Pln) (w : World) (ht : Tabs w) (hP : IsPln w pv P ∧ PlnOk P) :
    Calls Tryz.prog 5 #[pv] w fun e w' => e = .returned (.bool true) ∧ Gr w w' := by
  obtain ⟨hP, hok⟩ := hP
  have HFI0 := Lib.hid (fun (w' : World) (g : Gr w w') => fine_any _ P w' (hP.gr g) hok)
  have HPI := Lib.hid hP
  have hlens : P.es.length ≤ maxLen ∧ P.js.length ≤ maxLen ∧ P.ss.length ≤ maxLen := by
    obtain ⟨_, _, _, _, _, _, _, _, _, h1, h2, h3, _⟩ := hP
    exact ⟨IsRow.len h1, IsRow.len h2, IsRow.len h3⟩
  obtain ⟨a1, c1, a2, c2, a3, c3, a4, c4, rfl, -⟩ := hP
  unfold plnV at *
  have G1 : Gr w (w.alloc (.cells #[.slice a1 P.es.length c1, .slice a2 P.js.length c2, .slice a3 P.ss.length c3, .slice a4 P.ls.length c4, .int .i64 P.top, .int .i64 P.brake, .int .i64 P.margin, .int .i64 P.throw, .bool P.hard] 28)) := (Gr.refl _).alloc _
  have HKN := Lib.hid (known3_any _ (ht.gr G1))
  have HP := Lib.hid (fun (w' : World) (g : Gr (w.alloc (.cells #[.slice a1 P.es.length c1, .slice a2 P.js.length c2, .slice a3 P.ss.length c3, .slice a4 P.ls.length c4, .int .i64 P.top, .int .i64 P.brake, .int .i64 P.margin, .int .i64 P.throw, .bool P.hard] 28)) w') => (PBox.new w P (.slice a1 P.es.length c1) (.slice a2 P.js.length c2) (.slice a3 P.ss.length c3) (.slice a4 P.ls.length c4)).gr g)
  have hfine : fineB P = true → chk P = 0 := fine_chk
  generalize fineB P = fb at HFI0 hfine
  have HFI := HFI0
  cases fb
  · go_enter Tryz.func5, Tryz.ntmps5
    go_wp2_with (first | (go_at_call 9; (with_reducible refine (HKN.out).mono ?_); rintro e wk ⟨rfl, gk⟩; obtain ⟨zp, p0, p1, p2, p3, p4, p5, p6, p7, p8⟩ := HP.out _ (gk)) | (go_at_call 16; (with_reducible refine (HFI.out _ (G1.trans gk)).mono ?_); rintro e wf ⟨rfl, gf⟩; obtain ⟨zp, p0, p1, p2, p3, p4, p5, p6, p7, p8⟩ := HP.out _ (gk.trans gf)) | fail)
    go_ret
    exact ⟨rfl, G1.trans (gk.trans gf)⟩
  have hk := hfine rfl
  obtain ⟨⟨l1, l2, l3, l4⟩, -⟩ := fine_all hk
  have hfl : (P.ls.flatMap (·.es)).length ≤ 1000000 := by
    have : ∀ L : List Ln, (∀ l ∈ L, l.es.length ≤ 40) → (L.flatMap (·.es)).length ≤ 40 * L.length := fun L => by
      induction L with
      | nil => intro _; simp
      | cons a t ih =>
        intro h
        have h1 := h a (by simp)
        have h2 := ih fun l hl => h l (List.mem_cons_of_mem _ hl)
        simp only [List.flatMap_cons, List.length_append, List.length_cons]
        omega
    have := this P.ls (fun l hl => (line_parts hk hl).2.2.1)
    omega
  have HPR : Hid (∀ w', Gr w w' → Calls Tryz.prog 14 #[.agg #[.slice a1 P.es.length c1, .slice a2 P.js.length c2, .slice a3 P.ss.length c3, .slice a4 P.ls.length c4, .int .i64 P.top, .int .i64 P.brake, .int .i64 P.margin, .int .i64 P.throw, .bool P.hard]] w' fun e w'' => e = .returned (.tuple #[.string (printT P), .int .i64 0]) ∧ Gr w' w'') := fun w' g => by
    have := drPrint_any _ P w' (ht.gr g) (HPI.out.gr g) hok hfl
    rwa [hk, if_pos rfl] at this
  have HPA : Hid (∀ w', Gr w w' → Calls Tryz.prog 10 #[.string (printT P)] w' fun e w'' => ∃ v, e = .returned (.tuple #[v, .int .i64 (1 + P.es.length + P.js.length + P.ss.length + P.ls.length), .int .i64 0]) ∧ IsPln w'' v P ∧ Gr w' w'') := fun w' g => by
    have := drParse_any (printT P) (by have := print_size hk; omega) w' (shp_gr ht.sh g)
    rw [parT_print hk] at this
    exact this
  have tN : ((1 + (P.es.length : Int) + (P.js.length : Int) + (P.ss.length : Int) + (P.ls.length : Int)) == (1 + (P.es.length : Int) + (P.js.length : Int) + (P.ss.length : Int) + (P.ls.length : Int))) = true := beqT rfl
  generalize printT P = T at HPR HPA
  clear hfine hk hlens hok hfl
  go_enter Tryz.func5, Tryz.ntmps5
  go_upto_region 7 with (first | (go_at_call 9; (with_reducible refine (HKN.out).mono ?_); rintro e wk ⟨rfl, gk⟩; obtain ⟨zp, p0, p1, p2, p3, p4, p5, p6, p7, p8⟩ := HP.out _ (gk)) | (go_at_call 16; (with_reducible refine (HFI.out _ (G1.trans gk)).mono ?_); rintro e wf ⟨rfl, gf⟩; obtain ⟨zp, p0, p1, p2, p3, p4, p5, p6, p7, p8⟩ := HP.out _ (gk.trans gf)) | (go_at_call 14; (with_reducible refine (HPR.out _ (G1.trans (gk.trans gf))).mono ?_); rintro e wp ⟨rfl, gp⟩; obtain ⟨zp, p0, p1, p2, p3, p4, p5, p6, p7, p8⟩ := HP.out _ ((gk.trans gf).trans gp)) | (go_at_call 10; (with_reducible refine (HPA.out _ ((G1.trans (gk.trans gf)).trans gp)).mono ?_); rintro e wq ⟨vq, rfl, hq, gq⟩; have HQ0 := Lib.hid hq; obtain ⟨b1, d1, b2, d2, b3, d3, b4, d4, rfl, -⟩ := hq; unfold plnV at HQ0 ⊢; obtain ⟨zp, p0, p1, p2, p3, p4, p5, p6, p7, p8⟩ := HP.out _ (((gk.trans gf).trans gp).trans gq)) | fail)
  have g2 : Gr wq (wq.alloc (.cells #[.slice b1 P.es.length d1, .slice b2 P.js.length d2, .slice b3 P.ss.length d3, .slice b4 P.ls.length d4, .int .i64 P.top, .int .i64 P.brake, .int .i64 P.margin, .int .i64 P.throw, .bool P.hard] 28)) := (Gr.refl _).alloc _
  have HQ := Lib.hid (fun (w' : World) (g : Gr (wq.alloc (.cells #[.slice b1 P.es.length d1, .slice b2 P.js.length d2, .slice b3 P.ss.length d3, .slice b4 P.ls.length d4, .int .i64 P.top, .int .i64 P.brake, .int .i64 P.margin, .int .i64 P.throw, .bool P.hard] 28)) w') => (PBox.new wq P (.slice b1 P.es.length d1) (.slice b2 P.js.length d2) (.slice b3 P.ss.length d3) (.slice b4 P.ls.length d4)).gr g)
  have gA := (((gk.trans gf).trans gp).trans gq).trans g2
  have HSM := Lib.hid (refSameP_any _ _ P _ (HPI.out.gr (G1.trans gA)) (HQ0.out.gr g2))
  clear HQ0 HPA HPR
  obtain ⟨zp, p0, p1, p2, p3, p4, p5, p6, p7, p8⟩ := HP.out _ (gA)
  obtain ⟨zq, q0, q1, q2, q3, q4, q5, q6, q7, q8⟩ := HQ.out _ (Gr.refl _)
  generalize wq.alloc (.cells #[.slice b1 P.es.length d1, .slice b2 P.js.length d2, .slice b3 P.ss.length d3, .slice b4 P.ls.length d4, .int .i64 P.top, .int .i64 P.brake, .int .i64 P.margin, .int .i64 P.throw, .bool P.hard] 28) = wb at *
  generalize wq.heap.size = qb at *
  go_wp2_with (first | (go_at_call 12; (with_reducible refine (HSM.out).mono ?_); rintro e ws ⟨rfl, gs⟩; obtain ⟨zp, p0, p1, p2, p3, p4, p5, p6, p7, p8⟩ := HP.out _ (gA.trans gs); obtain ⟨zq, q0, q1, q2, q3, q4, q5, q6, q7, q8⟩ := HQ.out _ (gs)) | fail)
  go_ret
  exact ⟨rfl, (G1.trans gA).trans gs⟩
end Go.Proofs.YtjblplflgiibdaaGreatDoor
