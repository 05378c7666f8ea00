/- DraftPorts. -/
import Derived.Test.YtjblplflgiibdaaDoorRows
import Derived.Test.YtjblplflgiibdaaDoorRDrKn
import Derived.Test.YtjblplflgiibdaaDoorRDrR
import Derived.Test.YtjblplflgiibdaaDoorRDrZ
import Derived.Test.YtjblplflgiibdaaDoorB8
import Derived.Test.YtjblplflgiibdaaDoorB22
namespace Go.Proofs.YtjblplflgiibdaaDoor
open Go.ChangeShapes Go.WideShapes Go.ChangeAt Go.RowKit Go.Maps
set_option linter.unusedVariables false
set_option linter.unusedSimpArgs false
set_option maxRecDepth 100000 in
set_option maxHeartbeats 4000000 in
theorem draftPorts_walk (pv : Value) (P : Pln) (s : ByteArray) (xv : Value) (x : Prt) (w : World) (ht : Tabs w) (hP : IsPln w pv P ∧ PlnOk P) (hs : s.size ≤ maxLen) (hx : xv = .agg #[.int .i64 x.e, .int .i64 x.x] ∧ PrtOk x) :
    Calls Tryd.prog 3 #[pv, .string s, xv] w fun e w' => e = .returned (.bool true) ∧ Gr w w' := by
  unfold maxLen at hs
  obtain ⟨hP, hok⟩ := hP
  obtain ⟨rfl, -⟩ := hx
  obtain ⟨xe, xx⟩ := x
  dsimp only
  have HFW := Lib.hid (fun (w' : World) (g : Gr w w') => few_any _ P w' (hP.gr g))
  have HPI := Lib.hid hP
  obtain ⟨a1, c1, a2, c2, a3, c3, a4, c4, rfl, -⟩ := hP
  unfold plnV at *
  have g01 : Gr (w.alloc (.cells #[.slice a1 P.es.length c1, .slice a2 P.js.length c2, .slice a3 P.ss.length c3, .slice a4 P.ls.length c4, .int .i64 P.top, .int .i64 P.brake, .int .i64 P.margin, .int .i64 P.throw, .bool P.hard] 27)) ((w.alloc (.cells #[.slice a1 P.es.length c1, .slice a2 P.js.length c2, .slice a3 P.ss.length c3, .slice a4 P.ls.length c4, .int .i64 P.top, .int .i64 P.brake, .int .i64 P.margin, .int .i64 P.throw, .bool P.hard] 27)).alloc (.cells #[.int .i64 xe, .int .i64 xx] 29)) := (Gr.refl _).alloc _
  have G1 : Gr w ((w.alloc (.cells #[.slice a1 P.es.length c1, .slice a2 P.js.length c2, .slice a3 P.ss.length c3, .slice a4 P.ls.length c4, .int .i64 P.top, .int .i64 P.brake, .int .i64 P.margin, .int .i64 P.throw, .bool P.hard] 27)).alloc (.cells #[.int .i64 xe, .int .i64 xx] 29)) := ((Gr.refl _).alloc _).alloc _
  have HKN := Lib.hid (known3_any _ (ht.gr G1))
  have HP := Lib.hid (fun (w' : World) (g : Gr ((w.alloc (.cells #[.slice a1 P.es.length c1, .slice a2 P.js.length c2, .slice a3 P.ss.length c3, .slice a4 P.ls.length c4, .int .i64 P.top, .int .i64 P.brake, .int .i64 P.margin, .int .i64 P.throw, .bool P.hard] 27)).alloc (.cells #[.int .i64 xe, .int .i64 xx] 29)) w') => (PBox.new w P (.slice a1 P.es.length c1) (.slice a2 P.js.length c2) (.slice a3 P.ss.length c3) (.slice a4 P.ls.length c4)).gr (g01.trans g))
  have HXB : Hid (∀ w', Gr ((w.alloc (.cells #[.slice a1 P.es.length c1, .slice a2 P.js.length c2, .slice a3 P.ss.length c3, .slice a4 P.ls.length c4, .int .i64 P.top, .int .i64 P.brake, .int .i64 P.margin, .int .i64 P.throw, .bool P.hard] 27)).alloc (.cells #[.int .i64 xe, .int .i64 xx] 29)) w' → w.heap.size + 1 < w'.heap.size ∧ w'.cell? ⟨w.heap.size + 1, 0, none⟩ = some (.int .i64 xe) ∧ w'.cell? ⟨w.heap.size + 1, 1, none⟩ = some (.int .i64 xx)) := fun w' g => by
    have hz : w.heap.size + 1 < (((w.alloc (.cells #[.slice a1 P.es.length c1, .slice a2 P.js.length c2, .slice a3 P.ss.length c3, .slice a4 P.ls.length c4, .int .i64 P.top, .int .i64 P.brake, .int .i64 P.margin, .int .i64 P.throw, .bool P.hard] 27)).alloc (.cells #[.int .i64 xe, .int .i64 xx] 29))).heap.size := by simp
    exact ⟨Nat.lt_of_lt_of_le hz g.size, (g.cell _ _ hz).trans (by go_simp), (g.cell _ _ hz).trans (by go_simp)⟩
  have hfew : fewB P = true → ∀ e ∈ P.es, e.n.size ≤ 1000000 := fun h e he => by have := (few_bd h).2.2.2.2.2.1 e he; omega
  clear g01
  generalize fewB P = fb at HFW hfew
  cases fb
  · go_enter Tryd.func3, Tryd.ntmps3
    obtain ⟨zp, p0, p1, p2, p3, p4, p5, p6, p7, p8⟩ := HP.out _ (Gr.refl _)
    go_wp2_with (first | (go_at_call 4; (with_reducible refine (HKN.out).mono ?_); rintro e wk ⟨rfl, gk⟩; obtain ⟨zp, p0, p1, p2, p3, p4, p5, p6, p7, p8⟩ := HP.out _ (gk)) | (go_at_call 5; (with_reducible refine (HFW.out _ (G1.trans gk)).mono ?_); rintro e wf ⟨rfl, gf⟩; obtain ⟨zp, p0, p1, p2, p3, p4, p5, p6, p7, p8⟩ := HP.out _ (gk.trans gf)) | fail)
    go_ret
    exact ⟨rfl, G1.trans (gk.trans gf)⟩
  have hn := hfew rfl
  by_cases hms : 100 < s.size
  · have tm : (100 : Int) < (s.size : Int) := by omega
    go_enter Tryd.func3, Tryd.ntmps3
    obtain ⟨zp, p0, p1, p2, p3, p4, p5, p6, p7, p8⟩ := HP.out _ (Gr.refl _)
    go_wp2_with (first | (go_at_call 4; (with_reducible refine (HKN.out).mono ?_); rintro e wk ⟨rfl, gk⟩; obtain ⟨zp, p0, p1, p2, p3, p4, p5, p6, p7, p8⟩ := HP.out _ (gk)) | (go_at_call 5; (with_reducible refine (HFW.out _ (G1.trans gk)).mono ?_); rintro e wf ⟨rfl, gf⟩; obtain ⟨zp, p0, p1, p2, p3, p4, p5, p6, p7, p8⟩ := HP.out _ (gk.trans gf)) | fail)
    go_ret
    exact ⟨rfl, G1.trans (gk.trans gf)⟩
  have tm : ¬ (100 : Int) < (s.size : Int) := by omega
  have HDP0 := Lib.hid (fun (w' : World) (g : Gr w w') => dport_any _ P s (by omega) w' (HPI.out.gr g))
  have HRP0 := Lib.hid (fun (w' : World) (g : Gr w w') => refPortOf_any _ P s (by omega) w' (HPI.out.gr g))
  unfold prtR Prt.v at HDP0 HRP0
  generalize (portO P s).getD default = q at HDP0 HRP0
  generalize (portO P s).isSome = b at HDP0 HRP0
  obtain ⟨qe, qx⟩ := q
  have HDP : Hid (∀ w', Gr w w' → Calls Tryd.prog 6 #[.agg #[.slice a1 P.es.length c1, .slice a2 P.js.length c2, .slice a3 P.ss.length c3, .slice a4 P.ls.length c4, .int .i64 P.top, .int .i64 P.brake, .int .i64 P.margin, .int .i64 P.throw, .bool P.hard], .string s] w' fun e w'' => e = .returned (.tuple #[.agg #[.int .i64 qe, .int .i64 qx], .bool b]) ∧ Gr w' w'') := HDP0.out
  have HRP : Hid (∀ w', Gr w w' → Calls Tryd.prog 7 #[.agg #[.slice a1 P.es.length c1, .slice a2 P.js.length c2, .slice a3 P.ss.length c3, .slice a4 P.ls.length c4, .int .i64 P.top, .int .i64 P.brake, .int .i64 P.margin, .int .i64 P.throw, .bool P.hard], .string s] w' fun e w'' => e = .returned (.tuple #[.agg #[.int .i64 qe, .int .i64 qx], .bool b]) ∧ Gr w' w'') := HRP0.out
  have HTD : Hid (∀ w', Gr w w' → Calls Tryd.prog 8 #[.agg #[.slice a1 P.es.length c1, .slice a2 P.js.length c2, .slice a3 P.ss.length c3, .slice a4 P.ls.length c4, .int .i64 P.top, .int .i64 P.brake, .int .i64 P.margin, .int .i64 P.throw, .bool P.hard], .agg #[.int .i64 xe, .int .i64 xx]] w' fun e w'' => e = .returned (.string (toldT P ⟨xe, xx⟩)) ∧ Gr w' w'') := fun w' g => dtold_any _ P ⟨xe, xx⟩ w' (ht.gr g) (HPI.out.gr g) hn
  have HTR : Hid (∀ w', Gr w w' → Calls Tryd.prog 9 #[.agg #[.slice a1 P.es.length c1, .slice a2 P.js.length c2, .slice a3 P.ss.length c3, .slice a4 P.ls.length c4, .int .i64 P.top, .int .i64 P.brake, .int .i64 P.margin, .int .i64 P.throw, .bool P.hard], .agg #[.int .i64 xe, .int .i64 xx]] w' fun e w'' => e = .returned (.string (toldT P ⟨xe, xx⟩)) ∧ Gr w' w'') := fun w' g => refTold_any _ P ⟨xe, xx⟩ w' (HPI.out.gr g) hn
  generalize toldT P ⟨xe, xx⟩ = T at HTD HTR
  have tT : (T.toList == T.toList) = true := by simp
  have E1 := prt_eql qe qx qe qx
  rw [decide_eq_true rfl] at E1
  have GG := prt_guard .eql
  clear HDP0 HRP0 hfew hn hok hms
  go_enter Tryd.func3, Tryd.ntmps3
  obtain ⟨zp, p0, p1, p2, p3, p4, p5, p6, p7, p8⟩ := HP.out _ (Gr.refl _)
  go_upto_region 5 with (first | (go_at_call 4; (with_reducible refine (HKN.out).mono ?_); rintro e wk ⟨rfl, gk⟩; obtain ⟨zp, p0, p1, p2, p3, p4, p5, p6, p7, p8⟩ := HP.out _ (gk)) | (go_at_call 5; (with_reducible refine (HFW.out _ (G1.trans gk)).mono ?_); rintro e wf ⟨rfl, gf⟩; obtain ⟨zp, p0, p1, p2, p3, p4, p5, p6, p7, p8⟩ := HP.out _ (gk.trans gf)) | fail)
  go_upto_region 6 with (first | (go_at_call 6; (with_reducible refine (HDP.out _ (G1.trans (gk.trans gf))).mono ?_); rintro e wp ⟨rfl, gp⟩; obtain ⟨zp, p0, p1, p2, p3, p4, p5, p6, p7, p8⟩ := HP.out _ ((gk.trans gf).trans gp)) | fail)
  have zA : wp.heap.size < (wp.alloc (.cells #[.int .i64 qe, .int .i64 qx] 29)).heap.size := by simp
  have HA : Hid (∀ w', Gr (wp.alloc (.cells #[.int .i64 qe, .int .i64 qx] 29)) w' → wp.heap.size < w'.heap.size ∧ w'.cell? ⟨wp.heap.size, 0, none⟩ = some (.int .i64 qe) ∧ w'.cell? ⟨wp.heap.size, 1, none⟩ = some (.int .i64 qx)) := fun w' g => ⟨Nat.lt_of_lt_of_le zA g.size, (g.cell _ _ zA).trans (by go_simp), (g.cell _ _ zA).trans (by go_simp)⟩
  have gA := ((gk.trans gf).trans gp).trans ((Gr.refl wp).alloc (.cells #[.int .i64 qe, .int .i64 qx] 29))
  clear zA
  obtain ⟨zp, p0, p1, p2, p3, p4, p5, p6, p7, p8⟩ := HP.out _ (gA)
  generalize wp.alloc (.cells #[.int .i64 qe, .int .i64 qx] 29) = wa at *
  generalize wp.heap.size = ab at *
  go_upto_region 7 with (first | (go_at_call 7; (with_reducible refine (HRP.out _ (G1.trans gA)).mono ?_); rintro e wq ⟨rfl, gq⟩; obtain ⟨zp, p0, p1, p2, p3, p4, p5, p6, p7, p8⟩ := HP.out _ (gA.trans gq)) | fail)
  have zB : wq.heap.size < (wq.alloc (.cells #[.int .i64 qe, .int .i64 qx] 29)).heap.size := by simp
  have HB : Hid (∀ w', Gr (wq.alloc (.cells #[.int .i64 qe, .int .i64 qx] 29)) w' → wq.heap.size < w'.heap.size ∧ w'.cell? ⟨wq.heap.size, 0, none⟩ = some (.int .i64 qe) ∧ w'.cell? ⟨wq.heap.size, 1, none⟩ = some (.int .i64 qx)) := fun w' g => ⟨Nat.lt_of_lt_of_le zB g.size, (g.cell _ _ zB).trans (by go_simp), (g.cell _ _ zB).trans (by go_simp)⟩
  have gAB := gq.trans ((Gr.refl wq).alloc (.cells #[.int .i64 qe, .int .i64 qx] 29))
  clear zB zp p0 p1 p2 p3 p4 p5 p6 p7 p8
  have GB := G1.trans (gA.trans gAB)
  obtain ⟨zp, p0, p1, p2, p3, p4, p5, p6, p7, p8⟩ := HP.out _ (gA.trans gAB)
  obtain ⟨zx, x0, x1⟩ := HXB.out _ (gA.trans gAB)
  obtain ⟨za, u0, u1⟩ := HA.out _ gAB
  obtain ⟨zb, v0, v1⟩ := HB.out _ (Gr.refl _)
  generalize wq.alloc (.cells #[.int .i64 qe, .int .i64 qx] 29) = wb at *
  generalize wq.heap.size = bb at *
  have hc1 := fun (i : GrW wb) (o : Nat) => GrW.cell zp i o
  have hc2 := fun (i : GrW wb) (o : Nat) => GrW.cell zx i o
  have hc3 := fun (i : GrW wb) (o : Nat) => GrW.cell za i o
  have hc4 := fun (i : GrW wb) (o : Nat) => GrW.cell zb i o
  cases b
  all_goals
    (refine wp_region_gr (by kernel_rfl) (by kernel_rfl) ?_; (repeat (go_big_quiet_step ((first | (go_at_call 8; (with_reducible exact Calls.gr_of (HTD.out _ (GB.trans (GrW.gr _))))) | (go_at_call 9; (with_reducible exact Calls.gr_of (HTR.out _ (GB.trans (GrW.gr _))))))))); refine wpQuiet_nil ?_; intro wz hz; obtain ⟨iz, hz⟩ := hz; obtain ⟨wn, gn⟩ := iz; dsimp only at hz; obtain rfl := hz.symm)
    go_wp2_with fail
    go_ret
    exact ⟨rfl, GB.trans gn⟩
end Go.Proofs.YtjblplflgiibdaaDoor
