/- The reference's leg (printed by gen_dpl.py). -/
import Derived.Test.YtgjnlgcdpbilfaaGreatDoorRows
import Derived.Test.YtgjnlgcdpbilfaaGreatDoorRDpZ
import Derived.Test.YtgjnlgcdpbilfaaGreatDoorB11
import Derived.Test.YtgjnlgcdpbilfaaGreatDoorB10
import Derived.Test.YtgjnlgcdpbilfaaGreatDoorB18
import Derived.Deep.RegionHeld3
import Derived.Deep.AppendLies
namespace Go.Proofs.YtgjnlgcdpbilfaaGreatDoor
open Go.ChangeShapes Go.WideShapes Go.ChangeAt Go.RowKit Go.Maps
set_option linter.unusedVariables false
set_option linter.unusedSimpArgs false
set_option maxRecDepth 100000 in
set_option maxHeartbeats 2000000 in
theorem rlegF_no (b B : Nat) (bb o c : Nat) (v t n : ByteArray) (P : Pln) (a1 a2 a3 a4 : Option Addr) (c1 c2 c3 c4 m : Nat) (D : Dgm) (w0 w : World)
    (hP : IsPln w0 (plnV P (.slice a1 P.es.length c1) (.slice a2 P.js.length c2) (.slice a3 P.ss.length c3) (.slice a4 P.ls.length c4)) P) (hb : w0.heap.size ≤ b) (g : Gr w0 w)
    (hR : Rd 31 b 0 B w D) (hbb : bb < w.heap.size) (yv : w.cell? ⟨bb, o, none⟩ = some (.string v)) (yt : w.cell? ⟨bb, o + 1, none⟩ = some (.string t)) (yn : w.cell? ⟨bb, o + 2, none⟩ = some (.string n)) (hv : v ≠ bTurn) (hcap : 3 ≤ c) (hst : t.size ≤ maxLen) (hsn : n.size ≤ maxLen) (hz : SzD m D) (hm : m ≤ 40000) (he : D.runs = [] ∨ nmB n = false ∨ (v ≠ bGo ∧ v ≠ bGate ∧ v ≠ bBuffer)) :
    Calls Tryz.prog 58 #[plnV P (.slice a1 P.es.length c1) (.slice a2 P.js.length c2) (.slice a3 P.ss.length c3) (.slice a4 P.ls.length c4), .pointer (some ⟨b, 0, none⟩), .slice (some ⟨bb, o, none⟩) 3 c] w ((RetLr 31 w0 b 0 B) (leg3 P D false v t n)) := by
  obtain ⟨sv, rv, hbx, hbB, A, M, k1, k2, k3, k4, k5, k6⟩ := hR
  obtain ⟨ra, rc, rfl⟩ := own_form k2
  have HBX := Lib.hid hbx
  have K1 := Lib.hid k1
  have K2 := Lib.hid k2
  have K3 := Lib.hid k3
  have K4 := Lib.hid k4
  have hAl : A.length = D.runs.length := by rw [← k4]; simp
  have hAl2 : A.length ≤ 40000 := by have := hz.2.1; omega
  have HAL := Lib.hid hAl
  have HZ := Lib.hid hz
  have HDD := Lib.hid (rd_cells0 hbx)
  have HY := Lib.hid (wrd_cells hbb yv yt yn)
  have HG0 := Lib.hid g
  have HPI := Lib.hid hP
  have HNM := Lib.hid (fun w' => refName_any n hsn w')
  have HCK := Lib.hid (fun w' => refParse_any t w' hst)
  have HTI := Lib.hid (fun w' => refTill_any D.beg (clkN t) w')
  have HNO := Lib.hid (fun h => leg3_no (P := P) (D := D) (tn := false) (v := v) (t := t) (n := n) h)
  have HAT := Lib.hid (fun (E : Int) h1 h2 h3 h4 h5 => leg3_at (P := P) (D := D) (tn := false) (v := v) (t := t) (n := n) (E := E) h1 h2 h3 h4 h5)
  generalize leg3 P D false v t n = R at HNO HAT ⊢
  clear k1 k2 k3 k4 hbx hP hz g hAl
  have tt : (v.toList == [116, 117, 114, 110]) = false := by rw [← turnL]; exact str_ne hv
  have HR : Hid (R = .inl 2) := HNO.out (by
    rcases he with he | he | he
    · exact .inl he
    · exact .inr (.inl he)
    · refine .inr (.inr (.inr ?_)); unfold endW; rw [if_neg he.1, if_neg he.2.1, if_neg he.2.2])
  clear HNO HAT
  by_cases h1 : D.runs = []
  · have t1 : ((A.length : Int) == 0) = true := beqT (by rw [HAL.out, h1]; rfl)
    clear he h1
    unfold plnV
    have HPB := Lib.hid (PBox.new w P (.slice a1 P.es.length c1) (.slice a2 P.js.length c2) (.slice a3 P.ss.length c3) (.slice a4 P.ls.length c4))
    have G0 : Gr w (w.alloc (.cells #[.slice a1 P.es.length c1, .slice a2 P.js.length c2, .slice a3 P.ss.length c3, .slice a4 P.ls.length c4, .int .i64 P.top, .int .i64 P.brake, .int .i64 P.margin, .int .i64 P.throw, .bool P.hard] 27)) := (Gr.refl _).alloc _
    go_enter Tryz.func58, Tryz.ntmps58
    go_upto_region 1 with fail
    generalize (w.alloc (.cells #[.slice a1 P.es.length c1, .slice a2 P.js.length c2, .slice a3 P.ss.length c3, .slice a4 P.ls.length c4, .int .i64 P.top, .int .i64 P.brake, .int .i64 P.margin, .int .i64 P.throw, .bool P.hard] 27)) = wp at *
    obtain ⟨zy, y0, y1, y2⟩ := HY.out _ G0
    go_upto_region 5 with fail
    have HX := Lib.hid (XB.new wp (.bool false) (.int .i64 0) (.int .i64 0) (.int .i64 0) 54)
    have G1 : Gr wp (wp.alloc (.cells #[.bool false, .int .i64 0, .int .i64 0, .int .i64 0] 54)) := (Gr.refl _).alloc _
    generalize (wp.alloc (.cells #[.bool false, .int .i64 0, .int .i64 0, .int .i64 0] 54)) = w1 at *
    clear zy y0 y1 y2
    obtain ⟨zx, x0', x1', x2', x3', f0, f1, f2, f3⟩ := HX.out
    obtain ⟨zy, y0, y1, y2⟩ := HY.out _ (G0.trans G1)
    obtain ⟨zd, d0, d1, d2⟩ := HDD.out _ (G0.trans G1)
    go_wp2_with fail
    (go_ret; exact RetLr.no HR.out (HG0.out.trans (G0.trans G1)))
  have t1 : ((A.length : Int) == 0) = false := beqF (by rw [HAL.out]; have := List.length_pos_iff.2 h1; omega)
  replace he := he.resolve_left h1
  generalize nmB n = q at HNM he
  cases q
  · clear he h1
    unfold plnV
    have HPB := Lib.hid (PBox.new w P (.slice a1 P.es.length c1) (.slice a2 P.js.length c2) (.slice a3 P.ss.length c3) (.slice a4 P.ls.length c4))
    have G0 : Gr w (w.alloc (.cells #[.slice a1 P.es.length c1, .slice a2 P.js.length c2, .slice a3 P.ss.length c3, .slice a4 P.ls.length c4, .int .i64 P.top, .int .i64 P.brake, .int .i64 P.margin, .int .i64 P.throw, .bool P.hard] 27)) := (Gr.refl _).alloc _
    go_enter Tryz.func58, Tryz.ntmps58
    go_upto_region 1 with fail
    generalize (w.alloc (.cells #[.slice a1 P.es.length c1, .slice a2 P.js.length c2, .slice a3 P.ss.length c3, .slice a4 P.ls.length c4, .int .i64 P.top, .int .i64 P.brake, .int .i64 P.margin, .int .i64 P.throw, .bool P.hard] 27)) = wp at *
    obtain ⟨zy, y0, y1, y2⟩ := HY.out _ G0
    go_upto_region 5 with fail
    have HX := Lib.hid (XB.new wp (.bool false) (.int .i64 0) (.int .i64 0) (.int .i64 0) 54)
    have G1 : Gr wp (wp.alloc (.cells #[.bool false, .int .i64 0, .int .i64 0, .int .i64 0] 54)) := (Gr.refl _).alloc _
    generalize (wp.alloc (.cells #[.bool false, .int .i64 0, .int .i64 0, .int .i64 0] 54)) = w1 at *
    clear zy y0 y1 y2
    obtain ⟨zx, x0', x1', x2', x3', f0, f1, f2, f3⟩ := HX.out
    obtain ⟨zy, y0, y1, y2⟩ := HY.out _ (G0.trans G1)
    obtain ⟨zd, d0, d1, d2⟩ := HDD.out _ (G0.trans G1)
    go_wp2_with (first | (go_at_call 38; (with_reducible refine (HNM.out _).mono ?_); rintro e w3 ⟨rfl, hq⟩; obtain rfl := hq.symm) | fail)
    (go_ret; exact RetLr.no HR.out (HG0.out.trans (G0.trans G1)))
  obtain ⟨e1, e2, e3⟩ := he.resolve_left (by simp)
  have s1 : (v.toList == [103, 111]) = false := by rw [← goL]; exact str_ne e1
  have s2 : (v.toList == [103, 97, 116, 101]) = false := by rw [← gateL]; exact str_ne e2
  have s3 : (v.toList == [98, 117, 102, 102, 101, 114]) = false := by rw [← bufferL]; exact str_ne e3
  clear e1 e2 e3 he h1
  unfold plnV
  have HPB := Lib.hid (PBox.new w P (.slice a1 P.es.length c1) (.slice a2 P.js.length c2) (.slice a3 P.ss.length c3) (.slice a4 P.ls.length c4))
  have G0 : Gr w (w.alloc (.cells #[.slice a1 P.es.length c1, .slice a2 P.js.length c2, .slice a3 P.ss.length c3, .slice a4 P.ls.length c4, .int .i64 P.top, .int .i64 P.brake, .int .i64 P.margin, .int .i64 P.throw, .bool P.hard] 27)) := (Gr.refl _).alloc _
  go_enter Tryz.func58, Tryz.ntmps58
  go_upto_region 1 with fail
  generalize (w.alloc (.cells #[.slice a1 P.es.length c1, .slice a2 P.js.length c2, .slice a3 P.ss.length c3, .slice a4 P.ls.length c4, .int .i64 P.top, .int .i64 P.brake, .int .i64 P.margin, .int .i64 P.throw, .bool P.hard] 27)) = wp at *
  obtain ⟨zy, y0, y1, y2⟩ := HY.out _ G0
  go_upto_region 5 with fail
  have HX := Lib.hid (XB.new wp (.bool false) (.int .i64 0) (.int .i64 0) (.int .i64 0) 54)
  have G1 : Gr wp (wp.alloc (.cells #[.bool false, .int .i64 0, .int .i64 0, .int .i64 0] 54)) := (Gr.refl _).alloc _
  generalize (wp.alloc (.cells #[.bool false, .int .i64 0, .int .i64 0, .int .i64 0] 54)) = w1 at *
  clear zy y0 y1 y2
  obtain ⟨zx, x0', x1', x2', x3', f0, f1, f2, f3⟩ := HX.out
  obtain ⟨zy, y0, y1, y2⟩ := HY.out _ (G0.trans G1)
  obtain ⟨zd, d0, d1, d2⟩ := HDD.out _ (G0.trans G1)
  go_wp2_with (first | (go_at_call 38; (with_reducible refine (HNM.out _).mono ?_); rintro e w3 ⟨rfl, hq⟩; obtain rfl := hq.symm) | fail)
  (go_ret; exact RetLr.no HR.out (HG0.out.trans (G0.trans G1)))
set_option maxRecDepth 100000 in
set_option maxHeartbeats 2000000 in
theorem rlegT_no (b B : Nat) (bb o c : Nat) (v t n : ByteArray) (P : Pln) (a1 a2 a3 a4 : Option Addr) (c1 c2 c3 c4 m : Nat) (D : Dgm) (w0 w : World)
    (hP : IsPln w0 (plnV P (.slice a1 P.es.length c1) (.slice a2 P.js.length c2) (.slice a3 P.ss.length c3) (.slice a4 P.ls.length c4)) P) (hb : w0.heap.size ≤ b) (g : Gr w0 w)
    (hR : Rd 31 b 0 B w D) (hbb : bb < w.heap.size) (yy : w.cell? ⟨bb, o, none⟩ = some (.string bTurn)) (yv : w.cell? ⟨bb, o + 1, none⟩ = some (.string v)) (yt : w.cell? ⟨bb, o + 1 + 1, none⟩ = some (.string t)) (yn : w.cell? ⟨bb, o + 1 + 2, none⟩ = some (.string n)) (hcap : 4 ≤ c) (hst : t.size ≤ maxLen) (hsn : n.size ≤ maxLen) (hz : SzD m D) (hm : m ≤ 40000) (he : D.runs = [] ∨ nmB n = false ∨ (v ≠ bGo ∧ v ≠ bGate ∧ v ≠ bBuffer)) :
    Calls Tryz.prog 58 #[plnV P (.slice a1 P.es.length c1) (.slice a2 P.js.length c2) (.slice a3 P.ss.length c3) (.slice a4 P.ls.length c4), .pointer (some ⟨b, 0, none⟩), .slice (some ⟨bb, o, none⟩) 4 c] w ((RetLr 31 w0 b 0 B) (leg3 P D true v t n)) := by
  obtain ⟨sv, rv, hbx, hbB, A, M, k1, k2, k3, k4, k5, k6⟩ := hR
  obtain ⟨ra, rc, rfl⟩ := own_form k2
  have HBX := Lib.hid hbx
  have K1 := Lib.hid k1
  have K2 := Lib.hid k2
  have K3 := Lib.hid k3
  have K4 := Lib.hid k4
  have hAl : A.length = D.runs.length := by rw [← k4]; simp
  have hAl2 : A.length ≤ 40000 := by have := hz.2.1; omega
  have HAL := Lib.hid hAl
  have HZ := Lib.hid hz
  have HDD := Lib.hid (rd_cells0 hbx)
  have HY := Lib.hid (wrd_cells hbb yv yt yn)
  have HG0 := Lib.hid g
  have HPI := Lib.hid hP
  have HNM := Lib.hid (fun w' => refName_any n hsn w')
  have HCK := Lib.hid (fun w' => refParse_any t w' hst)
  have HTI := Lib.hid (fun w' => refTill_any D.beg (clkN t) w')
  have HNO := Lib.hid (fun h => leg3_no (P := P) (D := D) (tn := true) (v := v) (t := t) (n := n) h)
  have HAT := Lib.hid (fun (E : Int) h1 h2 h3 h4 h5 => leg3_at (P := P) (D := D) (tn := true) (v := v) (t := t) (n := n) (E := E) h1 h2 h3 h4 h5)
  generalize leg3 P D true v t n = R at HNO HAT ⊢
  clear k1 k2 k3 k4 hbx hP hz g hAl
  have HSL := slice_rest4 bb o c hcap
  have tt : (bTurn.toList == [116, 117, 114, 110]) = true := by rw [turnL]; rfl
  have HR : Hid (R = .inl 2) := HNO.out (by
    rcases he with he | he | he
    · exact .inl he
    · exact .inr (.inl he)
    · refine .inr (.inr (.inr ?_)); unfold endW; rw [if_neg he.1, if_neg he.2.1, if_neg he.2.2])
  clear HNO HAT
  by_cases h1 : D.runs = []
  · have t1 : ((A.length : Int) == 0) = true := beqT (by rw [HAL.out, h1]; rfl)
    clear he h1
    unfold plnV
    have HPB := Lib.hid (PBox.new w P (.slice a1 P.es.length c1) (.slice a2 P.js.length c2) (.slice a3 P.ss.length c3) (.slice a4 P.ls.length c4))
    have G0 : Gr w (w.alloc (.cells #[.slice a1 P.es.length c1, .slice a2 P.js.length c2, .slice a3 P.ss.length c3, .slice a4 P.ls.length c4, .int .i64 P.top, .int .i64 P.brake, .int .i64 P.margin, .int .i64 P.throw, .bool P.hard] 27)) := (Gr.refl _).alloc _
    go_enter Tryz.func58, Tryz.ntmps58
    go_upto_region 1 with fail
    generalize (w.alloc (.cells #[.slice a1 P.es.length c1, .slice a2 P.js.length c2, .slice a3 P.ss.length c3, .slice a4 P.ls.length c4, .int .i64 P.top, .int .i64 P.brake, .int .i64 P.margin, .int .i64 P.throw, .bool P.hard] 27)) = wp at *
    obtain ⟨zy, y0, y1, y2⟩ := HY.out _ G0
    have yw := (G0.cell _ _ hbb).trans yy
    go_upto_region 3 with fail
    have HX0 := Lib.hid (XB.new wp (.bool false) (.int .i64 0) (.int .i64 0) (.int .i64 0) 54)
    obtain ⟨zx, x0', x1', x2', x3', f0, f1, f2, f3⟩ := HX0.out
    go_upto_region 5 with fail
    clear zx x0' x1' x2' x3' f0 f1 f2 f3 HX0 HSL yw
    have HX := Lib.hid (XB.new wp (.bool true) (.int .i64 0) (.int .i64 0) (.int .i64 0) 54)
    have G1 : Gr wp (wp.alloc (.cells #[.bool true, .int .i64 0, .int .i64 0, .int .i64 0] 54)) := (Gr.refl _).alloc _
    generalize (wp.alloc (.cells #[.bool true, .int .i64 0, .int .i64 0, .int .i64 0] 54)) = w1 at *
    clear zy y0 y1 y2
    obtain ⟨zx, x0', x1', x2', x3', f0, f1, f2, f3⟩ := HX.out
    obtain ⟨zy, y0, y1, y2⟩ := HY.out _ (G0.trans G1)
    obtain ⟨zd, d0, d1, d2⟩ := HDD.out _ (G0.trans G1)
    go_wp2_with fail
    (go_ret; exact RetLr.no HR.out (HG0.out.trans (G0.trans G1)))
  have t1 : ((A.length : Int) == 0) = false := beqF (by rw [HAL.out]; have := List.length_pos_iff.2 h1; omega)
  replace he := he.resolve_left h1
  generalize nmB n = q at HNM he
  cases q
  · clear he h1
    unfold plnV
    have HPB := Lib.hid (PBox.new w P (.slice a1 P.es.length c1) (.slice a2 P.js.length c2) (.slice a3 P.ss.length c3) (.slice a4 P.ls.length c4))
    have G0 : Gr w (w.alloc (.cells #[.slice a1 P.es.length c1, .slice a2 P.js.length c2, .slice a3 P.ss.length c3, .slice a4 P.ls.length c4, .int .i64 P.top, .int .i64 P.brake, .int .i64 P.margin, .int .i64 P.throw, .bool P.hard] 27)) := (Gr.refl _).alloc _
    go_enter Tryz.func58, Tryz.ntmps58
    go_upto_region 1 with fail
    generalize (w.alloc (.cells #[.slice a1 P.es.length c1, .slice a2 P.js.length c2, .slice a3 P.ss.length c3, .slice a4 P.ls.length c4, .int .i64 P.top, .int .i64 P.brake, .int .i64 P.margin, .int .i64 P.throw, .bool P.hard] 27)) = wp at *
    obtain ⟨zy, y0, y1, y2⟩ := HY.out _ G0
    have yw := (G0.cell _ _ hbb).trans yy
    go_upto_region 3 with fail
    have HX0 := Lib.hid (XB.new wp (.bool false) (.int .i64 0) (.int .i64 0) (.int .i64 0) 54)
    obtain ⟨zx, x0', x1', x2', x3', f0, f1, f2, f3⟩ := HX0.out
    go_upto_region 5 with fail
    clear zx x0' x1' x2' x3' f0 f1 f2 f3 HX0 HSL yw
    have HX := Lib.hid (XB.new wp (.bool true) (.int .i64 0) (.int .i64 0) (.int .i64 0) 54)
    have G1 : Gr wp (wp.alloc (.cells #[.bool true, .int .i64 0, .int .i64 0, .int .i64 0] 54)) := (Gr.refl _).alloc _
    generalize (wp.alloc (.cells #[.bool true, .int .i64 0, .int .i64 0, .int .i64 0] 54)) = w1 at *
    clear zy y0 y1 y2
    obtain ⟨zx, x0', x1', x2', x3', f0, f1, f2, f3⟩ := HX.out
    obtain ⟨zy, y0, y1, y2⟩ := HY.out _ (G0.trans G1)
    obtain ⟨zd, d0, d1, d2⟩ := HDD.out _ (G0.trans G1)
    go_wp2_with (first | (go_at_call 38; (with_reducible refine (HNM.out _).mono ?_); rintro e w3 ⟨rfl, hq⟩; obtain rfl := hq.symm) | fail)
    (go_ret; exact RetLr.no HR.out (HG0.out.trans (G0.trans G1)))
  obtain ⟨e1, e2, e3⟩ := he.resolve_left (by simp)
  have s1 : (v.toList == [103, 111]) = false := by rw [← goL]; exact str_ne e1
  have s2 : (v.toList == [103, 97, 116, 101]) = false := by rw [← gateL]; exact str_ne e2
  have s3 : (v.toList == [98, 117, 102, 102, 101, 114]) = false := by rw [← bufferL]; exact str_ne e3
  clear e1 e2 e3 he h1
  unfold plnV
  have HPB := Lib.hid (PBox.new w P (.slice a1 P.es.length c1) (.slice a2 P.js.length c2) (.slice a3 P.ss.length c3) (.slice a4 P.ls.length c4))
  have G0 : Gr w (w.alloc (.cells #[.slice a1 P.es.length c1, .slice a2 P.js.length c2, .slice a3 P.ss.length c3, .slice a4 P.ls.length c4, .int .i64 P.top, .int .i64 P.brake, .int .i64 P.margin, .int .i64 P.throw, .bool P.hard] 27)) := (Gr.refl _).alloc _
  go_enter Tryz.func58, Tryz.ntmps58
  go_upto_region 1 with fail
  generalize (w.alloc (.cells #[.slice a1 P.es.length c1, .slice a2 P.js.length c2, .slice a3 P.ss.length c3, .slice a4 P.ls.length c4, .int .i64 P.top, .int .i64 P.brake, .int .i64 P.margin, .int .i64 P.throw, .bool P.hard] 27)) = wp at *
  obtain ⟨zy, y0, y1, y2⟩ := HY.out _ G0
  have yw := (G0.cell _ _ hbb).trans yy
  go_upto_region 3 with fail
  have HX0 := Lib.hid (XB.new wp (.bool false) (.int .i64 0) (.int .i64 0) (.int .i64 0) 54)
  obtain ⟨zx, x0', x1', x2', x3', f0, f1, f2, f3⟩ := HX0.out
  go_upto_region 5 with fail
  clear zx x0' x1' x2' x3' f0 f1 f2 f3 HX0 HSL yw
  have HX := Lib.hid (XB.new wp (.bool true) (.int .i64 0) (.int .i64 0) (.int .i64 0) 54)
  have G1 : Gr wp (wp.alloc (.cells #[.bool true, .int .i64 0, .int .i64 0, .int .i64 0] 54)) := (Gr.refl _).alloc _
  generalize (wp.alloc (.cells #[.bool true, .int .i64 0, .int .i64 0, .int .i64 0] 54)) = w1 at *
  clear zy y0 y1 y2
  obtain ⟨zx, x0', x1', x2', x3', f0, f1, f2, f3⟩ := HX.out
  obtain ⟨zy, y0, y1, y2⟩ := HY.out _ (G0.trans G1)
  obtain ⟨zd, d0, d1, d2⟩ := HDD.out _ (G0.trans G1)
  go_wp2_with (first | (go_at_call 38; (with_reducible refine (HNM.out _).mono ?_); rintro e w3 ⟨rfl, hq⟩; obtain rfl := hq.symm) | fail)
  (go_ret; exact RetLr.no HR.out (HG0.out.trans (G0.trans G1)))
set_option maxRecDepth 100000 in
set_option maxHeartbeats 8000000 in
theorem rlegF_1 (b B : Nat) (bb o c : Nat) (t n : ByteArray) (P : Pln) (a1 a2 a3 a4 : Option Addr) (c1 c2 c3 c4 m : Nat) (D : Dgm) (w0 w : World)
    (hP : IsPln w0 (plnV P (.slice a1 P.es.length c1) (.slice a2 P.js.length c2) (.slice a3 P.ss.length c3) (.slice a4 P.ls.length c4)) P) (hb : w0.heap.size ≤ b) (g : Gr w0 w)
    (hR : Rd 31 b 0 B w D) (hbb : bb < w.heap.size) (yv : w.cell? ⟨bb, o, none⟩ = some (.string bGo)) (yt : w.cell? ⟨bb, o + 1, none⟩ = some (.string t)) (yn : w.cell? ⟨bb, o + 2, none⟩ = some (.string n))  (hcap : 3 ≤ c) (hst : t.size ≤ maxLen) (hsn : n.size ≤ maxLen) (hz : SzD m D) (hm : m ≤ 40000) (h1 : D.runs ≠ []) (h2 : nmB n = true) :
    Calls Tryz.prog 58 #[plnV P (.slice a1 P.es.length c1) (.slice a2 P.js.length c2) (.slice a3 P.ss.length c3) (.slice a4 P.ls.length c4), .pointer (some ⟨b, 0, none⟩), .slice (some ⟨bb, o, none⟩) 3 c] w ((RetLr 31 w0 b 0 B) (leg3 P D false bGo t n)) := by
  obtain ⟨sv, rv, hbx, hbB, A, M, k1, k2, k3, k4, k5, k6⟩ := hR
  obtain ⟨ra, rc, rfl⟩ := own_form k2
  have HBX := Lib.hid hbx
  have K1 := Lib.hid k1
  have K2 := Lib.hid k2
  have K3 := Lib.hid k3
  have K4 := Lib.hid k4
  have hAl : A.length = D.runs.length := by rw [← k4]; simp
  have hAl2 : A.length ≤ 40000 := by have := hz.2.1; omega
  have HAL := Lib.hid hAl
  have HZ := Lib.hid hz
  have HDD := Lib.hid (rd_cells0 hbx)
  have HY := Lib.hid (wrd_cells hbb yv yt yn)
  have HG0 := Lib.hid g
  have HPI := Lib.hid hP
  have HNM := Lib.hid (fun w' => refName_any n hsn w')
  have HCK := Lib.hid (fun w' => refParse_any t w' hst)
  have HTI := Lib.hid (fun w' => refTill_any D.beg (clkN t) w')
  have HNO := Lib.hid (fun h => leg3_no (P := P) (D := D) (tn := false) (v := bGo) (t := t) (n := n) h)
  have HAT := Lib.hid (fun (E : Int) h1 h2 h3 h4 h5 => leg3_at (P := P) (D := D) (tn := false) (v := bGo) (t := t) (n := n) (E := E) h1 h2 h3 h4 h5)
  generalize leg3 P D false bGo t n = R at HNO HAT ⊢
  clear k1 k2 k3 k4 hbx hP hz g hAl
  have tt : (bGo.toList == [116, 117, 114, 110]) = false := by rw [← turnL]; exact str_ne (by decide)
  have HNC : Hid (clkB t = false → R = .inl 2) := fun h => HNO.out (.inr (.inr (.inl h)))
  have hA : Hid (clkB t = true → R = if toW P 1 n < 0 then .inl 5 else .inr { D with runs := addLeg D.runs ⟨false, (clkN t - D.beg) % 86400, 1, toW P 1 n⟩ }) := fun h3 => HAT.out 1 h1 h2 h3 (by decide) (by decide)
  have HFN := Lib.hid (fun (w' : World) (g : Gr w w') => sigRef_any _ P n w' (HPI.out.gr (HG0.out.trans g)))
  unfold plnV at HFN
  have hE : sigN P n = toW P 1 n := rfl
  rw [hE] at HFN
  generalize toW P 1 n = To at HFN hA
  have t1 : ((A.length : Int) == 0) = false := beqF (by rw [HAL.out]; have := List.length_pos_iff.2 h1; omega)
  rw [h2] at HNM
  generalize (clkN t - D.beg) % 86400 = at_ at HTI hA
  have s1 : (bGo.toList == [103, 111]) = true := by rw [goL]; rfl
  clear HNO HAT hE
  unfold plnV
  have HPB := Lib.hid (PBox.new w P (.slice a1 P.es.length c1) (.slice a2 P.js.length c2) (.slice a3 P.ss.length c3) (.slice a4 P.ls.length c4))
  have G0 : Gr w (w.alloc (.cells #[.slice a1 P.es.length c1, .slice a2 P.js.length c2, .slice a3 P.ss.length c3, .slice a4 P.ls.length c4, .int .i64 P.top, .int .i64 P.brake, .int .i64 P.margin, .int .i64 P.throw, .bool P.hard] 27)) := (Gr.refl _).alloc _
  go_enter Tryz.func58, Tryz.ntmps58
  go_upto_region 1 with fail
  generalize (w.alloc (.cells #[.slice a1 P.es.length c1, .slice a2 P.js.length c2, .slice a3 P.ss.length c3, .slice a4 P.ls.length c4, .int .i64 P.top, .int .i64 P.brake, .int .i64 P.margin, .int .i64 P.throw, .bool P.hard] 27)) = wp at *
  obtain ⟨zy, y0, y1, y2⟩ := HY.out _ G0
  go_upto_region 5 with fail
  have HX := Lib.hid (XB.new wp (.bool false) (.int .i64 0) (.int .i64 0) (.int .i64 0) 54)
  have G1 : Gr wp (wp.alloc (.cells #[.bool false, .int .i64 0, .int .i64 0, .int .i64 0] 54)) := (Gr.refl _).alloc _
  generalize (wp.alloc (.cells #[.bool false, .int .i64 0, .int .i64 0, .int .i64 0] 54)) = w1 at *
  clear zy y0 y1 y2
  obtain ⟨zx, x0', x1', x2', x3', f0, f1, f2, f3⟩ := HX.out
  obtain ⟨zy, y0, y1, y2⟩ := HY.out _ (G0.trans G1)
  obtain ⟨zd, d0, d1, d2⟩ := HDD.out _ (G0.trans G1)
  have HS : Hid (∀ w', Gr wp w' → (w'.cell? ⟨w.heap.size, 0, none⟩ = some (.slice a1 P.es.length c1) ∧ w'.cell? ⟨w.heap.size, 1, none⟩ = some (.slice a2 P.js.length c2) ∧ w'.cell? ⟨w.heap.size, 2, none⟩ = some (.slice a3 P.ss.length c3) ∧ w'.cell? ⟨w.heap.size, 3, none⟩ = some (.slice a4 P.ls.length c4) ∧ w'.cell? ⟨w.heap.size, 4, none⟩ = some (.int .i64 P.top) ∧ w'.cell? ⟨w.heap.size, 5, none⟩ = some (.int .i64 P.brake) ∧ w'.cell? ⟨w.heap.size, 6, none⟩ = some (.int .i64 P.margin) ∧ w'.cell? ⟨w.heap.size, 7, none⟩ = some (.int .i64 P.throw) ∧ w'.cell? ⟨w.heap.size, 8, none⟩ = some (.bool P.hard) ∧ w'.cell? ⟨bb, o + 2, none⟩ = some (.string n))) := fun w' g => by
    obtain ⟨-, p0, p1, p2, p3, p4, p5, p6, p7, p8⟩ := HPB.out.gr g
    exact ⟨p0, p1, p2, p3, p4, p5, p6, p7, p8, (HY.out _ (G0.trans g)).2.2.2⟩
  go_upto_region 10 with (first | (go_at_call 38; (with_reducible refine (HNM.out _).mono ?_); rintro e w3 ⟨rfl, hq⟩; obtain rfl := hq.symm) | fail)
  clear zx x0' x1' x2' x3' f0 f1 f2 f3 zy y0 y1 y2 zd d0 d1 d2
  go_region_held3 (fun w' => w'.cell? ⟨w.heap.size, 0, none⟩ = some (.slice a1 P.es.length c1) ∧ w'.cell? ⟨w.heap.size, 1, none⟩ = some (.slice a2 P.js.length c2) ∧ w'.cell? ⟨w.heap.size, 2, none⟩ = some (.slice a3 P.ss.length c3) ∧ w'.cell? ⟨w.heap.size, 3, none⟩ = some (.slice a4 P.ls.length c4) ∧ w'.cell? ⟨w.heap.size, 4, none⟩ = some (.int .i64 P.top) ∧ w'.cell? ⟨w.heap.size, 5, none⟩ = some (.int .i64 P.brake) ∧ w'.cell? ⟨w.heap.size, 6, none⟩ = some (.int .i64 P.margin) ∧ w'.cell? ⟨w.heap.size, 7, none⟩ = some (.int .i64 P.throw) ∧ w'.cell? ⟨w.heap.size, 8, none⟩ = some (.bool P.hard) ∧ w'.cell? ⟨bb, o + 2, none⟩ = some (.string n)) (first | exact HS.out _ G1 | exact HS.out _ G1.drew | exact HS.out _ (G1.drew.trans h5) | exact HS.out _ ((G1.drew.trans h5).setCell (Nat.le_refl _) _) | exact HS.out _ (((G1.drew.trans h5).setCell (Nat.le_refl _) _).setCell (Nat.le_refl _) _)) (first | (go_at_call 90; (with_reducible refine (HFN.out _ (G0.trans G1.drew)).mono ?_); rintro e w5 ⟨rfl, h5⟩; obtain ⟨zx, x0', x1', x2', x3', f0, f1, f2, f3⟩ := HX.out.gr ((Gr.refl _).drew.trans h5)))
  have GZ := ((G1.drew.trans h5).setCell (p := ⟨wp.heap.size, 2, none⟩) (Nat.le_refl _) (.int .i64 1)).setCell (p := ⟨wp.heap.size, 3, none⟩) (Nat.le_refl _) (.int .i64 To)
  have HXZ := Lib.hid ((HX.out.gr ((Gr.refl _).drew.trans h5)).set23 (.int .i64 1) (.int .i64 To))
  clear zx x0' x1' x2' x3' f0 f1 f2 f3 HX
  generalize (w5.setCell ⟨wp.heap.size, 2, none⟩ (.int .i64 1)).setCell ⟨wp.heap.size, 3, none⟩ (.int .i64 To) = wz at *
  obtain ⟨zy, y0, y1, y2⟩ := HY.out _ (G0.trans GZ)
  generalize clkB t = q at HCK HNC hA
  cases q
  · have HR := Lib.hid (HNC.out rfl)
    go_wp2_with (first | (go_at_call 55; (with_reducible refine (HCK.out _).mono ?_); rintro e w4 ⟨rfl, g4⟩; have G4 := GZ.trans g4; obtain ⟨zx, x0', x1', x2', x3', f0, f1, f2, f3⟩ := HXZ.out.gr g4; obtain ⟨zd, d0, d1, d2⟩ := HDD.out _ (G0.trans G4)) | fail)
    (go_ret; exact RetLr.no HR.out (HG0.out.trans (G0.trans G4)))
  replace hA := Lib.hid (hA.out rfl)
  by_cases hto : To < 0
  · have HR : Hid (R = .inl 5) := by show _ = _; rw [hA.out, if_pos hto]
    go_wp2_with (first | (go_at_call 55; (with_reducible refine (HCK.out _).mono ?_); rintro e w4 ⟨rfl, g4⟩; have G4 := GZ.trans g4; obtain ⟨zx, x0', x1', x2', x3', f0, f1, f2, f3⟩ := HXZ.out.gr g4; obtain ⟨zd, d0, d1, d2⟩ := HDD.out _ (G0.trans G4)) | fail)
    (go_ret; exact RetLr.no HR.out (HG0.out.trans (G0.trans G4)))
  have HR := hA.out
  rw [if_neg hto] at HR
  have HRR := Lib.hid HR
  clear HR hA HNC
  go_upto_region 20 with (first | (go_at_call 55; (with_reducible refine (HCK.out _).mono ?_); rintro e w4 ⟨rfl, g4⟩; have G4 := GZ.trans g4; obtain ⟨zx, x0', x1', x2', x3', f0, f1, f2, f3⟩ := HXZ.out.gr g4; obtain ⟨zd, d0, d1, d2⟩ := HDD.out _ (G0.trans G4)) | fail)
  obtain ⟨A', r, u, rfl, k3a, k7, k8⟩ := runs_snoc K3.out K4.out h1
  obtain ⟨gg, rcap, hform, hgb, hglt⟩ := K2.out.form (by simp)
  simp only [Value.slice.injEq] at hform
  obtain ⟨rfl, -, rfl⟩ := hform
  have hlen : (A' ++ [(r, u)]).length = A'.length + 1 := by simp
  have K2' : OwnRn B w (.slice (some ⟨gg, 0, none⟩) (A'.length + 1) rc) (A' ++ [(r, u)]) := by rw [← hlen]; exact K2.out
  rw [hlen] at HDD HBX hAl2 d2
  obtain ⟨hcu, hfu⟩ := run_cell K2'
  have hrl : r.legs.length ≤ 40000 := by
    have hmem : r ∈ D.runs := by rw [← K4.out]; simp
    have := (HZ.out.2.2.1 r hmem).1; omega
  obtain ⟨ua, uc, rfl⟩ := own_form k7
  have hidx : IntKind.i64.wrap (((A'.length + 1 : Nat) : Int) - 1) = (A'.length : Int) := by rw [IntWalk.i64_in _ (by omega)]; omega
  have hi0 : (0 : Int) ≤ (A'.length : Int) := Int.natCast_nonneg _
  have hi1 : (A'.length : Int) < ((A'.length + 1 : Nat) : Int) := by omega
  have K3A := Lib.hid k3a
  have K7 := Lib.hid k7
  clear k3a k7 K2 K3 t1
  go_upto_region 21 with (first | (go_at_call 92; (with_reducible refine (HTI.out _).mono ?_); rintro e w5 ⟨rfl, rfl⟩) | fail)
  have G5 := G4.setCell (p := ⟨wp.heap.size, 1, none⟩) (Nat.le_refl _) (.int .i64 at_)
  have HX5 := Lib.hid ((HXZ.out.gr g4).set1 (.int .i64 at_))
  clear zx x0' x1' x2' x3' f0 f1 f2 f3 zd d0 d1 d2 zy y0 y1 y2
  generalize w4.setCell ⟨wp.heap.size, 1, none⟩ (.int .i64 at_) = w6 at *
  obtain ⟨zx, x0', x1', x2', x3', f0, f1, f2, f3⟩ := HX5.out
  obtain ⟨zd, d0, d1, d2⟩ := HDD.out _ (G0.trans G5)
  have hcb := fun (i : GrW w6) (o : Nat) => GrW.cell zd i o
  (refine wp_region_gr (by kernel_rfl) (by kernel_rfl) ?_; (repeat (go_big_quiet_step (fail))); refine wpQuiet_nil ?_; intro wz hz; obtain ⟨iz, hz⟩ := hz; obtain ⟨wn, gn⟩ := iz; dsimp only at hz; obtain rfl := hz.symm)
  have GN := (G0.trans G5).trans gn
  have HXN := Lib.hid (HX5.out.gr gn)
  clear hcb zx x0' x1' x2' x3' f0 f1 f2 f3 zd d0 d1 d2
  obtain ⟨zx, x0', x1', x2', x3', f0, f1, f2, f3⟩ := HXN.out
  have zg : gg < w.heap.size := hglt
  have cu := (GN.cell _ _ zg).trans hcu
  have fu := (GN.frozen gg (A'.length * 5 + 4) zg).trans (hfu _)
  have KK7 := Lib.hid (own_gr K7.out GN)
  have hfar2 : (Value.slice ua r.legs.length uc).ownBlock ≠ some gg := fun e => by
    rcases own_diff K7.out K2' (by decide) with h | h
    · rw [h] at e; cases e
    · exact h (by rw [e]; rfl)
  have hfar3 : (Value.slice ua r.legs.length uc).ownBlock ≠ some wp.heap.size := fun e => by
    have := own_lt K7.out _ e; have := G0.size; omega
  have hMz : M ≤ wn.heap.size := Nat.le_trans k5 GN.size
  obtain ⟨i0, j0, j1, j2, j3⟩ := info_parts Tryz.infoLg
  have K7' := K7
  clear K7
  go_upto_region 22 with fail
  have zgn := Nat.lt_of_lt_of_le zg GN.size
  go_region_law ((refine step_append_lies _ (by rfl) _ _ _ (by rfl) M 54 i0 _ 4 32 Tryz.underlying49 j0 j1 j2 j3 rfl (by omega) (.slice ua r.legs.length uc) r.legs.length (r.legs.flatMap Leg.cs) (by rfl) ((KK7.out.alloc _).drew) ⟨wn.heap.size, 0, none⟩ 1 1 [.bool false, .int .i64 at_, .int .i64 1, .int .i64 To] (by rfl) (by rfl) (World.news_of_block (cs := #[.bool false, .int .i64 at_, .int .i64 1, .int .i64 To]) (t := 54) (fr := (0, 0)) (heap_alloc_new wn _)) (by simp [Value.oneCell']) (by omega) (by unfold maxLen; omega) (by omega) (by simp; omega) (wn.heap.size + 1) (by simp) ?_; intro g9 cap w9 hown hgrow hat hlt; have cu9 := (hgrow.cell_far ⟨gg, A'.length * 5 + 4, none⟩ (by simp; omega) (Ne.symm hfar2)); have fu9 := (hgrow.frozen_far ⟨gg, A'.length * 5 + 4, none⟩ (by simp; omega) (Ne.symm hfar2))))
  all_goals go_wp2_with fail
  all_goals go_ret
  all_goals exact leg_endR (x := ⟨false, at_, 1, To⟩) (by decide) (by decide) HBX.out K1.out K2' K3A.out K7'.out (by unfold maxLen; omega) K4.out k5 k6 hbB hgb HG0.out hb (GN.trans ((Gr.refl wn).alloc _).drew) HRR.out hgrow hown
set_option maxRecDepth 100000 in
set_option maxHeartbeats 8000000 in
theorem rlegF_2 (b B : Nat) (bb o c : Nat) (t n : ByteArray) (P : Pln) (a1 a2 a3 a4 : Option Addr) (c1 c2 c3 c4 m : Nat) (D : Dgm) (w0 w : World)
    (hP : IsPln w0 (plnV P (.slice a1 P.es.length c1) (.slice a2 P.js.length c2) (.slice a3 P.ss.length c3) (.slice a4 P.ls.length c4)) P) (hb : w0.heap.size ≤ b) (g : Gr w0 w)
    (hR : Rd 31 b 0 B w D) (hbb : bb < w.heap.size) (yv : w.cell? ⟨bb, o, none⟩ = some (.string bGate)) (yt : w.cell? ⟨bb, o + 1, none⟩ = some (.string t)) (yn : w.cell? ⟨bb, o + 2, none⟩ = some (.string n))  (hcap : 3 ≤ c) (hst : t.size ≤ maxLen) (hsn : n.size ≤ maxLen) (hz : SzD m D) (hm : m ≤ 40000) (h1 : D.runs ≠ []) (h2 : nmB n = true) :
    Calls Tryz.prog 58 #[plnV P (.slice a1 P.es.length c1) (.slice a2 P.js.length c2) (.slice a3 P.ss.length c3) (.slice a4 P.ls.length c4), .pointer (some ⟨b, 0, none⟩), .slice (some ⟨bb, o, none⟩) 3 c] w ((RetLr 31 w0 b 0 B) (leg3 P D false bGate t n)) := by
  obtain ⟨sv, rv, hbx, hbB, A, M, k1, k2, k3, k4, k5, k6⟩ := hR
  obtain ⟨ra, rc, rfl⟩ := own_form k2
  have HBX := Lib.hid hbx
  have K1 := Lib.hid k1
  have K2 := Lib.hid k2
  have K3 := Lib.hid k3
  have K4 := Lib.hid k4
  have hAl : A.length = D.runs.length := by rw [← k4]; simp
  have hAl2 : A.length ≤ 40000 := by have := hz.2.1; omega
  have HAL := Lib.hid hAl
  have HZ := Lib.hid hz
  have HDD := Lib.hid (rd_cells0 hbx)
  have HY := Lib.hid (wrd_cells hbb yv yt yn)
  have HG0 := Lib.hid g
  have HPI := Lib.hid hP
  have HNM := Lib.hid (fun w' => refName_any n hsn w')
  have HCK := Lib.hid (fun w' => refParse_any t w' hst)
  have HTI := Lib.hid (fun w' => refTill_any D.beg (clkN t) w')
  have HNO := Lib.hid (fun h => leg3_no (P := P) (D := D) (tn := false) (v := bGate) (t := t) (n := n) h)
  have HAT := Lib.hid (fun (E : Int) h1 h2 h3 h4 h5 => leg3_at (P := P) (D := D) (tn := false) (v := bGate) (t := t) (n := n) (E := E) h1 h2 h3 h4 h5)
  generalize leg3 P D false bGate t n = R at HNO HAT ⊢
  clear k1 k2 k3 k4 hbx hP hz g hAl
  have tt : (bGate.toList == [116, 117, 114, 110]) = false := by rw [← turnL]; exact str_ne (by decide)
  have HNC : Hid (clkB t = false → R = .inl 2) := fun h => HNO.out (.inr (.inr (.inl h)))
  have hA : Hid (clkB t = true → R = if toW P 2 n < 0 then .inl 5 else .inr { D with runs := addLeg D.runs ⟨false, (clkN t - D.beg) % 86400, 2, toW P 2 n⟩ }) := fun h3 => HAT.out 2 h1 h2 h3 (by decide) (by decide)
  have HFN := Lib.hid (fun (w' : World) (g : Gr w w') => eleRef_any _ P n w' (HPI.out.gr (HG0.out.trans g)))
  unfold plnV at HFN
  have hE : eleN P n = toW P 2 n := rfl
  rw [hE] at HFN
  generalize toW P 2 n = To at HFN hA
  have t1 : ((A.length : Int) == 0) = false := beqF (by rw [HAL.out]; have := List.length_pos_iff.2 h1; omega)
  rw [h2] at HNM
  generalize (clkN t - D.beg) % 86400 = at_ at HTI hA
  have s1 : (bGate.toList == [103, 111]) = false := by rw [← goL]; exact str_ne (by decide)
  have s2 : (bGate.toList == [103, 97, 116, 101]) = true := by rw [gateL]; rfl
  clear HNO HAT hE
  unfold plnV
  have HPB := Lib.hid (PBox.new w P (.slice a1 P.es.length c1) (.slice a2 P.js.length c2) (.slice a3 P.ss.length c3) (.slice a4 P.ls.length c4))
  have G0 : Gr w (w.alloc (.cells #[.slice a1 P.es.length c1, .slice a2 P.js.length c2, .slice a3 P.ss.length c3, .slice a4 P.ls.length c4, .int .i64 P.top, .int .i64 P.brake, .int .i64 P.margin, .int .i64 P.throw, .bool P.hard] 27)) := (Gr.refl _).alloc _
  go_enter Tryz.func58, Tryz.ntmps58
  go_upto_region 1 with fail
  generalize (w.alloc (.cells #[.slice a1 P.es.length c1, .slice a2 P.js.length c2, .slice a3 P.ss.length c3, .slice a4 P.ls.length c4, .int .i64 P.top, .int .i64 P.brake, .int .i64 P.margin, .int .i64 P.throw, .bool P.hard] 27)) = wp at *
  obtain ⟨zy, y0, y1, y2⟩ := HY.out _ G0
  go_upto_region 5 with fail
  have HX := Lib.hid (XB.new wp (.bool false) (.int .i64 0) (.int .i64 0) (.int .i64 0) 54)
  have G1 : Gr wp (wp.alloc (.cells #[.bool false, .int .i64 0, .int .i64 0, .int .i64 0] 54)) := (Gr.refl _).alloc _
  generalize (wp.alloc (.cells #[.bool false, .int .i64 0, .int .i64 0, .int .i64 0] 54)) = w1 at *
  clear zy y0 y1 y2
  obtain ⟨zx, x0', x1', x2', x3', f0, f1, f2, f3⟩ := HX.out
  obtain ⟨zy, y0, y1, y2⟩ := HY.out _ (G0.trans G1)
  obtain ⟨zd, d0, d1, d2⟩ := HDD.out _ (G0.trans G1)
  have HS : Hid (∀ w', Gr wp w' → (w'.cell? ⟨w.heap.size, 0, none⟩ = some (.slice a1 P.es.length c1) ∧ w'.cell? ⟨w.heap.size, 1, none⟩ = some (.slice a2 P.js.length c2) ∧ w'.cell? ⟨w.heap.size, 2, none⟩ = some (.slice a3 P.ss.length c3) ∧ w'.cell? ⟨w.heap.size, 3, none⟩ = some (.slice a4 P.ls.length c4) ∧ w'.cell? ⟨w.heap.size, 4, none⟩ = some (.int .i64 P.top) ∧ w'.cell? ⟨w.heap.size, 5, none⟩ = some (.int .i64 P.brake) ∧ w'.cell? ⟨w.heap.size, 6, none⟩ = some (.int .i64 P.margin) ∧ w'.cell? ⟨w.heap.size, 7, none⟩ = some (.int .i64 P.throw) ∧ w'.cell? ⟨w.heap.size, 8, none⟩ = some (.bool P.hard) ∧ w'.cell? ⟨bb, o + 2, none⟩ = some (.string n))) := fun w' g => by
    obtain ⟨-, p0, p1, p2, p3, p4, p5, p6, p7, p8⟩ := HPB.out.gr g
    exact ⟨p0, p1, p2, p3, p4, p5, p6, p7, p8, (HY.out _ (G0.trans g)).2.2.2⟩
  go_upto_region 12 with (first | (go_at_call 38; (with_reducible refine (HNM.out _).mono ?_); rintro e w3 ⟨rfl, hq⟩; obtain rfl := hq.symm) | fail)
  clear zx x0' x1' x2' x3' f0 f1 f2 f3 zy y0 y1 y2 zd d0 d1 d2
  go_region_held3 (fun w' => w'.cell? ⟨w.heap.size, 0, none⟩ = some (.slice a1 P.es.length c1) ∧ w'.cell? ⟨w.heap.size, 1, none⟩ = some (.slice a2 P.js.length c2) ∧ w'.cell? ⟨w.heap.size, 2, none⟩ = some (.slice a3 P.ss.length c3) ∧ w'.cell? ⟨w.heap.size, 3, none⟩ = some (.slice a4 P.ls.length c4) ∧ w'.cell? ⟨w.heap.size, 4, none⟩ = some (.int .i64 P.top) ∧ w'.cell? ⟨w.heap.size, 5, none⟩ = some (.int .i64 P.brake) ∧ w'.cell? ⟨w.heap.size, 6, none⟩ = some (.int .i64 P.margin) ∧ w'.cell? ⟨w.heap.size, 7, none⟩ = some (.int .i64 P.throw) ∧ w'.cell? ⟨w.heap.size, 8, none⟩ = some (.bool P.hard) ∧ w'.cell? ⟨bb, o + 2, none⟩ = some (.string n)) (first | exact HS.out _ G1 | exact HS.out _ G1.drew | exact HS.out _ (G1.drew.trans h5) | exact HS.out _ ((G1.drew.trans h5).setCell (Nat.le_refl _) _) | exact HS.out _ (((G1.drew.trans h5).setCell (Nat.le_refl _) _).setCell (Nat.le_refl _) _)) (first | (go_at_call 91; (with_reducible refine (HFN.out _ (G0.trans G1.drew)).mono ?_); rintro e w5 ⟨rfl, h5⟩; obtain ⟨zx, x0', x1', x2', x3', f0, f1, f2, f3⟩ := HX.out.gr ((Gr.refl _).drew.trans h5)))
  have GZ := ((G1.drew.trans h5).setCell (p := ⟨wp.heap.size, 2, none⟩) (Nat.le_refl _) (.int .i64 2)).setCell (p := ⟨wp.heap.size, 3, none⟩) (Nat.le_refl _) (.int .i64 To)
  have HXZ := Lib.hid ((HX.out.gr ((Gr.refl _).drew.trans h5)).set23 (.int .i64 2) (.int .i64 To))
  clear zx x0' x1' x2' x3' f0 f1 f2 f3 HX
  generalize (w5.setCell ⟨wp.heap.size, 2, none⟩ (.int .i64 2)).setCell ⟨wp.heap.size, 3, none⟩ (.int .i64 To) = wz at *
  obtain ⟨zy, y0, y1, y2⟩ := HY.out _ (G0.trans GZ)
  generalize clkB t = q at HCK HNC hA
  cases q
  · have HR := Lib.hid (HNC.out rfl)
    go_wp2_with (first | (go_at_call 55; (with_reducible refine (HCK.out _).mono ?_); rintro e w4 ⟨rfl, g4⟩; have G4 := GZ.trans g4; obtain ⟨zx, x0', x1', x2', x3', f0, f1, f2, f3⟩ := HXZ.out.gr g4; obtain ⟨zd, d0, d1, d2⟩ := HDD.out _ (G0.trans G4)) | fail)
    (go_ret; exact RetLr.no HR.out (HG0.out.trans (G0.trans G4)))
  replace hA := Lib.hid (hA.out rfl)
  by_cases hto : To < 0
  · have HR : Hid (R = .inl 5) := by show _ = _; rw [hA.out, if_pos hto]
    go_wp2_with (first | (go_at_call 55; (with_reducible refine (HCK.out _).mono ?_); rintro e w4 ⟨rfl, g4⟩; have G4 := GZ.trans g4; obtain ⟨zx, x0', x1', x2', x3', f0, f1, f2, f3⟩ := HXZ.out.gr g4; obtain ⟨zd, d0, d1, d2⟩ := HDD.out _ (G0.trans G4)) | fail)
    (go_ret; exact RetLr.no HR.out (HG0.out.trans (G0.trans G4)))
  have HR := hA.out
  rw [if_neg hto] at HR
  have HRR := Lib.hid HR
  clear HR hA HNC
  go_upto_region 20 with (first | (go_at_call 55; (with_reducible refine (HCK.out _).mono ?_); rintro e w4 ⟨rfl, g4⟩; have G4 := GZ.trans g4; obtain ⟨zx, x0', x1', x2', x3', f0, f1, f2, f3⟩ := HXZ.out.gr g4; obtain ⟨zd, d0, d1, d2⟩ := HDD.out _ (G0.trans G4)) | fail)
  obtain ⟨A', r, u, rfl, k3a, k7, k8⟩ := runs_snoc K3.out K4.out h1
  obtain ⟨gg, rcap, hform, hgb, hglt⟩ := K2.out.form (by simp)
  simp only [Value.slice.injEq] at hform
  obtain ⟨rfl, -, rfl⟩ := hform
  have hlen : (A' ++ [(r, u)]).length = A'.length + 1 := by simp
  have K2' : OwnRn B w (.slice (some ⟨gg, 0, none⟩) (A'.length + 1) rc) (A' ++ [(r, u)]) := by rw [← hlen]; exact K2.out
  rw [hlen] at HDD HBX hAl2 d2
  obtain ⟨hcu, hfu⟩ := run_cell K2'
  have hrl : r.legs.length ≤ 40000 := by
    have hmem : r ∈ D.runs := by rw [← K4.out]; simp
    have := (HZ.out.2.2.1 r hmem).1; omega
  obtain ⟨ua, uc, rfl⟩ := own_form k7
  have hidx : IntKind.i64.wrap (((A'.length + 1 : Nat) : Int) - 1) = (A'.length : Int) := by rw [IntWalk.i64_in _ (by omega)]; omega
  have hi0 : (0 : Int) ≤ (A'.length : Int) := Int.natCast_nonneg _
  have hi1 : (A'.length : Int) < ((A'.length + 1 : Nat) : Int) := by omega
  have K3A := Lib.hid k3a
  have K7 := Lib.hid k7
  clear k3a k7 K2 K3 t1
  go_upto_region 21 with (first | (go_at_call 92; (with_reducible refine (HTI.out _).mono ?_); rintro e w5 ⟨rfl, rfl⟩) | fail)
  have G5 := G4.setCell (p := ⟨wp.heap.size, 1, none⟩) (Nat.le_refl _) (.int .i64 at_)
  have HX5 := Lib.hid ((HXZ.out.gr g4).set1 (.int .i64 at_))
  clear zx x0' x1' x2' x3' f0 f1 f2 f3 zd d0 d1 d2 zy y0 y1 y2
  generalize w4.setCell ⟨wp.heap.size, 1, none⟩ (.int .i64 at_) = w6 at *
  obtain ⟨zx, x0', x1', x2', x3', f0, f1, f2, f3⟩ := HX5.out
  obtain ⟨zd, d0, d1, d2⟩ := HDD.out _ (G0.trans G5)
  have hcb := fun (i : GrW w6) (o : Nat) => GrW.cell zd i o
  (refine wp_region_gr (by kernel_rfl) (by kernel_rfl) ?_; (repeat (go_big_quiet_step (fail))); refine wpQuiet_nil ?_; intro wz hz; obtain ⟨iz, hz⟩ := hz; obtain ⟨wn, gn⟩ := iz; dsimp only at hz; obtain rfl := hz.symm)
  have GN := (G0.trans G5).trans gn
  have HXN := Lib.hid (HX5.out.gr gn)
  clear hcb zx x0' x1' x2' x3' f0 f1 f2 f3 zd d0 d1 d2
  obtain ⟨zx, x0', x1', x2', x3', f0, f1, f2, f3⟩ := HXN.out
  have zg : gg < w.heap.size := hglt
  have cu := (GN.cell _ _ zg).trans hcu
  have fu := (GN.frozen gg (A'.length * 5 + 4) zg).trans (hfu _)
  have KK7 := Lib.hid (own_gr K7.out GN)
  have hfar2 : (Value.slice ua r.legs.length uc).ownBlock ≠ some gg := fun e => by
    rcases own_diff K7.out K2' (by decide) with h | h
    · rw [h] at e; cases e
    · exact h (by rw [e]; rfl)
  have hfar3 : (Value.slice ua r.legs.length uc).ownBlock ≠ some wp.heap.size := fun e => by
    have := own_lt K7.out _ e; have := G0.size; omega
  have hMz : M ≤ wn.heap.size := Nat.le_trans k5 GN.size
  obtain ⟨i0, j0, j1, j2, j3⟩ := info_parts Tryz.infoLg
  have K7' := K7
  clear K7
  go_upto_region 22 with fail
  have zgn := Nat.lt_of_lt_of_le zg GN.size
  go_region_law ((refine step_append_lies _ (by rfl) _ _ _ (by rfl) M 54 i0 _ 4 32 Tryz.underlying49 j0 j1 j2 j3 rfl (by omega) (.slice ua r.legs.length uc) r.legs.length (r.legs.flatMap Leg.cs) (by rfl) ((KK7.out.alloc _).drew) ⟨wn.heap.size, 0, none⟩ 1 1 [.bool false, .int .i64 at_, .int .i64 2, .int .i64 To] (by rfl) (by rfl) (World.news_of_block (cs := #[.bool false, .int .i64 at_, .int .i64 2, .int .i64 To]) (t := 54) (fr := (0, 0)) (heap_alloc_new wn _)) (by simp [Value.oneCell']) (by omega) (by unfold maxLen; omega) (by omega) (by simp; omega) (wn.heap.size + 1) (by simp) ?_; intro g9 cap w9 hown hgrow hat hlt; have cu9 := (hgrow.cell_far ⟨gg, A'.length * 5 + 4, none⟩ (by simp; omega) (Ne.symm hfar2)); have fu9 := (hgrow.frozen_far ⟨gg, A'.length * 5 + 4, none⟩ (by simp; omega) (Ne.symm hfar2))))
  all_goals go_wp2_with fail
  all_goals go_ret
  all_goals exact leg_endR (x := ⟨false, at_, 2, To⟩) (by decide) (by decide) HBX.out K1.out K2' K3A.out K7'.out (by unfold maxLen; omega) K4.out k5 k6 hbB hgb HG0.out hb (GN.trans ((Gr.refl wn).alloc _).drew) HRR.out hgrow hown
set_option maxRecDepth 100000 in
set_option maxHeartbeats 8000000 in
theorem rlegF_3 (b B : Nat) (bb o c : Nat) (t n : ByteArray) (P : Pln) (a1 a2 a3 a4 : Option Addr) (c1 c2 c3 c4 m : Nat) (D : Dgm) (w0 w : World)
    (hP : IsPln w0 (plnV P (.slice a1 P.es.length c1) (.slice a2 P.js.length c2) (.slice a3 P.ss.length c3) (.slice a4 P.ls.length c4)) P) (hb : w0.heap.size ≤ b) (g : Gr w0 w)
    (hR : Rd 31 b 0 B w D) (hbb : bb < w.heap.size) (yv : w.cell? ⟨bb, o, none⟩ = some (.string bBuffer)) (yt : w.cell? ⟨bb, o + 1, none⟩ = some (.string t)) (yn : w.cell? ⟨bb, o + 2, none⟩ = some (.string n))  (hcap : 3 ≤ c) (hst : t.size ≤ maxLen) (hsn : n.size ≤ maxLen) (hz : SzD m D) (hm : m ≤ 40000) (h1 : D.runs ≠ []) (h2 : nmB n = true) :
    Calls Tryz.prog 58 #[plnV P (.slice a1 P.es.length c1) (.slice a2 P.js.length c2) (.slice a3 P.ss.length c3) (.slice a4 P.ls.length c4), .pointer (some ⟨b, 0, none⟩), .slice (some ⟨bb, o, none⟩) 3 c] w ((RetLr 31 w0 b 0 B) (leg3 P D false bBuffer t n)) := by
  obtain ⟨sv, rv, hbx, hbB, A, M, k1, k2, k3, k4, k5, k6⟩ := hR
  obtain ⟨ra, rc, rfl⟩ := own_form k2
  have HBX := Lib.hid hbx
  have K1 := Lib.hid k1
  have K2 := Lib.hid k2
  have K3 := Lib.hid k3
  have K4 := Lib.hid k4
  have hAl : A.length = D.runs.length := by rw [← k4]; simp
  have hAl2 : A.length ≤ 40000 := by have := hz.2.1; omega
  have HAL := Lib.hid hAl
  have HZ := Lib.hid hz
  have HDD := Lib.hid (rd_cells0 hbx)
  have HY := Lib.hid (wrd_cells hbb yv yt yn)
  have HG0 := Lib.hid g
  have HPI := Lib.hid hP
  have HNM := Lib.hid (fun w' => refName_any n hsn w')
  have HCK := Lib.hid (fun w' => refParse_any t w' hst)
  have HTI := Lib.hid (fun w' => refTill_any D.beg (clkN t) w')
  have HNO := Lib.hid (fun h => leg3_no (P := P) (D := D) (tn := false) (v := bBuffer) (t := t) (n := n) h)
  have HAT := Lib.hid (fun (E : Int) h1 h2 h3 h4 h5 => leg3_at (P := P) (D := D) (tn := false) (v := bBuffer) (t := t) (n := n) (E := E) h1 h2 h3 h4 h5)
  generalize leg3 P D false bBuffer t n = R at HNO HAT ⊢
  clear k1 k2 k3 k4 hbx hP hz g hAl
  have tt : (bBuffer.toList == [116, 117, 114, 110]) = false := by rw [← turnL]; exact str_ne (by decide)
  have HNC : Hid (clkB t = false → R = .inl 2) := fun h => HNO.out (.inr (.inr (.inl h)))
  have hA : Hid (clkB t = true → R = if toW P 3 n < 0 then .inl 5 else .inr { D with runs := addLeg D.runs ⟨false, (clkN t - D.beg) % 86400, 3, toW P 3 n⟩ }) := fun h3 => HAT.out 3 h1 h2 h3 (by decide) (by decide)
  have HFN := Lib.hid (fun (w' : World) (g : Gr w w') => eleRef_any _ P n w' (HPI.out.gr (HG0.out.trans g)))
  unfold plnV at HFN
  have hE : eleN P n = toW P 3 n := rfl
  rw [hE] at HFN
  generalize toW P 3 n = To at HFN hA
  have t1 : ((A.length : Int) == 0) = false := beqF (by rw [HAL.out]; have := List.length_pos_iff.2 h1; omega)
  rw [h2] at HNM
  generalize (clkN t - D.beg) % 86400 = at_ at HTI hA
  have s1 : (bBuffer.toList == [103, 111]) = false := by rw [← goL]; exact str_ne (by decide)
  have s2 : (bBuffer.toList == [103, 97, 116, 101]) = false := by rw [← gateL]; exact str_ne (by decide)
  have s3 : (bBuffer.toList == [98, 117, 102, 102, 101, 114]) = true := by rw [bufferL]; rfl
  clear HNO HAT hE
  unfold plnV
  have HPB := Lib.hid (PBox.new w P (.slice a1 P.es.length c1) (.slice a2 P.js.length c2) (.slice a3 P.ss.length c3) (.slice a4 P.ls.length c4))
  have G0 : Gr w (w.alloc (.cells #[.slice a1 P.es.length c1, .slice a2 P.js.length c2, .slice a3 P.ss.length c3, .slice a4 P.ls.length c4, .int .i64 P.top, .int .i64 P.brake, .int .i64 P.margin, .int .i64 P.throw, .bool P.hard] 27)) := (Gr.refl _).alloc _
  go_enter Tryz.func58, Tryz.ntmps58
  go_upto_region 1 with fail
  generalize (w.alloc (.cells #[.slice a1 P.es.length c1, .slice a2 P.js.length c2, .slice a3 P.ss.length c3, .slice a4 P.ls.length c4, .int .i64 P.top, .int .i64 P.brake, .int .i64 P.margin, .int .i64 P.throw, .bool P.hard] 27)) = wp at *
  obtain ⟨zy, y0, y1, y2⟩ := HY.out _ G0
  go_upto_region 5 with fail
  have HX := Lib.hid (XB.new wp (.bool false) (.int .i64 0) (.int .i64 0) (.int .i64 0) 54)
  have G1 : Gr wp (wp.alloc (.cells #[.bool false, .int .i64 0, .int .i64 0, .int .i64 0] 54)) := (Gr.refl _).alloc _
  generalize (wp.alloc (.cells #[.bool false, .int .i64 0, .int .i64 0, .int .i64 0] 54)) = w1 at *
  clear zy y0 y1 y2
  obtain ⟨zx, x0', x1', x2', x3', f0, f1, f2, f3⟩ := HX.out
  obtain ⟨zy, y0, y1, y2⟩ := HY.out _ (G0.trans G1)
  obtain ⟨zd, d0, d1, d2⟩ := HDD.out _ (G0.trans G1)
  have HS : Hid (∀ w', Gr wp w' → (w'.cell? ⟨w.heap.size, 0, none⟩ = some (.slice a1 P.es.length c1) ∧ w'.cell? ⟨w.heap.size, 1, none⟩ = some (.slice a2 P.js.length c2) ∧ w'.cell? ⟨w.heap.size, 2, none⟩ = some (.slice a3 P.ss.length c3) ∧ w'.cell? ⟨w.heap.size, 3, none⟩ = some (.slice a4 P.ls.length c4) ∧ w'.cell? ⟨w.heap.size, 4, none⟩ = some (.int .i64 P.top) ∧ w'.cell? ⟨w.heap.size, 5, none⟩ = some (.int .i64 P.brake) ∧ w'.cell? ⟨w.heap.size, 6, none⟩ = some (.int .i64 P.margin) ∧ w'.cell? ⟨w.heap.size, 7, none⟩ = some (.int .i64 P.throw) ∧ w'.cell? ⟨w.heap.size, 8, none⟩ = some (.bool P.hard) ∧ w'.cell? ⟨bb, o + 2, none⟩ = some (.string n))) := fun w' g => by
    obtain ⟨-, p0, p1, p2, p3, p4, p5, p6, p7, p8⟩ := HPB.out.gr g
    exact ⟨p0, p1, p2, p3, p4, p5, p6, p7, p8, (HY.out _ (G0.trans g)).2.2.2⟩
  go_upto_region 14 with (first | (go_at_call 38; (with_reducible refine (HNM.out _).mono ?_); rintro e w3 ⟨rfl, hq⟩; obtain rfl := hq.symm) | fail)
  clear zx x0' x1' x2' x3' f0 f1 f2 f3 zy y0 y1 y2 zd d0 d1 d2
  go_region_held3 (fun w' => w'.cell? ⟨w.heap.size, 0, none⟩ = some (.slice a1 P.es.length c1) ∧ w'.cell? ⟨w.heap.size, 1, none⟩ = some (.slice a2 P.js.length c2) ∧ w'.cell? ⟨w.heap.size, 2, none⟩ = some (.slice a3 P.ss.length c3) ∧ w'.cell? ⟨w.heap.size, 3, none⟩ = some (.slice a4 P.ls.length c4) ∧ w'.cell? ⟨w.heap.size, 4, none⟩ = some (.int .i64 P.top) ∧ w'.cell? ⟨w.heap.size, 5, none⟩ = some (.int .i64 P.brake) ∧ w'.cell? ⟨w.heap.size, 6, none⟩ = some (.int .i64 P.margin) ∧ w'.cell? ⟨w.heap.size, 7, none⟩ = some (.int .i64 P.throw) ∧ w'.cell? ⟨w.heap.size, 8, none⟩ = some (.bool P.hard) ∧ w'.cell? ⟨bb, o + 2, none⟩ = some (.string n)) (first | exact HS.out _ G1 | exact HS.out _ G1.drew | exact HS.out _ (G1.drew.trans h5) | exact HS.out _ ((G1.drew.trans h5).setCell (Nat.le_refl _) _) | exact HS.out _ (((G1.drew.trans h5).setCell (Nat.le_refl _) _).setCell (Nat.le_refl _) _)) (first | (go_at_call 91; (with_reducible refine (HFN.out _ (G0.trans G1.drew)).mono ?_); rintro e w5 ⟨rfl, h5⟩; obtain ⟨zx, x0', x1', x2', x3', f0, f1, f2, f3⟩ := HX.out.gr ((Gr.refl _).drew.trans h5)))
  have GZ := ((G1.drew.trans h5).setCell (p := ⟨wp.heap.size, 2, none⟩) (Nat.le_refl _) (.int .i64 3)).setCell (p := ⟨wp.heap.size, 3, none⟩) (Nat.le_refl _) (.int .i64 To)
  have HXZ := Lib.hid ((HX.out.gr ((Gr.refl _).drew.trans h5)).set23 (.int .i64 3) (.int .i64 To))
  clear zx x0' x1' x2' x3' f0 f1 f2 f3 HX
  generalize (w5.setCell ⟨wp.heap.size, 2, none⟩ (.int .i64 3)).setCell ⟨wp.heap.size, 3, none⟩ (.int .i64 To) = wz at *
  obtain ⟨zy, y0, y1, y2⟩ := HY.out _ (G0.trans GZ)
  generalize clkB t = q at HCK HNC hA
  cases q
  · have HR := Lib.hid (HNC.out rfl)
    go_wp2_with (first | (go_at_call 55; (with_reducible refine (HCK.out _).mono ?_); rintro e w4 ⟨rfl, g4⟩; have G4 := GZ.trans g4; obtain ⟨zx, x0', x1', x2', x3', f0, f1, f2, f3⟩ := HXZ.out.gr g4; obtain ⟨zd, d0, d1, d2⟩ := HDD.out _ (G0.trans G4)) | fail)
    (go_ret; exact RetLr.no HR.out (HG0.out.trans (G0.trans G4)))
  replace hA := Lib.hid (hA.out rfl)
  by_cases hto : To < 0
  · have HR : Hid (R = .inl 5) := by show _ = _; rw [hA.out, if_pos hto]
    go_wp2_with (first | (go_at_call 55; (with_reducible refine (HCK.out _).mono ?_); rintro e w4 ⟨rfl, g4⟩; have G4 := GZ.trans g4; obtain ⟨zx, x0', x1', x2', x3', f0, f1, f2, f3⟩ := HXZ.out.gr g4; obtain ⟨zd, d0, d1, d2⟩ := HDD.out _ (G0.trans G4)) | fail)
    (go_ret; exact RetLr.no HR.out (HG0.out.trans (G0.trans G4)))
  have HR := hA.out
  rw [if_neg hto] at HR
  have HRR := Lib.hid HR
  clear HR hA HNC
  go_upto_region 20 with (first | (go_at_call 55; (with_reducible refine (HCK.out _).mono ?_); rintro e w4 ⟨rfl, g4⟩; have G4 := GZ.trans g4; obtain ⟨zx, x0', x1', x2', x3', f0, f1, f2, f3⟩ := HXZ.out.gr g4; obtain ⟨zd, d0, d1, d2⟩ := HDD.out _ (G0.trans G4)) | fail)
  obtain ⟨A', r, u, rfl, k3a, k7, k8⟩ := runs_snoc K3.out K4.out h1
  obtain ⟨gg, rcap, hform, hgb, hglt⟩ := K2.out.form (by simp)
  simp only [Value.slice.injEq] at hform
  obtain ⟨rfl, -, rfl⟩ := hform
  have hlen : (A' ++ [(r, u)]).length = A'.length + 1 := by simp
  have K2' : OwnRn B w (.slice (some ⟨gg, 0, none⟩) (A'.length + 1) rc) (A' ++ [(r, u)]) := by rw [← hlen]; exact K2.out
  rw [hlen] at HDD HBX hAl2 d2
  obtain ⟨hcu, hfu⟩ := run_cell K2'
  have hrl : r.legs.length ≤ 40000 := by
    have hmem : r ∈ D.runs := by rw [← K4.out]; simp
    have := (HZ.out.2.2.1 r hmem).1; omega
  obtain ⟨ua, uc, rfl⟩ := own_form k7
  have hidx : IntKind.i64.wrap (((A'.length + 1 : Nat) : Int) - 1) = (A'.length : Int) := by rw [IntWalk.i64_in _ (by omega)]; omega
  have hi0 : (0 : Int) ≤ (A'.length : Int) := Int.natCast_nonneg _
  have hi1 : (A'.length : Int) < ((A'.length + 1 : Nat) : Int) := by omega
  have K3A := Lib.hid k3a
  have K7 := Lib.hid k7
  clear k3a k7 K2 K3 t1
  go_upto_region 21 with (first | (go_at_call 92; (with_reducible refine (HTI.out _).mono ?_); rintro e w5 ⟨rfl, rfl⟩) | fail)
  have G5 := G4.setCell (p := ⟨wp.heap.size, 1, none⟩) (Nat.le_refl _) (.int .i64 at_)
  have HX5 := Lib.hid ((HXZ.out.gr g4).set1 (.int .i64 at_))
  clear zx x0' x1' x2' x3' f0 f1 f2 f3 zd d0 d1 d2 zy y0 y1 y2
  generalize w4.setCell ⟨wp.heap.size, 1, none⟩ (.int .i64 at_) = w6 at *
  obtain ⟨zx, x0', x1', x2', x3', f0, f1, f2, f3⟩ := HX5.out
  obtain ⟨zd, d0, d1, d2⟩ := HDD.out _ (G0.trans G5)
  have hcb := fun (i : GrW w6) (o : Nat) => GrW.cell zd i o
  (refine wp_region_gr (by kernel_rfl) (by kernel_rfl) ?_; (repeat (go_big_quiet_step (fail))); refine wpQuiet_nil ?_; intro wz hz; obtain ⟨iz, hz⟩ := hz; obtain ⟨wn, gn⟩ := iz; dsimp only at hz; obtain rfl := hz.symm)
  have GN := (G0.trans G5).trans gn
  have HXN := Lib.hid (HX5.out.gr gn)
  clear hcb zx x0' x1' x2' x3' f0 f1 f2 f3 zd d0 d1 d2
  obtain ⟨zx, x0', x1', x2', x3', f0, f1, f2, f3⟩ := HXN.out
  have zg : gg < w.heap.size := hglt
  have cu := (GN.cell _ _ zg).trans hcu
  have fu := (GN.frozen gg (A'.length * 5 + 4) zg).trans (hfu _)
  have KK7 := Lib.hid (own_gr K7.out GN)
  have hfar2 : (Value.slice ua r.legs.length uc).ownBlock ≠ some gg := fun e => by
    rcases own_diff K7.out K2' (by decide) with h | h
    · rw [h] at e; cases e
    · exact h (by rw [e]; rfl)
  have hfar3 : (Value.slice ua r.legs.length uc).ownBlock ≠ some wp.heap.size := fun e => by
    have := own_lt K7.out _ e; have := G0.size; omega
  have hMz : M ≤ wn.heap.size := Nat.le_trans k5 GN.size
  obtain ⟨i0, j0, j1, j2, j3⟩ := info_parts Tryz.infoLg
  have K7' := K7
  clear K7
  go_upto_region 22 with fail
  have zgn := Nat.lt_of_lt_of_le zg GN.size
  go_region_law ((refine step_append_lies _ (by rfl) _ _ _ (by rfl) M 54 i0 _ 4 32 Tryz.underlying49 j0 j1 j2 j3 rfl (by omega) (.slice ua r.legs.length uc) r.legs.length (r.legs.flatMap Leg.cs) (by rfl) ((KK7.out.alloc _).drew) ⟨wn.heap.size, 0, none⟩ 1 1 [.bool false, .int .i64 at_, .int .i64 3, .int .i64 To] (by rfl) (by rfl) (World.news_of_block (cs := #[.bool false, .int .i64 at_, .int .i64 3, .int .i64 To]) (t := 54) (fr := (0, 0)) (heap_alloc_new wn _)) (by simp [Value.oneCell']) (by omega) (by unfold maxLen; omega) (by omega) (by simp; omega) (wn.heap.size + 1) (by simp) ?_; intro g9 cap w9 hown hgrow hat hlt; have cu9 := (hgrow.cell_far ⟨gg, A'.length * 5 + 4, none⟩ (by simp; omega) (Ne.symm hfar2)); have fu9 := (hgrow.frozen_far ⟨gg, A'.length * 5 + 4, none⟩ (by simp; omega) (Ne.symm hfar2))))
  all_goals go_wp2_with fail
  all_goals go_ret
  all_goals exact leg_endR (x := ⟨false, at_, 3, To⟩) (by decide) (by decide) HBX.out K1.out K2' K3A.out K7'.out (by unfold maxLen; omega) K4.out k5 k6 hbB hgb HG0.out hb (GN.trans ((Gr.refl wn).alloc _).drew) HRR.out hgrow hown
set_option maxRecDepth 100000 in
set_option maxHeartbeats 8000000 in
theorem rlegT_1 (b B : Nat) (bb o c : Nat) (t n : ByteArray) (P : Pln) (a1 a2 a3 a4 : Option Addr) (c1 c2 c3 c4 m : Nat) (D : Dgm) (w0 w : World)
    (hP : IsPln w0 (plnV P (.slice a1 P.es.length c1) (.slice a2 P.js.length c2) (.slice a3 P.ss.length c3) (.slice a4 P.ls.length c4)) P) (hb : w0.heap.size ≤ b) (g : Gr w0 w)
    (hR : Rd 31 b 0 B w D) (hbb : bb < w.heap.size) (yy : w.cell? ⟨bb, o, none⟩ = some (.string bTurn)) (yv : w.cell? ⟨bb, o + 1, none⟩ = some (.string bGo)) (yt : w.cell? ⟨bb, o + 1 + 1, none⟩ = some (.string t)) (yn : w.cell? ⟨bb, o + 1 + 2, none⟩ = some (.string n)) (hcap : 4 ≤ c) (hst : t.size ≤ maxLen) (hsn : n.size ≤ maxLen) (hz : SzD m D) (hm : m ≤ 40000) (h1 : D.runs ≠ []) (h2 : nmB n = true) :
    Calls Tryz.prog 58 #[plnV P (.slice a1 P.es.length c1) (.slice a2 P.js.length c2) (.slice a3 P.ss.length c3) (.slice a4 P.ls.length c4), .pointer (some ⟨b, 0, none⟩), .slice (some ⟨bb, o, none⟩) 4 c] w ((RetLr 31 w0 b 0 B) (leg3 P D true bGo t n)) := by
  obtain ⟨sv, rv, hbx, hbB, A, M, k1, k2, k3, k4, k5, k6⟩ := hR
  obtain ⟨ra, rc, rfl⟩ := own_form k2
  have HBX := Lib.hid hbx
  have K1 := Lib.hid k1
  have K2 := Lib.hid k2
  have K3 := Lib.hid k3
  have K4 := Lib.hid k4
  have hAl : A.length = D.runs.length := by rw [← k4]; simp
  have hAl2 : A.length ≤ 40000 := by have := hz.2.1; omega
  have HAL := Lib.hid hAl
  have HZ := Lib.hid hz
  have HDD := Lib.hid (rd_cells0 hbx)
  have HY := Lib.hid (wrd_cells hbb yv yt yn)
  have HG0 := Lib.hid g
  have HPI := Lib.hid hP
  have HNM := Lib.hid (fun w' => refName_any n hsn w')
  have HCK := Lib.hid (fun w' => refParse_any t w' hst)
  have HTI := Lib.hid (fun w' => refTill_any D.beg (clkN t) w')
  have HNO := Lib.hid (fun h => leg3_no (P := P) (D := D) (tn := true) (v := bGo) (t := t) (n := n) h)
  have HAT := Lib.hid (fun (E : Int) h1 h2 h3 h4 h5 => leg3_at (P := P) (D := D) (tn := true) (v := bGo) (t := t) (n := n) (E := E) h1 h2 h3 h4 h5)
  generalize leg3 P D true bGo t n = R at HNO HAT ⊢
  clear k1 k2 k3 k4 hbx hP hz g hAl
  have HSL := slice_rest4 bb o c hcap
  have tt : (bTurn.toList == [116, 117, 114, 110]) = true := by rw [turnL]; rfl
  have HNC : Hid (clkB t = false → R = .inl 2) := fun h => HNO.out (.inr (.inr (.inl h)))
  have hA : Hid (clkB t = true → R = if toW P 1 n < 0 then .inl 5 else .inr { D with runs := addLeg D.runs ⟨true, (clkN t - D.beg) % 86400, 1, toW P 1 n⟩ }) := fun h3 => HAT.out 1 h1 h2 h3 (by decide) (by decide)
  have HFN := Lib.hid (fun (w' : World) (g : Gr w w') => sigRef_any _ P n w' (HPI.out.gr (HG0.out.trans g)))
  unfold plnV at HFN
  have hE : sigN P n = toW P 1 n := rfl
  rw [hE] at HFN
  generalize toW P 1 n = To at HFN hA
  have t1 : ((A.length : Int) == 0) = false := beqF (by rw [HAL.out]; have := List.length_pos_iff.2 h1; omega)
  rw [h2] at HNM
  generalize (clkN t - D.beg) % 86400 = at_ at HTI hA
  have s1 : (bGo.toList == [103, 111]) = true := by rw [goL]; rfl
  clear HNO HAT hE
  unfold plnV
  have HPB := Lib.hid (PBox.new w P (.slice a1 P.es.length c1) (.slice a2 P.js.length c2) (.slice a3 P.ss.length c3) (.slice a4 P.ls.length c4))
  have G0 : Gr w (w.alloc (.cells #[.slice a1 P.es.length c1, .slice a2 P.js.length c2, .slice a3 P.ss.length c3, .slice a4 P.ls.length c4, .int .i64 P.top, .int .i64 P.brake, .int .i64 P.margin, .int .i64 P.throw, .bool P.hard] 27)) := (Gr.refl _).alloc _
  go_enter Tryz.func58, Tryz.ntmps58
  go_upto_region 1 with fail
  generalize (w.alloc (.cells #[.slice a1 P.es.length c1, .slice a2 P.js.length c2, .slice a3 P.ss.length c3, .slice a4 P.ls.length c4, .int .i64 P.top, .int .i64 P.brake, .int .i64 P.margin, .int .i64 P.throw, .bool P.hard] 27)) = wp at *
  obtain ⟨zy, y0, y1, y2⟩ := HY.out _ G0
  have yw := (G0.cell _ _ hbb).trans yy
  go_upto_region 3 with fail
  have HX0 := Lib.hid (XB.new wp (.bool false) (.int .i64 0) (.int .i64 0) (.int .i64 0) 54)
  obtain ⟨zx, x0', x1', x2', x3', f0, f1, f2, f3⟩ := HX0.out
  go_upto_region 5 with fail
  clear zx x0' x1' x2' x3' f0 f1 f2 f3 HX0 HSL yw
  have HX := Lib.hid (XB.new wp (.bool true) (.int .i64 0) (.int .i64 0) (.int .i64 0) 54)
  have G1 : Gr wp (wp.alloc (.cells #[.bool true, .int .i64 0, .int .i64 0, .int .i64 0] 54)) := (Gr.refl _).alloc _
  generalize (wp.alloc (.cells #[.bool true, .int .i64 0, .int .i64 0, .int .i64 0] 54)) = w1 at *
  clear zy y0 y1 y2
  obtain ⟨zx, x0', x1', x2', x3', f0, f1, f2, f3⟩ := HX.out
  obtain ⟨zy, y0, y1, y2⟩ := HY.out _ (G0.trans G1)
  obtain ⟨zd, d0, d1, d2⟩ := HDD.out _ (G0.trans G1)
  have HS : Hid (∀ w', Gr wp w' → (w'.cell? ⟨w.heap.size, 0, none⟩ = some (.slice a1 P.es.length c1) ∧ w'.cell? ⟨w.heap.size, 1, none⟩ = some (.slice a2 P.js.length c2) ∧ w'.cell? ⟨w.heap.size, 2, none⟩ = some (.slice a3 P.ss.length c3) ∧ w'.cell? ⟨w.heap.size, 3, none⟩ = some (.slice a4 P.ls.length c4) ∧ w'.cell? ⟨w.heap.size, 4, none⟩ = some (.int .i64 P.top) ∧ w'.cell? ⟨w.heap.size, 5, none⟩ = some (.int .i64 P.brake) ∧ w'.cell? ⟨w.heap.size, 6, none⟩ = some (.int .i64 P.margin) ∧ w'.cell? ⟨w.heap.size, 7, none⟩ = some (.int .i64 P.throw) ∧ w'.cell? ⟨w.heap.size, 8, none⟩ = some (.bool P.hard) ∧ w'.cell? ⟨bb, o + 1 + 2, none⟩ = some (.string n))) := fun w' g => by
    obtain ⟨-, p0, p1, p2, p3, p4, p5, p6, p7, p8⟩ := HPB.out.gr g
    exact ⟨p0, p1, p2, p3, p4, p5, p6, p7, p8, (HY.out _ (G0.trans g)).2.2.2⟩
  go_upto_region 10 with (first | (go_at_call 38; (with_reducible refine (HNM.out _).mono ?_); rintro e w3 ⟨rfl, hq⟩; obtain rfl := hq.symm) | fail)
  clear zx x0' x1' x2' x3' f0 f1 f2 f3 zy y0 y1 y2 zd d0 d1 d2
  go_region_held3 (fun w' => w'.cell? ⟨w.heap.size, 0, none⟩ = some (.slice a1 P.es.length c1) ∧ w'.cell? ⟨w.heap.size, 1, none⟩ = some (.slice a2 P.js.length c2) ∧ w'.cell? ⟨w.heap.size, 2, none⟩ = some (.slice a3 P.ss.length c3) ∧ w'.cell? ⟨w.heap.size, 3, none⟩ = some (.slice a4 P.ls.length c4) ∧ w'.cell? ⟨w.heap.size, 4, none⟩ = some (.int .i64 P.top) ∧ w'.cell? ⟨w.heap.size, 5, none⟩ = some (.int .i64 P.brake) ∧ w'.cell? ⟨w.heap.size, 6, none⟩ = some (.int .i64 P.margin) ∧ w'.cell? ⟨w.heap.size, 7, none⟩ = some (.int .i64 P.throw) ∧ w'.cell? ⟨w.heap.size, 8, none⟩ = some (.bool P.hard) ∧ w'.cell? ⟨bb, o + 1 + 2, none⟩ = some (.string n)) (first | exact HS.out _ G1 | exact HS.out _ G1.drew | exact HS.out _ (G1.drew.trans h5) | exact HS.out _ ((G1.drew.trans h5).setCell (Nat.le_refl _) _) | exact HS.out _ (((G1.drew.trans h5).setCell (Nat.le_refl _) _).setCell (Nat.le_refl _) _)) (first | (go_at_call 90; (with_reducible refine (HFN.out _ (G0.trans G1.drew)).mono ?_); rintro e w5 ⟨rfl, h5⟩; obtain ⟨zx, x0', x1', x2', x3', f0, f1, f2, f3⟩ := HX.out.gr ((Gr.refl _).drew.trans h5)))
  have GZ := ((G1.drew.trans h5).setCell (p := ⟨wp.heap.size, 2, none⟩) (Nat.le_refl _) (.int .i64 1)).setCell (p := ⟨wp.heap.size, 3, none⟩) (Nat.le_refl _) (.int .i64 To)
  have HXZ := Lib.hid ((HX.out.gr ((Gr.refl _).drew.trans h5)).set23 (.int .i64 1) (.int .i64 To))
  clear zx x0' x1' x2' x3' f0 f1 f2 f3 HX
  generalize (w5.setCell ⟨wp.heap.size, 2, none⟩ (.int .i64 1)).setCell ⟨wp.heap.size, 3, none⟩ (.int .i64 To) = wz at *
  obtain ⟨zy, y0, y1, y2⟩ := HY.out _ (G0.trans GZ)
  generalize clkB t = q at HCK HNC hA
  cases q
  · have HR := Lib.hid (HNC.out rfl)
    go_wp2_with (first | (go_at_call 55; (with_reducible refine (HCK.out _).mono ?_); rintro e w4 ⟨rfl, g4⟩; have G4 := GZ.trans g4; obtain ⟨zx, x0', x1', x2', x3', f0, f1, f2, f3⟩ := HXZ.out.gr g4; obtain ⟨zd, d0, d1, d2⟩ := HDD.out _ (G0.trans G4)) | fail)
    (go_ret; exact RetLr.no HR.out (HG0.out.trans (G0.trans G4)))
  replace hA := Lib.hid (hA.out rfl)
  by_cases hto : To < 0
  · have HR : Hid (R = .inl 5) := by show _ = _; rw [hA.out, if_pos hto]
    go_wp2_with (first | (go_at_call 55; (with_reducible refine (HCK.out _).mono ?_); rintro e w4 ⟨rfl, g4⟩; have G4 := GZ.trans g4; obtain ⟨zx, x0', x1', x2', x3', f0, f1, f2, f3⟩ := HXZ.out.gr g4; obtain ⟨zd, d0, d1, d2⟩ := HDD.out _ (G0.trans G4)) | fail)
    (go_ret; exact RetLr.no HR.out (HG0.out.trans (G0.trans G4)))
  have HR := hA.out
  rw [if_neg hto] at HR
  have HRR := Lib.hid HR
  clear HR hA HNC
  go_upto_region 20 with (first | (go_at_call 55; (with_reducible refine (HCK.out _).mono ?_); rintro e w4 ⟨rfl, g4⟩; have G4 := GZ.trans g4; obtain ⟨zx, x0', x1', x2', x3', f0, f1, f2, f3⟩ := HXZ.out.gr g4; obtain ⟨zd, d0, d1, d2⟩ := HDD.out _ (G0.trans G4)) | fail)
  obtain ⟨A', r, u, rfl, k3a, k7, k8⟩ := runs_snoc K3.out K4.out h1
  obtain ⟨gg, rcap, hform, hgb, hglt⟩ := K2.out.form (by simp)
  simp only [Value.slice.injEq] at hform
  obtain ⟨rfl, -, rfl⟩ := hform
  have hlen : (A' ++ [(r, u)]).length = A'.length + 1 := by simp
  have K2' : OwnRn B w (.slice (some ⟨gg, 0, none⟩) (A'.length + 1) rc) (A' ++ [(r, u)]) := by rw [← hlen]; exact K2.out
  rw [hlen] at HDD HBX hAl2 d2
  obtain ⟨hcu, hfu⟩ := run_cell K2'
  have hrl : r.legs.length ≤ 40000 := by
    have hmem : r ∈ D.runs := by rw [← K4.out]; simp
    have := (HZ.out.2.2.1 r hmem).1; omega
  obtain ⟨ua, uc, rfl⟩ := own_form k7
  have hidx : IntKind.i64.wrap (((A'.length + 1 : Nat) : Int) - 1) = (A'.length : Int) := by rw [IntWalk.i64_in _ (by omega)]; omega
  have hi0 : (0 : Int) ≤ (A'.length : Int) := Int.natCast_nonneg _
  have hi1 : (A'.length : Int) < ((A'.length + 1 : Nat) : Int) := by omega
  have K3A := Lib.hid k3a
  have K7 := Lib.hid k7
  clear k3a k7 K2 K3 t1
  go_upto_region 21 with (first | (go_at_call 92; (with_reducible refine (HTI.out _).mono ?_); rintro e w5 ⟨rfl, rfl⟩) | fail)
  have G5 := G4.setCell (p := ⟨wp.heap.size, 1, none⟩) (Nat.le_refl _) (.int .i64 at_)
  have HX5 := Lib.hid ((HXZ.out.gr g4).set1 (.int .i64 at_))
  clear zx x0' x1' x2' x3' f0 f1 f2 f3 zd d0 d1 d2 zy y0 y1 y2
  generalize w4.setCell ⟨wp.heap.size, 1, none⟩ (.int .i64 at_) = w6 at *
  obtain ⟨zx, x0', x1', x2', x3', f0, f1, f2, f3⟩ := HX5.out
  obtain ⟨zd, d0, d1, d2⟩ := HDD.out _ (G0.trans G5)
  have hcb := fun (i : GrW w6) (o : Nat) => GrW.cell zd i o
  (refine wp_region_gr (by kernel_rfl) (by kernel_rfl) ?_; (repeat (go_big_quiet_step (fail))); refine wpQuiet_nil ?_; intro wz hz; obtain ⟨iz, hz⟩ := hz; obtain ⟨wn, gn⟩ := iz; dsimp only at hz; obtain rfl := hz.symm)
  have GN := (G0.trans G5).trans gn
  have HXN := Lib.hid (HX5.out.gr gn)
  clear hcb zx x0' x1' x2' x3' f0 f1 f2 f3 zd d0 d1 d2
  obtain ⟨zx, x0', x1', x2', x3', f0, f1, f2, f3⟩ := HXN.out
  have zg : gg < w.heap.size := hglt
  have cu := (GN.cell _ _ zg).trans hcu
  have fu := (GN.frozen gg (A'.length * 5 + 4) zg).trans (hfu _)
  have KK7 := Lib.hid (own_gr K7.out GN)
  have hfar2 : (Value.slice ua r.legs.length uc).ownBlock ≠ some gg := fun e => by
    rcases own_diff K7.out K2' (by decide) with h | h
    · rw [h] at e; cases e
    · exact h (by rw [e]; rfl)
  have hfar3 : (Value.slice ua r.legs.length uc).ownBlock ≠ some wp.heap.size := fun e => by
    have := own_lt K7.out _ e; have := G0.size; omega
  have hMz : M ≤ wn.heap.size := Nat.le_trans k5 GN.size
  obtain ⟨i0, j0, j1, j2, j3⟩ := info_parts Tryz.infoLg
  have K7' := K7
  clear K7
  go_upto_region 22 with fail
  have zgn := Nat.lt_of_lt_of_le zg GN.size
  go_region_law ((refine step_append_lies _ (by rfl) _ _ _ (by rfl) M 54 i0 _ 4 32 Tryz.underlying49 j0 j1 j2 j3 rfl (by omega) (.slice ua r.legs.length uc) r.legs.length (r.legs.flatMap Leg.cs) (by rfl) ((KK7.out.alloc _).drew) ⟨wn.heap.size, 0, none⟩ 1 1 [.bool true, .int .i64 at_, .int .i64 1, .int .i64 To] (by rfl) (by rfl) (World.news_of_block (cs := #[.bool true, .int .i64 at_, .int .i64 1, .int .i64 To]) (t := 54) (fr := (0, 0)) (heap_alloc_new wn _)) (by simp [Value.oneCell']) (by omega) (by unfold maxLen; omega) (by omega) (by simp; omega) (wn.heap.size + 1) (by simp) ?_; intro g9 cap w9 hown hgrow hat hlt; have cu9 := (hgrow.cell_far ⟨gg, A'.length * 5 + 4, none⟩ (by simp; omega) (Ne.symm hfar2)); have fu9 := (hgrow.frozen_far ⟨gg, A'.length * 5 + 4, none⟩ (by simp; omega) (Ne.symm hfar2))))
  all_goals go_wp2_with fail
  all_goals go_ret
  all_goals exact leg_endR (x := ⟨true, at_, 1, To⟩) (by decide) (by decide) HBX.out K1.out K2' K3A.out K7'.out (by unfold maxLen; omega) K4.out k5 k6 hbB hgb HG0.out hb (GN.trans ((Gr.refl wn).alloc _).drew) HRR.out hgrow hown
set_option maxRecDepth 100000 in
set_option maxHeartbeats 8000000 in
theorem rlegT_2 (b B : Nat) (bb o c : Nat) (t n : ByteArray) (P : Pln) (a1 a2 a3 a4 : Option Addr) (c1 c2 c3 c4 m : Nat) (D : Dgm) (w0 w : World)
    (hP : IsPln w0 (plnV P (.slice a1 P.es.length c1) (.slice a2 P.js.length c2) (.slice a3 P.ss.length c3) (.slice a4 P.ls.length c4)) P) (hb : w0.heap.size ≤ b) (g : Gr w0 w)
    (hR : Rd 31 b 0 B w D) (hbb : bb < w.heap.size) (yy : w.cell? ⟨bb, o, none⟩ = some (.string bTurn)) (yv : w.cell? ⟨bb, o + 1, none⟩ = some (.string bGate)) (yt : w.cell? ⟨bb, o + 1 + 1, none⟩ = some (.string t)) (yn : w.cell? ⟨bb, o + 1 + 2, none⟩ = some (.string n)) (hcap : 4 ≤ c) (hst : t.size ≤ maxLen) (hsn : n.size ≤ maxLen) (hz : SzD m D) (hm : m ≤ 40000) (h1 : D.runs ≠ []) (h2 : nmB n = true) :
    Calls Tryz.prog 58 #[plnV P (.slice a1 P.es.length c1) (.slice a2 P.js.length c2) (.slice a3 P.ss.length c3) (.slice a4 P.ls.length c4), .pointer (some ⟨b, 0, none⟩), .slice (some ⟨bb, o, none⟩) 4 c] w ((RetLr 31 w0 b 0 B) (leg3 P D true bGate t n)) := by
  obtain ⟨sv, rv, hbx, hbB, A, M, k1, k2, k3, k4, k5, k6⟩ := hR
  obtain ⟨ra, rc, rfl⟩ := own_form k2
  have HBX := Lib.hid hbx
  have K1 := Lib.hid k1
  have K2 := Lib.hid k2
  have K3 := Lib.hid k3
  have K4 := Lib.hid k4
  have hAl : A.length = D.runs.length := by rw [← k4]; simp
  have hAl2 : A.length ≤ 40000 := by have := hz.2.1; omega
  have HAL := Lib.hid hAl
  have HZ := Lib.hid hz
  have HDD := Lib.hid (rd_cells0 hbx)
  have HY := Lib.hid (wrd_cells hbb yv yt yn)
  have HG0 := Lib.hid g
  have HPI := Lib.hid hP
  have HNM := Lib.hid (fun w' => refName_any n hsn w')
  have HCK := Lib.hid (fun w' => refParse_any t w' hst)
  have HTI := Lib.hid (fun w' => refTill_any D.beg (clkN t) w')
  have HNO := Lib.hid (fun h => leg3_no (P := P) (D := D) (tn := true) (v := bGate) (t := t) (n := n) h)
  have HAT := Lib.hid (fun (E : Int) h1 h2 h3 h4 h5 => leg3_at (P := P) (D := D) (tn := true) (v := bGate) (t := t) (n := n) (E := E) h1 h2 h3 h4 h5)
  generalize leg3 P D true bGate t n = R at HNO HAT ⊢
  clear k1 k2 k3 k4 hbx hP hz g hAl
  have HSL := slice_rest4 bb o c hcap
  have tt : (bTurn.toList == [116, 117, 114, 110]) = true := by rw [turnL]; rfl
  have HNC : Hid (clkB t = false → R = .inl 2) := fun h => HNO.out (.inr (.inr (.inl h)))
  have hA : Hid (clkB t = true → R = if toW P 2 n < 0 then .inl 5 else .inr { D with runs := addLeg D.runs ⟨true, (clkN t - D.beg) % 86400, 2, toW P 2 n⟩ }) := fun h3 => HAT.out 2 h1 h2 h3 (by decide) (by decide)
  have HFN := Lib.hid (fun (w' : World) (g : Gr w w') => eleRef_any _ P n w' (HPI.out.gr (HG0.out.trans g)))
  unfold plnV at HFN
  have hE : eleN P n = toW P 2 n := rfl
  rw [hE] at HFN
  generalize toW P 2 n = To at HFN hA
  have t1 : ((A.length : Int) == 0) = false := beqF (by rw [HAL.out]; have := List.length_pos_iff.2 h1; omega)
  rw [h2] at HNM
  generalize (clkN t - D.beg) % 86400 = at_ at HTI hA
  have s1 : (bGate.toList == [103, 111]) = false := by rw [← goL]; exact str_ne (by decide)
  have s2 : (bGate.toList == [103, 97, 116, 101]) = true := by rw [gateL]; rfl
  clear HNO HAT hE
  unfold plnV
  have HPB := Lib.hid (PBox.new w P (.slice a1 P.es.length c1) (.slice a2 P.js.length c2) (.slice a3 P.ss.length c3) (.slice a4 P.ls.length c4))
  have G0 : Gr w (w.alloc (.cells #[.slice a1 P.es.length c1, .slice a2 P.js.length c2, .slice a3 P.ss.length c3, .slice a4 P.ls.length c4, .int .i64 P.top, .int .i64 P.brake, .int .i64 P.margin, .int .i64 P.throw, .bool P.hard] 27)) := (Gr.refl _).alloc _
  go_enter Tryz.func58, Tryz.ntmps58
  go_upto_region 1 with fail
  generalize (w.alloc (.cells #[.slice a1 P.es.length c1, .slice a2 P.js.length c2, .slice a3 P.ss.length c3, .slice a4 P.ls.length c4, .int .i64 P.top, .int .i64 P.brake, .int .i64 P.margin, .int .i64 P.throw, .bool P.hard] 27)) = wp at *
  obtain ⟨zy, y0, y1, y2⟩ := HY.out _ G0
  have yw := (G0.cell _ _ hbb).trans yy
  go_upto_region 3 with fail
  have HX0 := Lib.hid (XB.new wp (.bool false) (.int .i64 0) (.int .i64 0) (.int .i64 0) 54)
  obtain ⟨zx, x0', x1', x2', x3', f0, f1, f2, f3⟩ := HX0.out
  go_upto_region 5 with fail
  clear zx x0' x1' x2' x3' f0 f1 f2 f3 HX0 HSL yw
  have HX := Lib.hid (XB.new wp (.bool true) (.int .i64 0) (.int .i64 0) (.int .i64 0) 54)
  have G1 : Gr wp (wp.alloc (.cells #[.bool true, .int .i64 0, .int .i64 0, .int .i64 0] 54)) := (Gr.refl _).alloc _
  generalize (wp.alloc (.cells #[.bool true, .int .i64 0, .int .i64 0, .int .i64 0] 54)) = w1 at *
  clear zy y0 y1 y2
  obtain ⟨zx, x0', x1', x2', x3', f0, f1, f2, f3⟩ := HX.out
  obtain ⟨zy, y0, y1, y2⟩ := HY.out _ (G0.trans G1)
  obtain ⟨zd, d0, d1, d2⟩ := HDD.out _ (G0.trans G1)
  have HS : Hid (∀ w', Gr wp w' → (w'.cell? ⟨w.heap.size, 0, none⟩ = some (.slice a1 P.es.length c1) ∧ w'.cell? ⟨w.heap.size, 1, none⟩ = some (.slice a2 P.js.length c2) ∧ w'.cell? ⟨w.heap.size, 2, none⟩ = some (.slice a3 P.ss.length c3) ∧ w'.cell? ⟨w.heap.size, 3, none⟩ = some (.slice a4 P.ls.length c4) ∧ w'.cell? ⟨w.heap.size, 4, none⟩ = some (.int .i64 P.top) ∧ w'.cell? ⟨w.heap.size, 5, none⟩ = some (.int .i64 P.brake) ∧ w'.cell? ⟨w.heap.size, 6, none⟩ = some (.int .i64 P.margin) ∧ w'.cell? ⟨w.heap.size, 7, none⟩ = some (.int .i64 P.throw) ∧ w'.cell? ⟨w.heap.size, 8, none⟩ = some (.bool P.hard) ∧ w'.cell? ⟨bb, o + 1 + 2, none⟩ = some (.string n))) := fun w' g => by
    obtain ⟨-, p0, p1, p2, p3, p4, p5, p6, p7, p8⟩ := HPB.out.gr g
    exact ⟨p0, p1, p2, p3, p4, p5, p6, p7, p8, (HY.out _ (G0.trans g)).2.2.2⟩
  go_upto_region 12 with (first | (go_at_call 38; (with_reducible refine (HNM.out _).mono ?_); rintro e w3 ⟨rfl, hq⟩; obtain rfl := hq.symm) | fail)
  clear zx x0' x1' x2' x3' f0 f1 f2 f3 zy y0 y1 y2 zd d0 d1 d2
  go_region_held3 (fun w' => w'.cell? ⟨w.heap.size, 0, none⟩ = some (.slice a1 P.es.length c1) ∧ w'.cell? ⟨w.heap.size, 1, none⟩ = some (.slice a2 P.js.length c2) ∧ w'.cell? ⟨w.heap.size, 2, none⟩ = some (.slice a3 P.ss.length c3) ∧ w'.cell? ⟨w.heap.size, 3, none⟩ = some (.slice a4 P.ls.length c4) ∧ w'.cell? ⟨w.heap.size, 4, none⟩ = some (.int .i64 P.top) ∧ w'.cell? ⟨w.heap.size, 5, none⟩ = some (.int .i64 P.brake) ∧ w'.cell? ⟨w.heap.size, 6, none⟩ = some (.int .i64 P.margin) ∧ w'.cell? ⟨w.heap.size, 7, none⟩ = some (.int .i64 P.throw) ∧ w'.cell? ⟨w.heap.size, 8, none⟩ = some (.bool P.hard) ∧ w'.cell? ⟨bb, o + 1 + 2, none⟩ = some (.string n)) (first | exact HS.out _ G1 | exact HS.out _ G1.drew | exact HS.out _ (G1.drew.trans h5) | exact HS.out _ ((G1.drew.trans h5).setCell (Nat.le_refl _) _) | exact HS.out _ (((G1.drew.trans h5).setCell (Nat.le_refl _) _).setCell (Nat.le_refl _) _)) (first | (go_at_call 91; (with_reducible refine (HFN.out _ (G0.trans G1.drew)).mono ?_); rintro e w5 ⟨rfl, h5⟩; obtain ⟨zx, x0', x1', x2', x3', f0, f1, f2, f3⟩ := HX.out.gr ((Gr.refl _).drew.trans h5)))
  have GZ := ((G1.drew.trans h5).setCell (p := ⟨wp.heap.size, 2, none⟩) (Nat.le_refl _) (.int .i64 2)).setCell (p := ⟨wp.heap.size, 3, none⟩) (Nat.le_refl _) (.int .i64 To)
  have HXZ := Lib.hid ((HX.out.gr ((Gr.refl _).drew.trans h5)).set23 (.int .i64 2) (.int .i64 To))
  clear zx x0' x1' x2' x3' f0 f1 f2 f3 HX
  generalize (w5.setCell ⟨wp.heap.size, 2, none⟩ (.int .i64 2)).setCell ⟨wp.heap.size, 3, none⟩ (.int .i64 To) = wz at *
  obtain ⟨zy, y0, y1, y2⟩ := HY.out _ (G0.trans GZ)
  generalize clkB t = q at HCK HNC hA
  cases q
  · have HR := Lib.hid (HNC.out rfl)
    go_wp2_with (first | (go_at_call 55; (with_reducible refine (HCK.out _).mono ?_); rintro e w4 ⟨rfl, g4⟩; have G4 := GZ.trans g4; obtain ⟨zx, x0', x1', x2', x3', f0, f1, f2, f3⟩ := HXZ.out.gr g4; obtain ⟨zd, d0, d1, d2⟩ := HDD.out _ (G0.trans G4)) | fail)
    (go_ret; exact RetLr.no HR.out (HG0.out.trans (G0.trans G4)))
  replace hA := Lib.hid (hA.out rfl)
  by_cases hto : To < 0
  · have HR : Hid (R = .inl 5) := by show _ = _; rw [hA.out, if_pos hto]
    go_wp2_with (first | (go_at_call 55; (with_reducible refine (HCK.out _).mono ?_); rintro e w4 ⟨rfl, g4⟩; have G4 := GZ.trans g4; obtain ⟨zx, x0', x1', x2', x3', f0, f1, f2, f3⟩ := HXZ.out.gr g4; obtain ⟨zd, d0, d1, d2⟩ := HDD.out _ (G0.trans G4)) | fail)
    (go_ret; exact RetLr.no HR.out (HG0.out.trans (G0.trans G4)))
  have HR := hA.out
  rw [if_neg hto] at HR
  have HRR := Lib.hid HR
  clear HR hA HNC
  go_upto_region 20 with (first | (go_at_call 55; (with_reducible refine (HCK.out _).mono ?_); rintro e w4 ⟨rfl, g4⟩; have G4 := GZ.trans g4; obtain ⟨zx, x0', x1', x2', x3', f0, f1, f2, f3⟩ := HXZ.out.gr g4; obtain ⟨zd, d0, d1, d2⟩ := HDD.out _ (G0.trans G4)) | fail)
  obtain ⟨A', r, u, rfl, k3a, k7, k8⟩ := runs_snoc K3.out K4.out h1
  obtain ⟨gg, rcap, hform, hgb, hglt⟩ := K2.out.form (by simp)
  simp only [Value.slice.injEq] at hform
  obtain ⟨rfl, -, rfl⟩ := hform
  have hlen : (A' ++ [(r, u)]).length = A'.length + 1 := by simp
  have K2' : OwnRn B w (.slice (some ⟨gg, 0, none⟩) (A'.length + 1) rc) (A' ++ [(r, u)]) := by rw [← hlen]; exact K2.out
  rw [hlen] at HDD HBX hAl2 d2
  obtain ⟨hcu, hfu⟩ := run_cell K2'
  have hrl : r.legs.length ≤ 40000 := by
    have hmem : r ∈ D.runs := by rw [← K4.out]; simp
    have := (HZ.out.2.2.1 r hmem).1; omega
  obtain ⟨ua, uc, rfl⟩ := own_form k7
  have hidx : IntKind.i64.wrap (((A'.length + 1 : Nat) : Int) - 1) = (A'.length : Int) := by rw [IntWalk.i64_in _ (by omega)]; omega
  have hi0 : (0 : Int) ≤ (A'.length : Int) := Int.natCast_nonneg _
  have hi1 : (A'.length : Int) < ((A'.length + 1 : Nat) : Int) := by omega
  have K3A := Lib.hid k3a
  have K7 := Lib.hid k7
  clear k3a k7 K2 K3 t1
  go_upto_region 21 with (first | (go_at_call 92; (with_reducible refine (HTI.out _).mono ?_); rintro e w5 ⟨rfl, rfl⟩) | fail)
  have G5 := G4.setCell (p := ⟨wp.heap.size, 1, none⟩) (Nat.le_refl _) (.int .i64 at_)
  have HX5 := Lib.hid ((HXZ.out.gr g4).set1 (.int .i64 at_))
  clear zx x0' x1' x2' x3' f0 f1 f2 f3 zd d0 d1 d2 zy y0 y1 y2
  generalize w4.setCell ⟨wp.heap.size, 1, none⟩ (.int .i64 at_) = w6 at *
  obtain ⟨zx, x0', x1', x2', x3', f0, f1, f2, f3⟩ := HX5.out
  obtain ⟨zd, d0, d1, d2⟩ := HDD.out _ (G0.trans G5)
  have hcb := fun (i : GrW w6) (o : Nat) => GrW.cell zd i o
  (refine wp_region_gr (by kernel_rfl) (by kernel_rfl) ?_; (repeat (go_big_quiet_step (fail))); refine wpQuiet_nil ?_; intro wz hz; obtain ⟨iz, hz⟩ := hz; obtain ⟨wn, gn⟩ := iz; dsimp only at hz; obtain rfl := hz.symm)
  have GN := (G0.trans G5).trans gn
  have HXN := Lib.hid (HX5.out.gr gn)
  clear hcb zx x0' x1' x2' x3' f0 f1 f2 f3 zd d0 d1 d2
  obtain ⟨zx, x0', x1', x2', x3', f0, f1, f2, f3⟩ := HXN.out
  have zg : gg < w.heap.size := hglt
  have cu := (GN.cell _ _ zg).trans hcu
  have fu := (GN.frozen gg (A'.length * 5 + 4) zg).trans (hfu _)
  have KK7 := Lib.hid (own_gr K7.out GN)
  have hfar2 : (Value.slice ua r.legs.length uc).ownBlock ≠ some gg := fun e => by
    rcases own_diff K7.out K2' (by decide) with h | h
    · rw [h] at e; cases e
    · exact h (by rw [e]; rfl)
  have hfar3 : (Value.slice ua r.legs.length uc).ownBlock ≠ some wp.heap.size := fun e => by
    have := own_lt K7.out _ e; have := G0.size; omega
  have hMz : M ≤ wn.heap.size := Nat.le_trans k5 GN.size
  obtain ⟨i0, j0, j1, j2, j3⟩ := info_parts Tryz.infoLg
  have K7' := K7
  clear K7
  go_upto_region 22 with fail
  have zgn := Nat.lt_of_lt_of_le zg GN.size
  go_region_law ((refine step_append_lies _ (by rfl) _ _ _ (by rfl) M 54 i0 _ 4 32 Tryz.underlying49 j0 j1 j2 j3 rfl (by omega) (.slice ua r.legs.length uc) r.legs.length (r.legs.flatMap Leg.cs) (by rfl) ((KK7.out.alloc _).drew) ⟨wn.heap.size, 0, none⟩ 1 1 [.bool true, .int .i64 at_, .int .i64 2, .int .i64 To] (by rfl) (by rfl) (World.news_of_block (cs := #[.bool true, .int .i64 at_, .int .i64 2, .int .i64 To]) (t := 54) (fr := (0, 0)) (heap_alloc_new wn _)) (by simp [Value.oneCell']) (by omega) (by unfold maxLen; omega) (by omega) (by simp; omega) (wn.heap.size + 1) (by simp) ?_; intro g9 cap w9 hown hgrow hat hlt; have cu9 := (hgrow.cell_far ⟨gg, A'.length * 5 + 4, none⟩ (by simp; omega) (Ne.symm hfar2)); have fu9 := (hgrow.frozen_far ⟨gg, A'.length * 5 + 4, none⟩ (by simp; omega) (Ne.symm hfar2))))
  all_goals go_wp2_with fail
  all_goals go_ret
  all_goals exact leg_endR (x := ⟨true, at_, 2, To⟩) (by decide) (by decide) HBX.out K1.out K2' K3A.out K7'.out (by unfold maxLen; omega) K4.out k5 k6 hbB hgb HG0.out hb (GN.trans ((Gr.refl wn).alloc _).drew) HRR.out hgrow hown
set_option maxRecDepth 100000 in
set_option maxHeartbeats 8000000 in
theorem rlegT_3 (b B : Nat) (bb o c : Nat) (t n : ByteArray) (P : Pln) (a1 a2 a3 a4 : Option Addr) (c1 c2 c3 c4 m : Nat) (D : Dgm) (w0 w : World)
    (hP : IsPln w0 (plnV P (.slice a1 P.es.length c1) (.slice a2 P.js.length c2) (.slice a3 P.ss.length c3) (.slice a4 P.ls.length c4)) P) (hb : w0.heap.size ≤ b) (g : Gr w0 w)
    (hR : Rd 31 b 0 B w D) (hbb : bb < w.heap.size) (yy : w.cell? ⟨bb, o, none⟩ = some (.string bTurn)) (yv : w.cell? ⟨bb, o + 1, none⟩ = some (.string bBuffer)) (yt : w.cell? ⟨bb, o + 1 + 1, none⟩ = some (.string t)) (yn : w.cell? ⟨bb, o + 1 + 2, none⟩ = some (.string n)) (hcap : 4 ≤ c) (hst : t.size ≤ maxLen) (hsn : n.size ≤ maxLen) (hz : SzD m D) (hm : m ≤ 40000) (h1 : D.runs ≠ []) (h2 : nmB n = true) :
    Calls Tryz.prog 58 #[plnV P (.slice a1 P.es.length c1) (.slice a2 P.js.length c2) (.slice a3 P.ss.length c3) (.slice a4 P.ls.length c4), .pointer (some ⟨b, 0, none⟩), .slice (some ⟨bb, o, none⟩) 4 c] w ((RetLr 31 w0 b 0 B) (leg3 P D true bBuffer t n)) := by
  obtain ⟨sv, rv, hbx, hbB, A, M, k1, k2, k3, k4, k5, k6⟩ := hR
  obtain ⟨ra, rc, rfl⟩ := own_form k2
  have HBX := Lib.hid hbx
  have K1 := Lib.hid k1
  have K2 := Lib.hid k2
  have K3 := Lib.hid k3
  have K4 := Lib.hid k4
  have hAl : A.length = D.runs.length := by rw [← k4]; simp
  have hAl2 : A.length ≤ 40000 := by have := hz.2.1; omega
  have HAL := Lib.hid hAl
  have HZ := Lib.hid hz
  have HDD := Lib.hid (rd_cells0 hbx)
  have HY := Lib.hid (wrd_cells hbb yv yt yn)
  have HG0 := Lib.hid g
  have HPI := Lib.hid hP
  have HNM := Lib.hid (fun w' => refName_any n hsn w')
  have HCK := Lib.hid (fun w' => refParse_any t w' hst)
  have HTI := Lib.hid (fun w' => refTill_any D.beg (clkN t) w')
  have HNO := Lib.hid (fun h => leg3_no (P := P) (D := D) (tn := true) (v := bBuffer) (t := t) (n := n) h)
  have HAT := Lib.hid (fun (E : Int) h1 h2 h3 h4 h5 => leg3_at (P := P) (D := D) (tn := true) (v := bBuffer) (t := t) (n := n) (E := E) h1 h2 h3 h4 h5)
  generalize leg3 P D true bBuffer t n = R at HNO HAT ⊢
  clear k1 k2 k3 k4 hbx hP hz g hAl
  have HSL := slice_rest4 bb o c hcap
  have tt : (bTurn.toList == [116, 117, 114, 110]) = true := by rw [turnL]; rfl
  have HNC : Hid (clkB t = false → R = .inl 2) := fun h => HNO.out (.inr (.inr (.inl h)))
  have hA : Hid (clkB t = true → R = if toW P 3 n < 0 then .inl 5 else .inr { D with runs := addLeg D.runs ⟨true, (clkN t - D.beg) % 86400, 3, toW P 3 n⟩ }) := fun h3 => HAT.out 3 h1 h2 h3 (by decide) (by decide)
  have HFN := Lib.hid (fun (w' : World) (g : Gr w w') => eleRef_any _ P n w' (HPI.out.gr (HG0.out.trans g)))
  unfold plnV at HFN
  have hE : eleN P n = toW P 3 n := rfl
  rw [hE] at HFN
  generalize toW P 3 n = To at HFN hA
  have t1 : ((A.length : Int) == 0) = false := beqF (by rw [HAL.out]; have := List.length_pos_iff.2 h1; omega)
  rw [h2] at HNM
  generalize (clkN t - D.beg) % 86400 = at_ at HTI hA
  have s1 : (bBuffer.toList == [103, 111]) = false := by rw [← goL]; exact str_ne (by decide)
  have s2 : (bBuffer.toList == [103, 97, 116, 101]) = false := by rw [← gateL]; exact str_ne (by decide)
  have s3 : (bBuffer.toList == [98, 117, 102, 102, 101, 114]) = true := by rw [bufferL]; rfl
  clear HNO HAT hE
  unfold plnV
  have HPB := Lib.hid (PBox.new w P (.slice a1 P.es.length c1) (.slice a2 P.js.length c2) (.slice a3 P.ss.length c3) (.slice a4 P.ls.length c4))
  have G0 : Gr w (w.alloc (.cells #[.slice a1 P.es.length c1, .slice a2 P.js.length c2, .slice a3 P.ss.length c3, .slice a4 P.ls.length c4, .int .i64 P.top, .int .i64 P.brake, .int .i64 P.margin, .int .i64 P.throw, .bool P.hard] 27)) := (Gr.refl _).alloc _
  go_enter Tryz.func58, Tryz.ntmps58
  go_upto_region 1 with fail
  generalize (w.alloc (.cells #[.slice a1 P.es.length c1, .slice a2 P.js.length c2, .slice a3 P.ss.length c3, .slice a4 P.ls.length c4, .int .i64 P.top, .int .i64 P.brake, .int .i64 P.margin, .int .i64 P.throw, .bool P.hard] 27)) = wp at *
  obtain ⟨zy, y0, y1, y2⟩ := HY.out _ G0
  have yw := (G0.cell _ _ hbb).trans yy
  go_upto_region 3 with fail
  have HX0 := Lib.hid (XB.new wp (.bool false) (.int .i64 0) (.int .i64 0) (.int .i64 0) 54)
  obtain ⟨zx, x0', x1', x2', x3', f0, f1, f2, f3⟩ := HX0.out
  go_upto_region 5 with fail
  clear zx x0' x1' x2' x3' f0 f1 f2 f3 HX0 HSL yw
  have HX := Lib.hid (XB.new wp (.bool true) (.int .i64 0) (.int .i64 0) (.int .i64 0) 54)
  have G1 : Gr wp (wp.alloc (.cells #[.bool true, .int .i64 0, .int .i64 0, .int .i64 0] 54)) := (Gr.refl _).alloc _
  generalize (wp.alloc (.cells #[.bool true, .int .i64 0, .int .i64 0, .int .i64 0] 54)) = w1 at *
  clear zy y0 y1 y2
  obtain ⟨zx, x0', x1', x2', x3', f0, f1, f2, f3⟩ := HX.out
  obtain ⟨zy, y0, y1, y2⟩ := HY.out _ (G0.trans G1)
  obtain ⟨zd, d0, d1, d2⟩ := HDD.out _ (G0.trans G1)
  have HS : Hid (∀ w', Gr wp w' → (w'.cell? ⟨w.heap.size, 0, none⟩ = some (.slice a1 P.es.length c1) ∧ w'.cell? ⟨w.heap.size, 1, none⟩ = some (.slice a2 P.js.length c2) ∧ w'.cell? ⟨w.heap.size, 2, none⟩ = some (.slice a3 P.ss.length c3) ∧ w'.cell? ⟨w.heap.size, 3, none⟩ = some (.slice a4 P.ls.length c4) ∧ w'.cell? ⟨w.heap.size, 4, none⟩ = some (.int .i64 P.top) ∧ w'.cell? ⟨w.heap.size, 5, none⟩ = some (.int .i64 P.brake) ∧ w'.cell? ⟨w.heap.size, 6, none⟩ = some (.int .i64 P.margin) ∧ w'.cell? ⟨w.heap.size, 7, none⟩ = some (.int .i64 P.throw) ∧ w'.cell? ⟨w.heap.size, 8, none⟩ = some (.bool P.hard) ∧ w'.cell? ⟨bb, o + 1 + 2, none⟩ = some (.string n))) := fun w' g => by
    obtain ⟨-, p0, p1, p2, p3, p4, p5, p6, p7, p8⟩ := HPB.out.gr g
    exact ⟨p0, p1, p2, p3, p4, p5, p6, p7, p8, (HY.out _ (G0.trans g)).2.2.2⟩
  go_upto_region 14 with (first | (go_at_call 38; (with_reducible refine (HNM.out _).mono ?_); rintro e w3 ⟨rfl, hq⟩; obtain rfl := hq.symm) | fail)
  clear zx x0' x1' x2' x3' f0 f1 f2 f3 zy y0 y1 y2 zd d0 d1 d2
  go_region_held3 (fun w' => w'.cell? ⟨w.heap.size, 0, none⟩ = some (.slice a1 P.es.length c1) ∧ w'.cell? ⟨w.heap.size, 1, none⟩ = some (.slice a2 P.js.length c2) ∧ w'.cell? ⟨w.heap.size, 2, none⟩ = some (.slice a3 P.ss.length c3) ∧ w'.cell? ⟨w.heap.size, 3, none⟩ = some (.slice a4 P.ls.length c4) ∧ w'.cell? ⟨w.heap.size, 4, none⟩ = some (.int .i64 P.top) ∧ w'.cell? ⟨w.heap.size, 5, none⟩ = some (.int .i64 P.brake) ∧ w'.cell? ⟨w.heap.size, 6, none⟩ = some (.int .i64 P.margin) ∧ w'.cell? ⟨w.heap.size, 7, none⟩ = some (.int .i64 P.throw) ∧ w'.cell? ⟨w.heap.size, 8, none⟩ = some (.bool P.hard) ∧ w'.cell? ⟨bb, o + 1 + 2, none⟩ = some (.string n)) (first | exact HS.out _ G1 | exact HS.out _ G1.drew | exact HS.out _ (G1.drew.trans h5) | exact HS.out _ ((G1.drew.trans h5).setCell (Nat.le_refl _) _) | exact HS.out _ (((G1.drew.trans h5).setCell (Nat.le_refl _) _).setCell (Nat.le_refl _) _)) (first | (go_at_call 91; (with_reducible refine (HFN.out _ (G0.trans G1.drew)).mono ?_); rintro e w5 ⟨rfl, h5⟩; obtain ⟨zx, x0', x1', x2', x3', f0, f1, f2, f3⟩ := HX.out.gr ((Gr.refl _).drew.trans h5)))
  have GZ := ((G1.drew.trans h5).setCell (p := ⟨wp.heap.size, 2, none⟩) (Nat.le_refl _) (.int .i64 3)).setCell (p := ⟨wp.heap.size, 3, none⟩) (Nat.le_refl _) (.int .i64 To)
  have HXZ := Lib.hid ((HX.out.gr ((Gr.refl _).drew.trans h5)).set23 (.int .i64 3) (.int .i64 To))
  clear zx x0' x1' x2' x3' f0 f1 f2 f3 HX
  generalize (w5.setCell ⟨wp.heap.size, 2, none⟩ (.int .i64 3)).setCell ⟨wp.heap.size, 3, none⟩ (.int .i64 To) = wz at *
  obtain ⟨zy, y0, y1, y2⟩ := HY.out _ (G0.trans GZ)
  generalize clkB t = q at HCK HNC hA
  cases q
  · have HR := Lib.hid (HNC.out rfl)
    go_wp2_with (first | (go_at_call 55; (with_reducible refine (HCK.out _).mono ?_); rintro e w4 ⟨rfl, g4⟩; have G4 := GZ.trans g4; obtain ⟨zx, x0', x1', x2', x3', f0, f1, f2, f3⟩ := HXZ.out.gr g4; obtain ⟨zd, d0, d1, d2⟩ := HDD.out _ (G0.trans G4)) | fail)
    (go_ret; exact RetLr.no HR.out (HG0.out.trans (G0.trans G4)))
  replace hA := Lib.hid (hA.out rfl)
  by_cases hto : To < 0
  · have HR : Hid (R = .inl 5) := by show _ = _; rw [hA.out, if_pos hto]
    go_wp2_with (first | (go_at_call 55; (with_reducible refine (HCK.out _).mono ?_); rintro e w4 ⟨rfl, g4⟩; have G4 := GZ.trans g4; obtain ⟨zx, x0', x1', x2', x3', f0, f1, f2, f3⟩ := HXZ.out.gr g4; obtain ⟨zd, d0, d1, d2⟩ := HDD.out _ (G0.trans G4)) | fail)
    (go_ret; exact RetLr.no HR.out (HG0.out.trans (G0.trans G4)))
  have HR := hA.out
  rw [if_neg hto] at HR
  have HRR := Lib.hid HR
  clear HR hA HNC
  go_upto_region 20 with (first | (go_at_call 55; (with_reducible refine (HCK.out _).mono ?_); rintro e w4 ⟨rfl, g4⟩; have G4 := GZ.trans g4; obtain ⟨zx, x0', x1', x2', x3', f0, f1, f2, f3⟩ := HXZ.out.gr g4; obtain ⟨zd, d0, d1, d2⟩ := HDD.out _ (G0.trans G4)) | fail)
  obtain ⟨A', r, u, rfl, k3a, k7, k8⟩ := runs_snoc K3.out K4.out h1
  obtain ⟨gg, rcap, hform, hgb, hglt⟩ := K2.out.form (by simp)
  simp only [Value.slice.injEq] at hform
  obtain ⟨rfl, -, rfl⟩ := hform
  have hlen : (A' ++ [(r, u)]).length = A'.length + 1 := by simp
  have K2' : OwnRn B w (.slice (some ⟨gg, 0, none⟩) (A'.length + 1) rc) (A' ++ [(r, u)]) := by rw [← hlen]; exact K2.out
  rw [hlen] at HDD HBX hAl2 d2
  obtain ⟨hcu, hfu⟩ := run_cell K2'
  have hrl : r.legs.length ≤ 40000 := by
    have hmem : r ∈ D.runs := by rw [← K4.out]; simp
    have := (HZ.out.2.2.1 r hmem).1; omega
  obtain ⟨ua, uc, rfl⟩ := own_form k7
  have hidx : IntKind.i64.wrap (((A'.length + 1 : Nat) : Int) - 1) = (A'.length : Int) := by rw [IntWalk.i64_in _ (by omega)]; omega
  have hi0 : (0 : Int) ≤ (A'.length : Int) := Int.natCast_nonneg _
  have hi1 : (A'.length : Int) < ((A'.length + 1 : Nat) : Int) := by omega
  have K3A := Lib.hid k3a
  have K7 := Lib.hid k7
  clear k3a k7 K2 K3 t1
  go_upto_region 21 with (first | (go_at_call 92; (with_reducible refine (HTI.out _).mono ?_); rintro e w5 ⟨rfl, rfl⟩) | fail)
  have G5 := G4.setCell (p := ⟨wp.heap.size, 1, none⟩) (Nat.le_refl _) (.int .i64 at_)
  have HX5 := Lib.hid ((HXZ.out.gr g4).set1 (.int .i64 at_))
  clear zx x0' x1' x2' x3' f0 f1 f2 f3 zd d0 d1 d2 zy y0 y1 y2
  generalize w4.setCell ⟨wp.heap.size, 1, none⟩ (.int .i64 at_) = w6 at *
  obtain ⟨zx, x0', x1', x2', x3', f0, f1, f2, f3⟩ := HX5.out
  obtain ⟨zd, d0, d1, d2⟩ := HDD.out _ (G0.trans G5)
  have hcb := fun (i : GrW w6) (o : Nat) => GrW.cell zd i o
  (refine wp_region_gr (by kernel_rfl) (by kernel_rfl) ?_; (repeat (go_big_quiet_step (fail))); refine wpQuiet_nil ?_; intro wz hz; obtain ⟨iz, hz⟩ := hz; obtain ⟨wn, gn⟩ := iz; dsimp only at hz; obtain rfl := hz.symm)
  have GN := (G0.trans G5).trans gn
  have HXN := Lib.hid (HX5.out.gr gn)
  clear hcb zx x0' x1' x2' x3' f0 f1 f2 f3 zd d0 d1 d2
  obtain ⟨zx, x0', x1', x2', x3', f0, f1, f2, f3⟩ := HXN.out
  have zg : gg < w.heap.size := hglt
  have cu := (GN.cell _ _ zg).trans hcu
  have fu := (GN.frozen gg (A'.length * 5 + 4) zg).trans (hfu _)
  have KK7 := Lib.hid (own_gr K7.out GN)
  have hfar2 : (Value.slice ua r.legs.length uc).ownBlock ≠ some gg := fun e => by
    rcases own_diff K7.out K2' (by decide) with h | h
    · rw [h] at e; cases e
    · exact h (by rw [e]; rfl)
  have hfar3 : (Value.slice ua r.legs.length uc).ownBlock ≠ some wp.heap.size := fun e => by
    have := own_lt K7.out _ e; have := G0.size; omega
  have hMz : M ≤ wn.heap.size := Nat.le_trans k5 GN.size
  obtain ⟨i0, j0, j1, j2, j3⟩ := info_parts Tryz.infoLg
  have K7' := K7
  clear K7
  go_upto_region 22 with fail
  have zgn := Nat.lt_of_lt_of_le zg GN.size
  go_region_law ((refine step_append_lies _ (by rfl) _ _ _ (by rfl) M 54 i0 _ 4 32 Tryz.underlying49 j0 j1 j2 j3 rfl (by omega) (.slice ua r.legs.length uc) r.legs.length (r.legs.flatMap Leg.cs) (by rfl) ((KK7.out.alloc _).drew) ⟨wn.heap.size, 0, none⟩ 1 1 [.bool true, .int .i64 at_, .int .i64 3, .int .i64 To] (by rfl) (by rfl) (World.news_of_block (cs := #[.bool true, .int .i64 at_, .int .i64 3, .int .i64 To]) (t := 54) (fr := (0, 0)) (heap_alloc_new wn _)) (by simp [Value.oneCell']) (by omega) (by unfold maxLen; omega) (by omega) (by simp; omega) (wn.heap.size + 1) (by simp) ?_; intro g9 cap w9 hown hgrow hat hlt; have cu9 := (hgrow.cell_far ⟨gg, A'.length * 5 + 4, none⟩ (by simp; omega) (Ne.symm hfar2)); have fu9 := (hgrow.frozen_far ⟨gg, A'.length * 5 + 4, none⟩ (by simp; omega) (Ne.symm hfar2))))
  all_goals go_wp2_with fail
  all_goals go_ret
  all_goals exact leg_endR (x := ⟨true, at_, 3, To⟩) (by decide) (by decide) HBX.out K1.out K2' K3A.out K7'.out (by unfold maxLen; omega) K4.out k5 k6 hbB hgb HG0.out hb (GN.trans ((Gr.refl wn).alloc _).drew) HRR.out hgrow hown
end Go.Proofs.YtgjnlgcdpbilfaaGreatDoor
