/- The reference's train. -/
import Derived.Test.YtgjnlgcdpbilfaaGreatDoorRows
import Derived.Test.YtgjnlgcdpbilfaaGreatDoorRDpZ
import Derived.Test.YtgjnlgcdpbilfaaGreatDoorB10
import Derived.Test.YtgjnlgcdpbilfaaGreatDoorB7
import Derived.Deep.RegionLaw
import Derived.Deep.AppendLies
namespace Go.Proofs.YtgjnlgcdpbilfaaGreatDoor
open Go.ChangeShapes Go.WideShapes Go.ChangeAt Go.RowKit Go.Maps
set_option linter.unusedVariables false
set_option linter.unusedSimpArgs false
set_option maxRecDepth 100000 in
set_option maxHeartbeats 4000000 in
theorem refTrain_any (b B : Nat) (v : Value) (L : List ByteArray) (pv : Value) (P : Pln) (m : Nat) (D : Dgm) (w0 w : World)
    (hP : IsPln w0 pv P) (hb : w0.heap.size ≤ b) (g : Gr w0 w)
    (hR : Rd 31 b 0 B w D) (hv : IsVals w v (L.map Value.string)) (hc : CapOk v) (hs : ∀ x ∈ L, x.size ≤ maxLen) (hz : SzD m D) (hm : m ≤ 40000) :
    Calls Tryz.prog 57 #[pv, .pointer (some ⟨b, 0, none⟩), v] w (RetLr 31 w0 b 0 B (trainW P D L)) := by
  have HPI := Lib.hid hP
  obtain ⟨a1, c1, a2, c2, a3, c3, a4, c4, rfl, -⟩ := hP
  unfold plnV at *
  have HV := Lib.hid hv
  obtain ⟨a, c, rfl, hlm, -⟩ := hv
  rw [List.length_map] at HV hlm hc ⊢
  unfold maxLen at hlm
  by_cases h5 : L.length = 5
  rotate_left
  · have HR := Lib.hid (train_len (P := P) (D := D) h5)
    have t5 : ((L.length : Int) != 5) = true := bneT (by omega)
    clear h5 hc
    go_enter Tryz.func57, Tryz.ntmps57
    go_wp2_with fail
    (go_ret; exact RetLr.no HR.out (g.alloc _))
  have hcap := hc _ _ _ rfl
  obtain ⟨x0, x1, x2, x3, x4, rfl⟩ := list_five h5
  have hne := HV.out
  obtain ⟨a', c', e', _, hx⟩ := hne
  simp only [Value.slice.injEq] at e'
  obtain ⟨rfl, -, rfl⟩ := e'
  rcases hx with hx | ⟨bb, o, rfl, -, -⟩
  · cases hx
  have G1 : Gr w (w.alloc (.cells #[.slice a1 P.es.length c1, .slice a2 P.js.length c2, .slice a3 P.ss.length c3, .slice a4 P.ls.length c4, .int .i64 P.top, .int .i64 P.brake, .int .i64 P.margin, .int .i64 P.throw, .bool P.hard] 27)) := (Gr.refl _).alloc _
  obtain ⟨z, y0, y1, y2, y3, y4, -⟩ := vals_five (HV.out.gr G1)
  have hx1 : x1.size ≤ maxLen := hs x1 (by simp)
  have hx2 : x2.size ≤ maxLen := hs x2 (by simp)
  have hx3 : x3.size ≤ maxLen := hs x3 (by simp)
  have hx4 : x4.size ≤ maxLen := hs x4 (by simp)
  have HN1 := Lib.hid (fun w' => refName_any x1 hx1 w')
  have HN2 := Lib.hid (fun w' => refName_any x2 hx2 w')
  have HN3 := Lib.hid (fun w' => refName_any x3 hx3 w')
  have HNU := Lib.hid (fun (w' : World) => refNumber_any x4 4 hx4 w')
  have HNO := Lib.hid (fun (h : nmB x1 = false ∨ nmB x2 = false ∨ nmB x3 = false ∨ numB x4 4 = false) => train5_no (P := P) (D := D) h)
  have HAT := Lib.hid (fun h1 h2 h3 h4 => train5_at (P := P) (D := D) (n := x1) (k := x2) (s := x3) (d := x4) h1 h2 h3 h4)
  have HE : Hid (trainW P D [x0, x1, x2, x3, x4] = train5 P D x1 x2 x3 x4) := rfl
  rw [HE.out]
  generalize train5 P D x1 x2 x3 x4 = R at HNO HAT ⊢
  dsimp only [List.length] at *
  clear hs hc h5 HE hx1 hx2 hx3 hx4
  generalize nmB x1 = q1 at HN1 HNO HAT
  generalize nmB x2 = q2 at HN2 HNO HAT
  generalize nmB x3 = q3 at HN3 HNO HAT
  generalize numB x4 4 = q4 at HNU HNO HAT
  cases q1
  · have HR := Lib.hid (HNO.out (by simp))
    clear HNO HAT
    go_enter Tryz.func57, Tryz.ntmps57
    go_wp2_with (first | (go_at_call 38; first | (with_reducible refine (HN1.out _).mono ?_; rintro e w3 ⟨rfl, hq⟩; obtain rfl := hq.symm) | (with_reducible refine (HN2.out _).mono ?_; rintro e w3 ⟨rfl, hq⟩; obtain rfl := hq.symm) | (with_reducible refine (HN3.out _).mono ?_; rintro e w3 ⟨rfl, hq⟩; obtain rfl := hq.symm)) | (go_at_call 88; (with_reducible refine (HNU.out _).mono ?_); rintro e w4 ⟨rfl, hq⟩; obtain rfl := hq.symm) | fail)
    (go_ret; exact RetLr.no HR.out (g.alloc _))
  cases q2
  · have HR := Lib.hid (HNO.out (by simp))
    clear HNO HAT
    go_enter Tryz.func57, Tryz.ntmps57
    go_wp2_with (first | (go_at_call 38; first | (with_reducible refine (HN1.out _).mono ?_; rintro e w3 ⟨rfl, hq⟩; obtain rfl := hq.symm) | (with_reducible refine (HN2.out _).mono ?_; rintro e w3 ⟨rfl, hq⟩; obtain rfl := hq.symm) | (with_reducible refine (HN3.out _).mono ?_; rintro e w3 ⟨rfl, hq⟩; obtain rfl := hq.symm)) | (go_at_call 88; (with_reducible refine (HNU.out _).mono ?_); rintro e w4 ⟨rfl, hq⟩; obtain rfl := hq.symm) | fail)
    (go_ret; exact RetLr.no HR.out (g.alloc _))
  cases q3
  · have HR := Lib.hid (HNO.out (by simp))
    clear HNO HAT
    go_enter Tryz.func57, Tryz.ntmps57
    go_wp2_with (first | (go_at_call 38; first | (with_reducible refine (HN1.out _).mono ?_; rintro e w3 ⟨rfl, hq⟩; obtain rfl := hq.symm) | (with_reducible refine (HN2.out _).mono ?_; rintro e w3 ⟨rfl, hq⟩; obtain rfl := hq.symm) | (with_reducible refine (HN3.out _).mono ?_; rintro e w3 ⟨rfl, hq⟩; obtain rfl := hq.symm)) | (go_at_call 88; (with_reducible refine (HNU.out _).mono ?_); rintro e w4 ⟨rfl, hq⟩; obtain rfl := hq.symm) | fail)
    (go_ret; exact RetLr.no HR.out (g.alloc _))
  cases q4
  · have HR := Lib.hid (HNO.out (by simp))
    clear HNO HAT
    go_enter Tryz.func57, Tryz.ntmps57
    go_wp2_with (first | (go_at_call 38; first | (with_reducible refine (HN1.out _).mono ?_; rintro e w3 ⟨rfl, hq⟩; obtain rfl := hq.symm) | (with_reducible refine (HN2.out _).mono ?_; rintro e w3 ⟨rfl, hq⟩; obtain rfl := hq.symm) | (with_reducible refine (HN3.out _).mono ?_; rintro e w3 ⟨rfl, hq⟩; obtain rfl := hq.symm)) | (go_at_call 88; (with_reducible refine (HNU.out _).mono ?_); rintro e w4 ⟨rfl, hq⟩; obtain rfl := hq.symm) | fail)
    (go_ret; exact RetLr.no HR.out (g.alloc _))
  have HA := Lib.hid (HAT.out rfl rfl rfl rfl)
  clear HNO HAT
  generalize numN x4 4 = n4 at HNU HA
  obtain ⟨sv, rv, hbx, hbB, A, M, k1, k2, k3, k4, k5, k6⟩ := hR
  have hst : D.st.length ≤ maxLen := by have := hz.1; unfold maxLen; omega
  have HFD := Lib.hid (fun (w' : World) (g : Gr w w') => refFindS_any sv D.st x2 w' ((k1.stks hst).gr g))
  have HSG := Lib.hid (fun (w' : World) (g : Gr w w') => sigRef_any _ P x3 w' (HPI.out.gr (‹Gr w0 w›.trans g)))
  obtain ⟨sa, sc, rfl⟩ := own_form k1
  obtain ⟨ra, rc, rfl⟩ := own_form k2
  have hAl : A.length = D.runs.length := by rw [← k4]; simp
  have hAl2 : A.length ≤ 40000 := by have := hz.2.1; omega
  clear hAl
  have HBX := Lib.hid hbx
  have K1 := Lib.hid k1
  have K2 := Lib.hid k2
  have K3 := Lib.hid k3
  obtain ⟨zb, d0, d1, d2⟩ := rd_cells0 hbx _ G1
  have hzb := hbx.lt
  have hG := Lib.hid g
  have hfar := bx_far HBX.out k2 (by decide)
  generalize findN D.st x2 = fk at HFD HA
  generalize sigN P x3 = fs at HSG HA
  have K4 := Lib.hid k4
  have HPB := Lib.hid (PBox.new w P (.slice a1 P.es.length c1) (.slice a2 P.js.length c2) (.slice a3 P.ss.length c3) (.slice a4 P.ls.length c4))
  clear hst k1 k2 k3 k4 hz g hbx
  go_enter Tryz.func57, Tryz.ntmps57
  go_upto_region 6 with (first | (go_at_call 38; first | (with_reducible refine (HN1.out _).mono ?_; rintro e w3 ⟨rfl, hq⟩; obtain rfl := hq.symm) | (with_reducible refine (HN2.out _).mono ?_; rintro e w3 ⟨rfl, hq⟩; obtain rfl := hq.symm) | (with_reducible refine (HN3.out _).mono ?_; rintro e w3 ⟨rfl, hq⟩; obtain rfl := hq.symm)) | (go_at_call 88; (with_reducible refine (HNU.out _).mono ?_); rintro e w4 ⟨rfl, hq⟩; obtain rfl := hq.symm) | fail)
  have hcb := fun (i : GrW (w.alloc (.cells #[.slice a1 P.es.length c1, .slice a2 P.js.length c2, .slice a3 P.ss.length c3, .slice a4 P.ls.length c4, .int .i64 P.top, .int .i64 P.brake, .int .i64 P.margin, .int .i64 P.throw, .bool P.hard] 27))) (o : Nat) => GrW.cell zb i o
  have hc1 := fun (i : GrW (w.alloc (.cells #[.slice a1 P.es.length c1, .slice a2 P.js.length c2, .slice a3 P.ss.length c3, .slice a4 P.ls.length c4, .int .i64 P.top, .int .i64 P.brake, .int .i64 P.margin, .int .i64 P.throw, .bool P.hard] 27))) (o : Nat) => GrW.cell z i o
  obtain ⟨zp, p0, p1, p2, p3, p4, p5, p6, p7, p8⟩ := HPB.out
  have hcp := fun (i : GrW (w.alloc (.cells #[.slice a1 P.es.length c1, .slice a2 P.js.length c2, .slice a3 P.ss.length c3, .slice a4 P.ls.length c4, .int .i64 P.top, .int .i64 P.brake, .int .i64 P.margin, .int .i64 P.throw, .bool P.hard] 27))) (o : Nat) => GrW.cell zp i o
  (refine wp_region_gr (by kernel_rfl) (by kernel_rfl) ?_; (repeat (go_big_quiet_step ((first | (go_at_call 89; exact Calls.gr_of (HFD.out _ (G1.trans (GrW.gr _)))) | (go_at_call 90; exact Calls.gr_of (HSG.out _ (G1.trans (GrW.gr _)))))))); refine wpQuiet_nil ?_; intro wz hz; obtain ⟨iz, hz⟩ := hz; obtain ⟨wn, gn⟩ := iz; dsimp only at hz; obtain rfl := hz.symm)
  clear hcb hc1 hcp p0 p1 p2 p3 p4 p5 p6 p7 p8
  have GN := G1.trans gn
  have GA := hG.out.trans GN
  by_cases hn1 : fk < 0
  · have HR : Hid (R = .inl 5) := by show _ = _; rw [HA.out, if_pos (.inl hn1)]
    go_wp2_with fail
    go_ret
    exact RetLr.no HR.out GA
  by_cases hn2 : fs < 0
  · have HR : Hid (R = .inl 5) := by show _ = _; rw [HA.out, if_pos (.inr hn2)]
    go_wp2_with fail
    go_ret
    exact RetLr.no HR.out GA
  have HR := HA.out
  rw [if_neg (by omega)] at HR
  have HRR := Lib.hid HR
  clear HR HA
  obtain ⟨i0, hi0, hi1, hi2, hi3⟩ := info_parts Tryz.infoRn
  have zbn := Nat.lt_of_lt_of_le zb gn.size
  have zzn := Nat.lt_of_lt_of_le z gn.size
  replace y1 := (gn.cell _ _ z).trans y1
  replace d2 := (gn.cell _ _ zb).trans d2
  have hfz := (HBX.out.gr GN).frozen 2
  have hst2 : B ≤ wn.heap.size := Nat.le_trans k6 (Nat.le_trans k5 GN.size)
  have KK2 := Lib.hid (own_gr K2.out GN)
  clear y0 y2 y3 y4 d1 d0
  go_upto_region 9 with fail
  go_region_law (refine step_append_lies _ (by rfl) _ _ _ (by rfl) B 51 i0 _ 5 64 Tryz.underlying29 hi0 hi1 hi2 hi3 rfl (by omega) (.slice ra A.length rc) A.length (runCs A) (by rfl) ((KK2.out.alloc _).drew) ⟨wn.heap.size, 0, none⟩ 1 1 [.string x1, .int .i64 fk, .int .i64 fs, .int .i64 n4, .slice none 0 0] (by rfl) (by rfl) (World.news_of_block (cs := #[.string x1, .int .i64 fk, .int .i64 fs, .int .i64 n4, .slice none 0 0]) (t := 51) (fr := (0, 0)) (heap_alloc_new wn _)) (by simp [Value.oneCell']) (by omega) (by unfold maxLen; omega) (by omega) (by simp; omega) (wn.heap.size + 1) (by simp) ?_; intro gg cap w9 hown hgrow hat hlt; have d2x := (hgrow.cell_far ⟨b, 2, none⟩ (by simp; omega) (by simpa using Ne.symm hfar)); have f2x := (hgrow.frozen_far ⟨b, 2, none⟩ (by simp; omega) (by simpa using Ne.symm hfar)))
  all_goals go_wp2_with fail
  all_goals
    go_ret
    exact train_endR (o := 0) (r := ⟨x1, fk, fs, n4, []⟩) (by decide) HBX.out K1.out K2.out K3.out K4.out k5 k6 hbB hG.out hb (GN.trans ((Gr.refl wn).alloc _).drew) rfl HRR.out hgrow hown
end Go.Proofs.YtgjnlgcdpbilfaaGreatDoor
