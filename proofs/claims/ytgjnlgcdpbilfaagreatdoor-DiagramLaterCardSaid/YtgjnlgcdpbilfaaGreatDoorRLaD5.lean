/- DiagramLater. -/
import Derived.Test.YtgjnlgcdpbilfaaGreatDoorRows
import Derived.Test.YtgjnlgcdpbilfaaGreatDoorRLaD2
import Derived.Test.YtgjnlgcdpbilfaaGreatDoorRDgCq
import Derived.Test.YtgjnlgcdpbilfaaGreatDoorB14
import Derived.Test.YtgjnlgcdpbilfaaGreatDoorB8
import Derived.Deep.RegionLaw
import Derived.Deep.AppendLies
import Derived.Deep.RegionHeld3
import Derived.Deep.CutRange
namespace Go.Proofs.YtgjnlgcdpbilfaaGreatDoor
open Go.ChangeShapes Go.WideShapes Go.ChangeAt Go.RowKit Go.Maps
set_option linter.unusedVariables false
set_option linter.unusedSimpArgs false
set_option maxRecDepth 100000 in
set_option maxHeartbeats 4000000 in
theorem diagramLater_walk (pv : Value) (P : Pln) (dv : Value) (D : Dgm) (bb : Int) (w : World) (ht : Tabs w) (hP : IsPln w pv P ∧ PlnOk P) (hD : IsDgm w dv D ∧ DgmOk D) (wb : (Lit.int .u8 bb).wf = true) :
    Calls Tryz.prog 8 #[pv, dv, .int .u8 bb] w fun e w' => e = .returned (.bool true) ∧ Gr w w' := by
  obtain ⟨hP, hpk⟩ := hP
  obtain ⟨hD, hdk⟩ := hD
  have HPI := Lib.hid hP
  have HPK := Lib.hid hpk
  have HDI := Lib.hid hD
  have HOK : Hid (∀ s ∈ D.st, s.nm.size ≤ maxLen) := fun s hs => (hdk.2.1 s hs).1
  have HRK : Hid (∀ r ∈ D.runs, r.nm.size ≤ maxLen) := fun r hr => (hdk.2.2 r hr).1
  obtain ⟨a1, c1, a2, c2, a3, c3, a4, c4, rfl, -⟩ := hP
  obtain ⟨d1, k1, d2, k2, rfl, hst, hru⟩ := hD
  have HST := Lib.hid hst
  have HRU := Lib.hid hru
  have hby : 0 ≤ bb ∧ bb ≤ 255 := by simpa [Lit.wf, IntKind.min, IntKind.max, IntKind.signed, IntKind.bits] using wb
  have tw : IntKind.i64.wrap bb = bb := IntWalk.i64_in _ (by omega)
  unfold plnV at *
  unfold dgmV at *
  clear hpk hdk hst wb hru
  have g0 : Gr w ((w.alloc (.cells #[.slice a1 P.es.length c1, .slice a2 P.js.length c2, .slice a3 P.ss.length c3, .slice a4 P.ls.length c4, .int .i64 P.top, .int .i64 P.brake, .int .i64 P.margin, .int .i64 P.throw, .bool P.hard] 27)).alloc (.cells #[.int .i64 D.beg, .slice d1 D.st.length k1, .slice d2 D.runs.length k2] 31)) := ((Gr.refl _).alloc _).alloc _
  have HBX := Lib.hid (box_pd P D a1 a2 a3 a4 d1 d2 c1 c2 c3 c4 k1 k2 w)
  have HKN := Lib.hid (known30_any _ (ht.gr g0))
  have HFI := Lib.hid (fun (w' : World) (g : Gr w w') => fine_any _ P w' (HPI.out.gr g) HPK.out)
  have HFW := Lib.hid (fun (w' : World) (g : Gr w w') => few30_any _ D w' (HDI.out.gr g) HOK.out HRK.out)
  have HCHK := Lib.hid (fun (h : fineB P = true) => fine_chk h)
  generalize fineB P = fb at HFI HCHK
  cases fb
  · go_enter Tryz.func8, Tryz.ntmps8
    go_wp2_with (first | (go_at_call 10; (with_reducible refine (HKN.out).mono ?_); rintro e w1 ⟨rfl, g1⟩; (obtain ⟨zp, p0, p1, p2, p3, p4, p5, p6, p7, p8, zs, s0, s1, s2⟩ := HBX.out _ g1)) | (go_at_call 11; (with_reducible refine (HFI.out _ (g0.trans g1)).mono ?_); rintro e w2 ⟨rfl, h2⟩; have g2 := g1.trans h2; (obtain ⟨zp, p0, p1, p2, p3, p4, p5, p6, p7, p8, zs, s0, s1, s2⟩ := HBX.out _ g2)) | fail)
    (go_ret; exact ⟨rfl, g0.trans (by assumption)⟩)
  generalize fewD D = fd at HFW
  cases fd
  · go_enter Tryz.func8, Tryz.ntmps8
    go_wp2_with (first | (go_at_call 10; (with_reducible refine (HKN.out).mono ?_); rintro e w1 ⟨rfl, g1⟩; (obtain ⟨zp, p0, p1, p2, p3, p4, p5, p6, p7, p8, zs, s0, s1, s2⟩ := HBX.out _ g1)) | (go_at_call 11; (with_reducible refine (HFI.out _ (g0.trans g1)).mono ?_); rintro e w2 ⟨rfl, h2⟩; have g2 := g1.trans h2; (obtain ⟨zp, p0, p1, p2, p3, p4, p5, p6, p7, p8, zs, s0, s1, s2⟩ := HBX.out _ g2)) | (go_at_call 12; (with_reducible refine (HFW.out _ (g0.trans g2)).mono ?_); rintro e w3 ⟨rfl, h3⟩; have g3 := g2.trans h3; (obtain ⟨zp, p0, p1, p2, p3, p4, p5, p6, p7, p8, zs, s0, s1, s2⟩ := HBX.out _ g3)) | fail)
    (go_ret; exact ⟨rfl, g0.trans (by assumption)⟩)
  have H2 := Lib.hid (fun (w' : World) (g : Gr w w') => refCheckD_any _ _ P D w' (HPI.out.gr g) (HDI.out.gr g) HOK.out HRK.out)
  have HCH := Lib.hid (fun (E : Dgm) (w' : World) (v : Value) (g : Gr w w') (h1 : ∀ s ∈ E.st, s.nm.size ≤ maxLen) (h2 : ∀ r ∈ E.runs, r.nm.size ≤ maxLen) (he : IsDgm w' v E) => dgCheck_any _ v P E w' (HPI.out.gr g) he h1 h2)
  unfold dgmV at H2
  have hq : chkD P D = chkD P D := rfl
  by_cases hE : chkD P D = 0
  rotate_left
  · generalize chkD P D = q at H2 hE
    have tE : (q != 0) = true := bneT hE
    clear hE
    go_enter Tryz.func8, Tryz.ntmps8
    go_wp2_with (first | (go_at_call 10; (with_reducible refine (HKN.out).mono ?_); rintro e w1 ⟨rfl, g1⟩; (obtain ⟨zp, p0, p1, p2, p3, p4, p5, p6, p7, p8, zs, s0, s1, s2⟩ := HBX.out _ g1)) | (go_at_call 11; (with_reducible refine (HFI.out _ (g0.trans g1)).mono ?_); rintro e w2 ⟨rfl, h2⟩; have g2 := g1.trans h2; (obtain ⟨zp, p0, p1, p2, p3, p4, p5, p6, p7, p8, zs, s0, s1, s2⟩ := HBX.out _ g2)) | (go_at_call 12; (with_reducible refine (HFW.out _ (g0.trans g2)).mono ?_); rintro e w3 ⟨rfl, h3⟩; have g3 := g2.trans h3; (obtain ⟨zp, p0, p1, p2, p3, p4, p5, p6, p7, p8, zs, s0, s1, s2⟩ := HBX.out _ g3)) | (go_at_call 14; (with_reducible refine (H2.out _ (g0.trans g3)).mono ?_); rintro e w4 ⟨rfl, h4⟩; have g4 := g3.trans h4; (obtain ⟨zp, p0, p1, p2, p3, p4, p5, p6, p7, p8, zs, s0, s1, s2⟩ := HBX.out _ g4)) | fail)
    (go_ret; exact ⟨rfl, g0.trans (by assumption)⟩)
  rw [hE] at H2
  obtain ⟨x1, x2, -⟩ := chkD_ok hE
  have hk := HCHK.out rfl
  have H4 := Lib.hid (fun (w' : World) (g : Gr w w') => refLast_any _ D w' (HDI.out.gr g))
  unfold dgmV at H4
  have hlz : 0 ≤ lastD D ∧ lastD D ≤ 2000 := lastD_bd hE
  have tl : IntKind.i64.wrap (lastD D + bb) = lastD D + bb := IntWalk.i64_in _ (by omega)
  by_cases hlt : 2000 < lastD D + bb
  · go_enter Tryz.func8, Tryz.ntmps8
    go_wp2_with (first | (go_at_call 10; (with_reducible refine (HKN.out).mono ?_); rintro e w1 ⟨rfl, g1⟩; (obtain ⟨zp, p0, p1, p2, p3, p4, p5, p6, p7, p8, zs, s0, s1, s2⟩ := HBX.out _ g1)) | (go_at_call 11; (with_reducible refine (HFI.out _ (g0.trans g1)).mono ?_); rintro e w2 ⟨rfl, h2⟩; have g2 := g1.trans h2; (obtain ⟨zp, p0, p1, p2, p3, p4, p5, p6, p7, p8, zs, s0, s1, s2⟩ := HBX.out _ g2)) | (go_at_call 12; (with_reducible refine (HFW.out _ (g0.trans g2)).mono ?_); rintro e w3 ⟨rfl, h3⟩; have g3 := g2.trans h3; (obtain ⟨zp, p0, p1, p2, p3, p4, p5, p6, p7, p8, zs, s0, s1, s2⟩ := HBX.out _ g3)) | (go_at_call 14; (with_reducible refine (H2.out _ (g0.trans g3)).mono ?_); rintro e w4 ⟨rfl, h4⟩; have g4 := g3.trans h4; (obtain ⟨zp, p0, p1, p2, p3, p4, p5, p6, p7, p8, zs, s0, s1, s2⟩ := HBX.out _ g4)) | (go_at_call 16; (with_reducible refine (H4.out _ (g0.trans g4)).mono ?_); rintro e w5 ⟨rfl, h5⟩; have g5 := g4.trans h5; (obtain ⟨zp, p0, p1, p2, p3, p4, p5, p6, p7, p8, zs, s0, s1, s2⟩ := HBX.out _ g5)) | fail)
    (go_ret; exact ⟨rfl, g0.trans (by assumption)⟩)
  go_enter Tryz.func8, Tryz.ntmps8
  go_upto_region 5 with (first | (go_at_call 10; (with_reducible refine (HKN.out).mono ?_); rintro e w1 ⟨rfl, g1⟩; (obtain ⟨zp, p0, p1, p2, p3, p4, p5, p6, p7, p8, zs, s0, s1, s2⟩ := HBX.out _ g1)) | (go_at_call 11; (with_reducible refine (HFI.out _ (g0.trans g1)).mono ?_); rintro e w2 ⟨rfl, h2⟩; have g2 := g1.trans h2; (obtain ⟨zp, p0, p1, p2, p3, p4, p5, p6, p7, p8, zs, s0, s1, s2⟩ := HBX.out _ g2)) | (go_at_call 12; (with_reducible refine (HFW.out _ (g0.trans g2)).mono ?_); rintro e w3 ⟨rfl, h3⟩; have g3 := g2.trans h3; (obtain ⟨zp, p0, p1, p2, p3, p4, p5, p6, p7, p8, zs, s0, s1, s2⟩ := HBX.out _ g3)) | (go_at_call 14; (with_reducible refine (H2.out _ (g0.trans g3)).mono ?_); rintro e w4 ⟨rfl, h4⟩; have g4 := g3.trans h4; (obtain ⟨zp, p0, p1, p2, p3, p4, p5, p6, p7, p8, zs, s0, s1, s2⟩ := HBX.out _ g4)) | (go_at_call 16; (with_reducible refine (H4.out _ (g0.trans g4)).mono ?_); rintro e w5 ⟨rfl, h5⟩; have g5 := g4.trans h5; (obtain ⟨zp, p0, p1, p2, p3, p4, p5, p6, p7, p8, zs, s0, s1, s2⟩ := HBX.out _ g5)) | fail)
  go_upto_region 6 with fail
  have gw5 := g0.trans g5
  have HBX5 : Hid (Bx 31 w5.heap.size 0 (w5.alloc (.cells #[.int .i64 D.beg, .slice d1 D.st.length k1, .slice d2 D.runs.length k2] 31)) D.beg (.slice d1 D.st.length k1) (.slice d2 D.runs.length k2)) := bx_new
  have g56 : Gr w5 (w5.alloc (.cells #[.int .i64 D.beg, .slice d1 D.st.length k1, .slice d2 D.runs.length k2] 31)) := (Gr.refl _).alloc _
  have hs6 : w5.heap.size < (w5.alloc (.cells #[.int .i64 D.beg, .slice d1 D.st.length k1, .slice d2 D.runs.length k2] 31)).heap.size ∧ (w5.alloc (.cells #[.int .i64 D.beg, .slice d1 D.st.length k1, .slice d2 D.runs.length k2] 31)).heap.size ≤ w5.heap.size + 1 := by simp
  clear zp p0 p1 p2 p3 p4 p5 p6 p7 p8 zs s0 s1 s2
  generalize (w5.alloc (.cells #[.int .i64 D.beg, .slice d1 D.st.length k1, .slice d2 D.runs.length k2] 31)) = w6 at *
  have g6 := g5.trans g56
  have gw6 := g0.trans g6
  have hww : w.heap.size ≤ w5.heap.size := gw5.size
  go_cut [] from 40 (fun wc => ∃ g cap : Nat, w5.heap.size < g ∧ g < wc.heap.size ∧ Lt w5 w5.heap.size g (w5.heap.size + 1) cap (.slice d1 D.st.length k1) D.runs D.beg bb 0 wc)
  case first =>
    (obtain ⟨zp, p0, p1, p2, p3, p4, p5, p6, p7, p8, zs, s0, s1, s2⟩ := HBX.out _ g6)
    obtain ⟨zx, y0, y1, y2⟩ := rd_cells0 HBX5.out _ (Gr.refl _)
    have fx := HBX5.out.frozen 2
    obtain ⟨S, hrow, hleg, hone⟩ := HRU.out.rows
    have hown : (w6.alloc (.cells #[] 51)).ownsRow w6.heap.size 51 5 (.slice (some ⟨w6.heap.size, 0, none⟩) 0 0) 0 [] :=
      ⟨rfl, .inr ⟨w6.heap.size, 0, #[], rfl, Nat.le_refl _, heap_alloc_new w6 _, Nat.le_refl _, Nat.zero_le _, rfl, rfl⟩⟩
    have HO := Lib.hid hown
    have HLG := Lib.hid hleg
    by_cases hn0 : D.runs.length = 0
    · have HNIL := fun w' => append_nilR w' d2 k2 w6.heap.size
      have hRn : D.runs = [] := List.length_eq_zero_iff.1 hn0
      rw [hn0] at s2
      have HRn := Lib.hid hRn
      clear hn0 hRn hrow hleg hone hown
      go_wp2_with (first | (at_builtin; refine wpList_append_empty rfl _ _ 29 rfl _ _ rfl rfl (HNIL _) ?_))
      go_meet
      case rel =>
        refine ⟨w6.heap.size, 0, by omega, by simp, (g56.setCell (Nat.le_refl _) _).alloc _, ?_, [], ?_, ?_, fun i hi => absurd hi (by simp)⟩
        · rw [HRn.out]; exact (HBX5.out.set2 _).gr ((Gr.refl _).alloc _)
        · rw [HRn.out]; rfl
        · rw [HRn.out]
          have h := heap_alloc_new (w6.setCell ⟨w5.heap.size, 2, none⟩ (.slice (some ⟨w6.heap.size, 0, none⟩) 0 0)) (.cells #[] 51)
          exact ⟨rfl, .inr ⟨w6.heap.size, 0, #[], rfl, hs6.1, by simpa using h, Nat.le_refl _, Nat.zero_le _, rfl, rfl⟩⟩
    · have n0 : 0 < D.runs.length := by omega
      obtain ⟨br, or_, rfl, zbr, -⟩ := IsRow.at hrow 0 n0
      have HRW := Lib.hid (fun w' (g : Gr w w') => rowL_at (by omega) (hrow.gr g))
      have HON := Lib.hid (rowL_one (sz := 5) (n := D.runs.length) (rnc_one D.runs S hone))
      obtain ⟨i0, hi0, hz0, hz1, hz2⟩ := info_parts Tryz.infoRn
      clear hrow hleg hone hown
      go_wp2_with (first | (at_builtin; refine wpList_append_own _ rfl _ _ 29 rfl w6.heap.size 51 i0 (.agg #[.string ByteArray.empty, .int .i64 0, .int .i64 0, .int .i64 0, .slice none 0 0]) 5 64 Tryz.underlying29 hi0 hz0 hz1 hz2 rfl (by decide) _ _ _ rfl HO.out ⟨br, or_, none⟩ D.runs.length k2 (rowL 5 D.runs.length (fun i j => (D.runs.getD i default).c (S i) j)) rfl (rowL_len _ _ _) ?c1 ?c2 ?c3 ?c4 ?c5 ?_))
      case c1 => exact HRW.out _ (gw6.alloc _)
      case c2 => exact HON.out
      case c3 => unfold maxLen; omega
      case c4 => omega
      case c5 => simp
      intro v' w7 hown' hgrow _
      have hg1 : Gr w6 w7 := Gr.grown ((Gr.refl w6).alloc _) hgrow HO.out
      have HO7 : Hid (OwnRn w6.heap.size w7 v' (prs D.runs S)) := by
        show w7.ownsRow _ _ _ _ _ _
        rw [prs_len, ← rowL_prs]
        simpa using hown'
      obtain ⟨gg, cap, rfl, hgb, hglt⟩ := hown'.form (by omega)
      try simp only [Nat.zero_add] at HO7
      try simp only [Nat.zero_add]
      clear hown' hgrow HO HRW HON
      replace y2 := (hg1.cell _ _ zx).trans y2
      replace fx := (hg1.frozen _ _ zx).trans fx
      go_wp2_with fail
      go_meet
      case rel =>
        refine ⟨gg, cap, by omega, by simpa using hglt, (g56.trans hg1).setCell (by simp) _, (HBX5.out.gr hg1).set2 _, prs D.runs S, by rw [prs_fst, lat_zero], own_base_le (own_setC HO7.out _ (by simp; omega) _) (by omega), fun i hi => ?_⟩
        rw [prs_at]
        refine LegAt.of (HLG.out i (by rw [prs_len] at hi; exact hi)) ((gw6.trans hg1).setCell (by simp; omega) _) (by omega) ?_
        have := hg1.size
        simp
        omega
  case rest =>
    obtain ⟨gg, cap, hg1, hg2, hLt⟩ := hcut
    have HLT := Lib.hid hLt
    obtain ⟨zx, y0, y1, y2⟩ := rd_cells0 hLt.2.1 _ (Gr.refl _)
    clear hLt
    go_wp2_with fail
    clear zx y0 y1 y2
    go_loopw [8, 9, 10, 48] (fun s _ _ x wr => ∃ k : Nat, x = .int .i64 k ∧ s = .bool (anyL D.runs k) ∧ k ≤ D.runs.length ∧ Lt w5 w5.heap.size gg (w5.heap.size + 1) cap (.slice d1 D.st.length k1) D.runs D.beg bb k wr) (fun _ _ _ x _ => D.runs.length - (intOf x).toNat)
    case atStart => exact ⟨0, rfl, by rw [anyL_zero], Nat.zero_le _, HLT.out⟩
    case round =>
      obtain ⟨k, rfl, rfl, hkk, hlt0⟩ := hrel
      by_cases hkl : k < D.runs.length
      · have hk1 : (k : Int) < (D.runs.length : Int) := by omega
        have hk0 : (0 : Int) ≤ (k : Int) := Int.natCast_nonneg _
        obtain ⟨hG, hX, A, hfst, hR, hA⟩ := hlt0
        have hAl : A.length = D.runs.length := by
          have := congrArg List.length hfst
          rw [List.length_map, lat_len] at this
          exact this
        have hkA : k < A.length := by omega
        have hAk : A[k].1 = D.runs[k] := by
          have h1 : (A.map Prod.fst)[k]'(by rw [List.length_map]; exact hkA) = A[k].1 := List.getElem_map _
          rw [← h1]
          have h2 : ∀ (X : List Rn) (e : X = lat (fun x : Rn => x.add bb) D.runs k) (h : k < X.length), X[k] = D.runs[k] := by
            intro X e h
            subst e
            exact lat_at _ (Nat.le_refl k) hkl _
          exact h2 _ hfst _
        have hleg := (hA k hkA).1
        rw [hAk] at hleg
        obtain ⟨la, lc, hv, hlm, hlc⟩ := hleg.form
        have HLE := Lib.hid hleg
        rw [hv] at HLE
        have hcell : wr.cell? ⟨gg, k * 5 + 4, none⟩ = some (.slice la D.runs[k].legs.length lc) := by
          have h := OwnRn.cell (A := A) (g := gg) (c := cap) (by rw [hAl]; exact hR) k 4 hkA (by omega)
          rw [h]
          show some (A[k].2) = _
          rw [hv]
        have zg : gg < wr.heap.size := own_lt hR gg rfl
        have hfro : wr.frozen? ⟨gg, k * 5 + 4, none⟩ = false := by
          have h := hR
          unfold OwnRn at h
          rw [hAl] at h
          exact World.ownsRow.frozenAt h _
        have HAT : Hid (∀ l ∈ D.runs[k].legs, 0 ≤ l.at_ ∧ l.at_ + bb ≤ 2000) := fun l hl => ⟨(legs_at hE _ (List.getElem_mem hkl) l hl).1, by have h := lastR_mem D.runs 0 _ (List.getElem_mem hkl) l hl; have h2 : lastR 0 D.runs = lastD D := rfl; omega⟩
        have hL12 := x2 _ (List.getElem_mem hkl)
        have HNX := Lib.hid (anyL_next hkl)
        have HDN := Lib.hid (fun (W : World) (b1 c1 : Nat) => later_done (w5 := w5) (wr := wr) (W := W) (bx := w5.heap.size) (g := gg) (B := w5.heap.size + 1) (cap := cap) (b1 := b1) (c1 := c1) (stv := .slice d1 D.st.length k1) (beg := D.beg) (b := bb) hkl hfst)
        have HX := Lib.hid hX
        have HR := Lib.hid hR
        have HA := Lib.hid hA
        have HAL := Lib.hid hAl
        have hn8 : D.runs.length ≤ 8 := x1
        generalize hLe : D.runs[k].legs = L at HLE hcell HAT hL12 HNX HDN hlm hlc
        clear hLe hAk hleg hv hfst hAl
        obtain ⟨zx, y0, y1, y2⟩ := rd_cells0 hX _ (Gr.refl _)
        go_upto_region 11 with fail
        go_cut [] from 51 to 64 (fun wc => ∃ b1 c1 : Nat, OwnLg wr.heap.size wc (.slice (some ⟨b1, 0, none⟩) L.length c1) L ∧ OwnRn (w5.heap.size + 1) wc (.slice (some ⟨gg, 0, none⟩) A.length cap) (setLegs A k L (.slice (some ⟨b1, 0, none⟩) L.length c1)) ∧ Bx 31 w5.heap.size 0 wc D.beg (.slice d1 D.st.length k1) (.slice (some ⟨gg, 0, none⟩) A.length cap) ∧ Gr w5 wc ∧ (∀ i (hi : i < A.length), LegAt gg wr.heap.size wc A[i].2 A[i].1.legs) ∧ wr.heap.size ≤ b1 ∧ b1 < wc.heap.size)
        case first =>
          have hown : (wr.alloc (.cells #[] 54)).ownsRow wr.heap.size 54 4 (.slice (some ⟨wr.heap.size, 0, none⟩) 0 0) 0 [] :=
            ⟨rfl, .inr ⟨wr.heap.size, 0, #[], rfl, Nat.le_refl _, heap_alloc_new wr _, Nat.le_refl _, Nat.zero_le _, rfl, rfl⟩⟩
          have HO := Lib.hid hown
          have HPU := Lib.hid (fun (w9 : World) (b1 c1 : Nat) (gw : Gr wr w9) => later_put (w9 := w9) (b1 := b1) (c1 := c1) (L := L) (cap := cap) (B := w5.heap.size + 1) (beg := D.beg) (stv := .slice d1 D.st.length k1) hkA (show w5.heap.size ≠ gg by omega) (by omega) (hG.trans gw) gw)
          clear hown hX hR hA
          clear HDN HNX HAT HLT HBX5 HPI HPK HDI HOK HRK HST HRU HBX HKN HFI HFW HCHK H2 H4 HCH g6 gw6 gw5 g56 g0 g1 g2 g3 g4 g5 h2 h3 h4 h5 hww hlz tl tw hby hlt hk x1 x2 hq y0 y1
          by_cases hm : L = []
          · subst hm
            have HNIL := fun w' => append_nilL w' la lc wr.heap.size
            dsimp only [List.length] at *
            have hcm : (wr.alloc (.cells #[] 54)).setCell ⟨gg, k * 5 + 4, none⟩ (.slice (some ⟨wr.heap.size, 0, none⟩) 0 0) = (wr.setCell ⟨gg, k * 5 + 4, none⟩ (.slice (some ⟨wr.heap.size, 0, none⟩) 0 0)).alloc (.cells #[] 54) := by go_simp
            have HCM := Lib.hid hcm
            clear hcm
            go_region_law (refine step_append_empty (by rfl) _ _ _ (by rfl) _ _ (by rfl) (by rfl) (HNIL _) ?_)
            all_goals (go_wp2_with fail)
            all_goals go_meet
            all_goals (case rel => exact ⟨wr.heap.size, 0, HPU.out (wr.alloc (.cells #[] 54)) wr.heap.size 0 ((Gr.refl wr).alloc _) (by rw [HAL.out]; exact HX.out.gr ((Gr.refl _).alloc _)) (by rw [HAL.out]; exact own_gr HR.out ((Gr.refl _).alloc _)) HO.out HA.out _ (by show Gr ((wr.alloc (.cells #[] 54)).setCell ⟨gg, k * 5 + 4, none⟩ (.slice (some ⟨wr.heap.size, 0, none⟩) 0 0)) _; rw [HCM.out]; exact (Gr.refl _).drew)⟩)
          · have hm1 : 0 < L.length := List.length_pos_iff.2 hm
            obtain ⟨ab, hab⟩ : ∃ ab, la = some ab := by
              obtain ⟨⟨a', c', e, -, hx⟩, -⟩ := HLE.out
              cases e
              rcases hx with hx | ⟨b, o, e, -⟩
              · omega
              · exact ⟨_, e⟩
            subst hab
            have HNW := Lib.hid (fun (w' : World) (g : Gr wr w') => (HLE.out.gr g).news)
            have HON := Lib.hid (legCs_one L)
            obtain ⟨i0, j0, j1, j2, j3⟩ := info_parts Tryz.infoLg
            go_region_law (refine step_append_lies _ (by rfl) _ _ _ (by rfl) wr.heap.size 54 i0 _ 4 32 Tryz.underlying49 j0 j1 j2 j3 rfl (by omega) (.slice (some ⟨wr.heap.size, 0, none⟩) 0 0) 0 [] (by rfl) (HO.out.drew) ab L.length lc (L.flatMap Leg.cs) (by rfl) (legCs_len L) (HNW.out _ ((Gr.refl wr).alloc _).drew) HON.out hm1 (by unfold maxLen; omega) (by omega) (by simp) (wr.heap.size + 1) (by simp) ?_; intro b1 c1 w9 hown hgrow hat hlt; have hgw : Gr wr w9 := Gr.grown (((Gr.refl wr).alloc _).drew) hgrow HO.out; have cu9 := (hgw.cell gg (k * 5 + 4) zg).trans hcell; have fu9 := (hgw.frozen gg (k * 5 + 4) zg).trans hfro; have y9 := (hgw.cell w5.heap.size 2 zx).trans y2)
            all_goals (go_wp2_with fail)
            all_goals go_meet
            all_goals (case rel => exact ⟨b1, c1, HPU.out w9 b1 c1 hgw (by rw [HAL.out]; exact HX.out.gr hgw) (by rw [HAL.out]; exact own_gr HR.out hgw) (by have h := hown; simp only [Nat.zero_add, List.nil_append] at h; exact h) HA.out _ (by first | exact Gr.refl _ | exact (Gr.refl _).drew)⟩)
        case rest =>
          obtain ⟨b1, c1', qL, qR, qX, qG, qA, qb, qz⟩ := hcut
          have hbg : b1 ≠ gg := by omega
          have hbx : w5.heap.size ≠ b1 := by omega
          obtain ⟨zx, y0, y1, y2⟩ := rd_cells0 qX _ (Gr.refl _)
          rw [HAL.out] at y2
          have hAA : Hid (∀ (W : World), OwnRn (w5.heap.size + 1) W (.slice (some ⟨gg, 0, none⟩) A.length cap) (setLegs A k L (.slice (some ⟨b1, 0, none⟩) L.length c1')) → W.cell? ⟨gg, k * 5 + 4, none⟩ = some (.slice (some ⟨b1, 0, none⟩) L.length c1') ∧ gg < W.heap.size) := fun W h => by
            refine ⟨?_, own_lt h gg rfl⟩
            have h2 := OwnRn.cell (A := setLegs A k L (.slice (some ⟨b1, 0, none⟩) L.length c1')) (g := gg) (c := cap) (by rw [setLegs_len]; exact h) k 4 (by rw [setLegs_len]; exact hkA) (by omega)
            rw [h2, setLegs_at, if_pos rfl]
            rfl
          obtain ⟨hc4, zg4⟩ := hAA.out _ qR
          have hwb : b1 < wc.heap.size ∧ wr.heap.size ≤ wc.heap.size := ⟨qz, by omega⟩
          have hw5M : w5.heap.size ≤ wr.heap.size := hG.size
          generalize wr.heap.size = M at qL qA qb HDN hwb hw5M
          clear HBX5 HX HR HA
          go_upto_region 12 with fail
          go_wp2_with fail
          clear zx y0 y1 y2 hc4 zg4 hcell hfro zg
          go_loopw [8, 10, 71] (fun s _ x wq => ∃ j : Nat, x = .int .i64 j ∧ s = .bool (anyL D.runs k || decide (0 < j)) ∧ j ≤ L.length ∧ Gr w5 wq ∧ Bx 31 w5.heap.size 0 wq D.beg (.slice d1 D.st.length k1) (.slice (some ⟨gg, 0, none⟩) A.length cap) ∧ OwnRn (w5.heap.size + 1) wq (.slice (some ⟨gg, 0, none⟩) A.length cap) (setLegs A k L (.slice (some ⟨b1, 0, none⟩) L.length c1')) ∧ OwnLg M wq (.slice (some ⟨b1, 0, none⟩) L.length c1') (lat (·.add bb) L j) ∧ (∀ i (hi : i < A.length), LegAt gg M wq A[i].2 A[i].1.legs) ∧ M ≤ wq.heap.size) (fun _ _ x _ => L.length - (intOf x).toNat)
          case atStart => exact ⟨0, rfl, by simp, Nat.zero_le _, qG, qX, qR, by rw [lat_zero]; exact qL, qA, by omega⟩
          case round =>
            obtain ⟨j, rfl, rfl, hj, jG, jX, jR, jL, jA, jz⟩ := hrel
            by_cases hjl : j < L.length
            · have hj1 : (j : Int) < (L.length : Int) := by omega
              have hj0 : (0 : Int) ≤ (j : Int) := Int.natCast_nonneg _
              obtain ⟨zx, y0, y1, y2⟩ := rd_cells0 jX _ (Gr.refl _)
              rw [HAL.out] at y2
              obtain ⟨hc4, zg4⟩ := hAA.out _ jR
              obtain ⟨hca, hcf⟩ := OwnLg.cell jL hjl
              have hlz2 := HAT.out _ (List.getElem_mem hjl)
              have tat : IntKind.i64.wrap (L[j].at_ + bb) = L[j].at_ + bb := IntWalk.i64_in _ (by omega)
              have zb1 : b1 < wr.heap.size := own_lt jL b1 rfl
              have JX := Lib.hid jX
              have JR := Lib.hid jR
              have JL := Lib.hid jL
              have JA := Lib.hid jA
              have JN := Lib.hid (OwnLg.later jL hjl)
              have JS := Lib.hid ((World.ownsRow.stored (by have h := jL; unfold OwnLg at h; rw [lat_len] at h; exact h) (j * 4 + 1) (.int .i64 (L[j].at_ + bb))).2)
              have hdiff := own_diff jR jL (by decide)
              clear jX jR jL jA
              generalize L[j].at_ = at_ at *
              go_wp2_with fail
              go_roundw
              case rel => exact ⟨j + 1, by go_num, by simp, hjl, jG.setCell (by simp; omega) _, JX.out.block (heap_setCell_other wr ⟨b1, j * 4 + 1, none⟩ w5.heap.size _ hbx), JR.out.kept JS.out hdiff, JN.out, fun i hi => (JA.out i hi).set _ (.inr qb) _, by simpa using jz⟩
              case measure => simp [intOf]; omega
            · have hj1 : ¬ (j : Int) < (L.length : Int) := by omega
              rw [lat_done _ (show L.length ≤ j by omega)] at jL
              have HD := Lib.hid (HDN.out wr b1 c1' jG (by rw [← HAL.out]; exact jX) (by rw [← HAL.out]; exact jR) jL jA hbg jz (by unfold maxLen; omega))
              clear jX jR jL jA
              go_wp2_with fail
              go_roundw
              case rel => exact ⟨k + 1, by go_num, by rw [HNX.out]; congr 2; congr 1; simp; omega, hkl, HD.out⟩
              case measure => simp [intOf]; omega
      · have hk1 : ¬ (k : Int) < (D.runs.length : Int) := by omega
        obtain ⟨hG, hX, A, hfst, hR, hA⟩ := hlt0
        have hAl : A.length = D.runs.length := by
          have := congrArg List.length hfst
          rw [List.length_map, lat_len] at this
          exact this
        have hds : A.map Prod.fst = (addD D bb).runs := hfst.trans (lat_done _ (by omega))
        have gwr := gw5.trans hG
        have hc2 : chkD P (addD D bb) = 0 := addD_chk hE hby.1 (by omega)
        have HDY : Hid (IsDgm wr (.agg #[.int .i64 D.beg, .slice d1 D.st.length k1, .slice (some ⟨gg, 0, none⟩) D.runs.length cap]) (addD D bb)) := by
          refine IsDgm.of (D := addD D bb) (HST.out.gr gwr) ?_
          rw [← hds]
          exact OwnRn.runs (by unfold OwnRn; rw [hAl]; unfold OwnRn at hR; rw [hAl] at hR; exact hR) (by unfold maxLen; omega) fun i hi => (hA i hi).1
        have hz1 := printD_size hk hE
        have hz2 := printD_size hk hc2
        have hrw := addD_rows (P := P) D bb
        have HP1 := Lib.hid (fun (w' : World) (g : Gr wr w') => dgPrint_any _ _ P D w' (ht.gr (gwr.trans g)) (HPI.out.gr (gwr.trans g)) hk (HDI.out.gr (gwr.trans g)) HOK.out HRK.out)
        have HP2 := Lib.hid (fun (w' : World) (g : Gr wr w') => dgPrint_any _ _ P (addD D bb) w' (ht.gr (gwr.trans g)) (HPI.out.gr (gwr.trans g)) hk (HDY.out.gr g) HOK.out (addD_nm HRK.out))
        rw [if_pos hE, hE] at HP1
        rw [if_pos hc2, hc2] at HP2
        have HLN1 : Hid (∀ w', Calls Tryz.prog 23 #[.string (printD P D)] w' fun e w'' => ∃ a c, e = .returned (.slice a (rowsD P D).length c) ∧ Gr w' w'') := fun w' => (refLines_any (printD P D) (by omega) w').mono fun e w2 ⟨v, he, hv, hg⟩ => by
          obtain ⟨a, c, rfl, -, -⟩ := hv
          rw [List.length_map, lnB_printD hk hE] at he
          exact ⟨a, c, he, hg⟩
        have HLN2 : Hid (∀ w', Calls Tryz.prog 23 #[.string (printD P (addD D bb))] w' fun e w'' => ∃ a c, e = .returned (.slice a (rowsD P D).length c) ∧ Gr w' w'') := fun w' => (refLines_any (printD P (addD D bb)) (by omega) w').mono fun e w2 ⟨v, he, hv, hg⟩ => by
          obtain ⟨a, c, rfl, -, -⟩ := hv
          rw [List.length_map, lnB_printD hk hc2, hrw] at he
          exact ⟨a, c, he, hg⟩
        have hc3 : chkD P (addD D bb) = 0 := hc2
        have HC0 := Lib.hid (fun (w' : World) (g : Gr wr w') => HCH.out (addD D bb) w' _ (gwr.trans g) HOK.out (addD_nm HRK.out) (HDY.out.gr g))
        rw [hc3] at HC0
        have HL1 := Lib.hid (fun (w' : World) (g : Gr wr w') => dgLast_any _ (addD D bb) w' (HDY.out.gr g))
        have HL2 := Lib.hid (fun (w' : World) (g : Gr wr w') => dgLast_any _ D w' (HDI.out.gr (gwr.trans g)))
        have hrl : (rowsD P D).length ≤ 1000 := by have := rowsD_len (P := P) hE; omega
        have HLS := Lib.hid (fun (h : anyL D.runs k = true) => addD_last hE hby.1 (anyL_some h))
        have HXB := Lib.hid (fun (w' : World) (g : Gr wr w') => rd_cells0 hX w' g)
        have HBW := Lib.hid (fun (w' : World) (g : Gr wr w') => HBX.out w' ((g5.trans hG).trans g))
        have hRL : I64 ((rowsD P D).length : Int) := I64_of (by omega) (by omega)
        generalize printD P D = T1 at HP1 HLN1
        generalize printD P (addD D bb) = T2 at HP2 HLN2
        generalize (rowsD P D).length = N at HLN1 HLN2 hrl
        generalize lastD (addD D bb) = q1 at HL1 HLS
        generalize lastD D = q2 at HL2 HLS tl hlz
        generalize anyL D.runs k = qa at HLS ⊢
        clear hX hA hR hfst hds hAl hz1 hz2 hrw hc2 hc3 HBX5 HLT HPI HPK HDI HOK HRK HST HRU HBX HKN HFI HFW HCHK H2 H4 HCH HDY hRL hE hk x1 x2
        obtain ⟨zp, p0, p1, p2, p3, p4, p5, p6, p7, p8, zs, s0, s1, s2⟩ := HBW.out _ (Gr.refl _)
        obtain ⟨zx, y0, y1, y2⟩ := HXB.out _ (Gr.refl _)
        go_upto_region 21 with (first | (go_at_call 18; first | ((with_reducible refine (HP1.out _ (Gr.refl _)).mono ?_); rintro e wa ⟨rfl, ha⟩; obtain ⟨zp, p0, p1, p2, p3, p4, p5, p6, p7, p8, zs, s0, s1, s2⟩ := HBW.out _ ha; obtain ⟨zx, y0, y1, y2⟩ := HXB.out _ ha) | ((with_reducible refine (HP2.out _ ha).mono ?_); rintro e wb ⟨rfl, hb⟩; obtain ⟨zp, p0, p1, p2, p3, p4, p5, p6, p7, p8, zs, s0, s1, s2⟩ := HBW.out _ (ha.trans hb); obtain ⟨zx, y0, y1, y2⟩ := HXB.out _ (ha.trans hb))) | fail)
        have hab := ha.trans hb
        have HS : Hid (∀ w', Gr wb w' → w'.cell? ⟨w.heap.size, 0, none⟩ = some (.slice a1 P.es.length c1) ∧ w'.cell? ⟨w.heap.size, 1, none⟩ = some (.slice a2 P.js.length c2) ∧ w'.cell? ⟨w.heap.size, 2, none⟩ = some (.slice a3 P.ss.length c3) ∧ w'.cell? ⟨w.heap.size, 3, none⟩ = some (.slice a4 P.ls.length c4) ∧ w'.cell? ⟨w.heap.size, 4, none⟩ = some (.int .i64 P.top) ∧ w'.cell? ⟨w.heap.size, 5, none⟩ = some (.int .i64 P.brake) ∧ w'.cell? ⟨w.heap.size, 6, none⟩ = some (.int .i64 P.margin) ∧ w'.cell? ⟨w.heap.size, 7, none⟩ = some (.int .i64 P.throw) ∧ w'.cell? ⟨w.heap.size, 8, none⟩ = some (.bool P.hard) ∧ w'.cell? ⟨w.heap.size + 1, 0, none⟩ = some (.int .i64 D.beg) ∧ w'.cell? ⟨w.heap.size + 1, 1, none⟩ = some (.slice d1 D.st.length k1) ∧ w'.cell? ⟨w.heap.size + 1, 2, none⟩ = some (.slice d2 D.runs.length k2) ∧ w'.cell? ⟨w5.heap.size, 0, none⟩ = some (.int .i64 D.beg) ∧ w'.cell? ⟨w5.heap.size, 1, none⟩ = some (.slice d1 D.st.length k1) ∧ w'.cell? ⟨w5.heap.size, 2, none⟩ = some (.slice (some ⟨gg, 0, none⟩) D.runs.length cap)) := fun w' g => by
          obtain ⟨-, p0, p1, p2, p3, p4, p5, p6, p7, p8, -, s0, s1, s2⟩ := HBW.out _ (hab.trans g)
          obtain ⟨-, y0, y1, y2⟩ := HXB.out _ (hab.trans g)
          exact ⟨p0, p1, p2, p3, p4, p5, p6, p7, p8, s0, s1, s2, y0, y1, y2⟩
        clear HBW HXB zp p0 p1 p2 p3 p4 p5 p6 p7 p8 zs s0 s1 s2 zx y0 y1 y2 HP1 HP2
        have tN : ((N : Int) == (N : Int)) = true := by simp
        cases qa
        · refine wp_region_held_drew (S := fun w' => w'.cell? ⟨w.heap.size, 0, none⟩ = some (.slice a1 P.es.length c1) ∧ w'.cell? ⟨w.heap.size, 1, none⟩ = some (.slice a2 P.js.length c2) ∧ w'.cell? ⟨w.heap.size, 2, none⟩ = some (.slice a3 P.ss.length c3) ∧ w'.cell? ⟨w.heap.size, 3, none⟩ = some (.slice a4 P.ls.length c4) ∧ w'.cell? ⟨w.heap.size, 4, none⟩ = some (.int .i64 P.top) ∧ w'.cell? ⟨w.heap.size, 5, none⟩ = some (.int .i64 P.brake) ∧ w'.cell? ⟨w.heap.size, 6, none⟩ = some (.int .i64 P.margin) ∧ w'.cell? ⟨w.heap.size, 7, none⟩ = some (.int .i64 P.throw) ∧ w'.cell? ⟨w.heap.size, 8, none⟩ = some (.bool P.hard) ∧ w'.cell? ⟨w.heap.size + 1, 0, none⟩ = some (.int .i64 D.beg) ∧ w'.cell? ⟨w.heap.size + 1, 1, none⟩ = some (.slice d1 D.st.length k1) ∧ w'.cell? ⟨w.heap.size + 1, 2, none⟩ = some (.slice d2 D.runs.length k2) ∧ w'.cell? ⟨w5.heap.size, 0, none⟩ = some (.int .i64 D.beg) ∧ w'.cell? ⟨w5.heap.size, 1, none⟩ = some (.slice d1 D.st.length k1) ∧ w'.cell? ⟨w5.heap.size, 2, none⟩ = some (.slice (some ⟨gg, 0, none⟩) D.runs.length cap)) (by kernel_rfl) (HS.out _ (Gr.refl _).drew) (fun hHeld => ?_)
          (refine wpAnyH_take (i := 0) (v := ?_) rfl (by kernel_rfl) (by kernel_rfl) (by kernel_rfl) (fun _ _ _ h => h) (Or.inl ⟨by rfl, ?_⟩) (by assumption) ?_; rotate_left; (focus (intro w hSw; (try dsimp only at hSw); go_simp; try with_reducible rfl)); try simp only [Act.put, List.getElem_toArray, List.getElem_cons_zero, List.getElem_cons_succ, List.setIfInBounds_toArray, List.set_cons_zero, List.set_cons_succ])
          (refine wpAnyH_take (i := 1) (v := ?_) rfl (by kernel_rfl) (by kernel_rfl) (by kernel_rfl) (fun _ _ _ h => h) (Or.inl ⟨by rfl, ?_⟩) (by assumption) ?_; rotate_left; (focus (intro w hSw; (try dsimp only at hSw); go_simp; try with_reducible rfl)); try simp only [Act.put, List.getElem_toArray, List.getElem_cons_zero, List.getElem_cons_succ, List.setIfInBounds_toArray, List.set_cons_zero, List.set_cons_succ])
          (refine wpAnyH_ready (rs := [2]) (by kernel_rfl) (by simp) ?_; refine AllReadyH.cons rfl (fun K hK => ?_) AllReadyH.nil; go_simp)
          go_at_call 13
          (with_reducible refine (HC0.out _ (hab.trans (Gr.refl _).drew)).mono ?_)
          rintro e v5 ⟨rfl, h5⟩
          have G5 := (Gr.refl wb).drew.trans h5
          (refine hK.out _ _ (HS.out _ G5) (fun hHeld2 => ?_); clear hK K hHeld; have hHeld := hHeld2; clear hHeld2; try simp only [Act.put, List.getElem_toArray, List.getElem_cons_zero, List.getElem_cons_succ, List.setIfInBounds_toArray, List.set_cons_zero, List.set_cons_succ])
          (refine wpAnyH_take (i := 3) (v := ?_) rfl (by kernel_rfl) (by kernel_rfl) (by kernel_rfl) (fun _ _ _ h => h) (Or.inl ⟨by rfl, ?_⟩) (by assumption) ?_; rotate_left; (focus (intro w hSw; (try dsimp only at hSw); go_simp; try with_reducible rfl)); try simp only [Act.put, List.getElem_toArray, List.getElem_cons_zero, List.getElem_cons_succ, List.setIfInBounds_toArray, List.set_cons_zero, List.set_cons_succ])
          (refine wpAnyH_take (i := 4) (v := ?_) rfl (by kernel_rfl) (by kernel_rfl) (by kernel_rfl) (fun _ _ _ h => h) (Or.inl ⟨by rfl, ?_⟩) (by assumption) ?_; rotate_left; (focus (intro w hSw; (try dsimp only at hSw); go_simp; try with_reducible rfl)); try simp only [Act.put, List.getElem_toArray, List.getElem_cons_zero, List.getElem_cons_succ, List.setIfInBounds_toArray, List.set_cons_zero, List.set_cons_succ])
          (refine wpAnyH_take (i := 5) (v := ?_) rfl (by kernel_rfl) (by kernel_rfl) (by kernel_rfl) (fun _ _ _ h => h) (Or.inl ⟨by rfl, ?_⟩) (by assumption) ?_; rotate_left; (focus (intro w hSw; (try dsimp only at hSw); go_simp; try with_reducible rfl)); try simp only [Act.put, List.getElem_toArray, List.getElem_cons_zero, List.getElem_cons_succ, List.setIfInBounds_toArray, List.set_cons_zero, List.set_cons_succ])
          (refine wpAnyH_take (i := 6) (v := ?_) rfl (by kernel_rfl) (by kernel_rfl) (by kernel_rfl) (fun _ _ _ h => h) (Or.inl ⟨by rfl, ?_⟩) (by assumption) ?_; rotate_left; (focus (intro w hSw; (try dsimp only at hSw); go_simp; try with_reducible rfl)); try simp only [Act.put, List.getElem_toArray, List.getElem_cons_zero, List.getElem_cons_succ, List.setIfInBounds_toArray, List.set_cons_zero, List.set_cons_succ])
          (refine wpAnyH_take (i := 7) (v := ?_) rfl (by kernel_rfl) (by kernel_rfl) (by kernel_rfl) (fun _ _ _ h => h) (Or.inl ⟨by rfl, ?_⟩) (by assumption) ?_; rotate_left; (focus (intro w hSw; (try dsimp only at hSw); go_simp; try with_reducible rfl)); try simp only [Act.put, List.getElem_toArray, List.getElem_cons_zero, List.getElem_cons_succ, List.setIfInBounds_toArray, List.set_cons_zero, List.set_cons_succ])
          (refine wpAnyH_take (i := 8) (v := undef) rfl (by kernel_rfl) (by kernel_rfl) (by kernel_rfl) (fun _ _ _ h => h) (Or.inr ⟨by rfl, rfl⟩) (by assumption) ?_; try simp only [Act.put, List.getElem_toArray, List.getElem_cons_zero, List.getElem_cons_succ, List.setIfInBounds_toArray, List.set_cons_zero, List.set_cons_succ])
          (refine wpAnyH_take (i := 9) (v := undef) rfl (by kernel_rfl) (by kernel_rfl) (by kernel_rfl) (fun _ _ _ h => h) (Or.inr ⟨by rfl, rfl⟩) (by assumption) ?_; try simp only [Act.put, List.getElem_toArray, List.getElem_cons_zero, List.getElem_cons_succ, List.setIfInBounds_toArray, List.set_cons_zero, List.set_cons_succ])
          (refine wpAnyH_take (i := 10) (v := undef) rfl (by kernel_rfl) (by kernel_rfl) (by kernel_rfl) (fun _ _ _ h => h) (Or.inr ⟨by rfl, rfl⟩) (by assumption) ?_; try simp only [Act.put, List.getElem_toArray, List.getElem_cons_zero, List.getElem_cons_succ, List.setIfInBounds_toArray, List.set_cons_zero, List.set_cons_succ])
          (refine wpAnyH_take (i := 11) (v := undef) rfl (by kernel_rfl) (by kernel_rfl) (by kernel_rfl) (fun _ _ _ h => h) (Or.inr ⟨by rfl, rfl⟩) (by assumption) ?_; try simp only [Act.put, List.getElem_toArray, List.getElem_cons_zero, List.getElem_cons_succ, List.setIfInBounds_toArray, List.set_cons_zero, List.set_cons_succ])
          (refine wpAnyH_take (i := 12) (v := undef) rfl (by kernel_rfl) (by kernel_rfl) (by kernel_rfl) (fun _ _ _ h => h) (Or.inr ⟨by rfl, rfl⟩) (by assumption) ?_; try simp only [Act.put, List.getElem_toArray, List.getElem_cons_zero, List.getElem_cons_succ, List.setIfInBounds_toArray, List.set_cons_zero, List.set_cons_succ])
          (refine wpAnyH_take (i := 13) (v := undef) rfl (by kernel_rfl) (by kernel_rfl) (by kernel_rfl) (fun _ _ _ h => h) (Or.inr ⟨by rfl, rfl⟩) (by assumption) ?_; try simp only [Act.put, List.getElem_toArray, List.getElem_cons_zero, List.getElem_cons_succ, List.setIfInBounds_toArray, List.set_cons_zero, List.set_cons_succ])
          (refine wpAnyH_take (i := 14) (v := undef) rfl (by kernel_rfl) (by kernel_rfl) (by kernel_rfl) (fun _ _ _ h => h) (Or.inr ⟨by rfl, rfl⟩) (by assumption) ?_; try simp only [Act.put, List.getElem_toArray, List.getElem_cons_zero, List.getElem_cons_succ, List.setIfInBounds_toArray, List.set_cons_zero, List.set_cons_succ])
          (refine wpAnyH_take (i := 15) (v := undef) rfl (by kernel_rfl) (by kernel_rfl) (by kernel_rfl) (fun _ _ _ h => h) (Or.inr ⟨by rfl, rfl⟩) (by assumption) ?_; try simp only [Act.put, List.getElem_toArray, List.getElem_cons_zero, List.getElem_cons_succ, List.setIfInBounds_toArray, List.set_cons_zero, List.set_cons_succ])
          (refine wpAnyH_take (i := 16) (v := ?_) rfl (by kernel_rfl) (by kernel_rfl) (by kernel_rfl) (fun _ _ _ h => h) (Or.inl ⟨by rfl, ?_⟩) (by assumption) ?_; rotate_left; (focus (intro w hSw; (try dsimp only at hSw); go_simp; try with_reducible rfl)); try simp only [Act.put, List.getElem_toArray, List.getElem_cons_zero, List.getElem_cons_succ, List.setIfInBounds_toArray, List.set_cons_zero, List.set_cons_succ])
          (refine wpAnyH_take (i := 17) (v := ?_) rfl (by kernel_rfl) (by kernel_rfl) (by kernel_rfl) (fun _ _ _ h => h) (Or.inl ⟨by rfl, ?_⟩) (by assumption) ?_; rotate_left; (focus (intro w hSw; (try dsimp only at hSw); go_simp; try with_reducible rfl)); try simp only [Act.put, List.getElem_toArray, List.getElem_cons_zero, List.getElem_cons_succ, List.setIfInBounds_toArray, List.set_cons_zero, List.set_cons_succ])
          (refine wpAnyH_take (i := 18) (v := ?_) rfl (by kernel_rfl) (by kernel_rfl) (by kernel_rfl) (fun _ _ _ h => h) (Or.inl ⟨by rfl, ?_⟩) (by assumption) ?_; rotate_left; (focus (intro w hSw; (try dsimp only at hSw); go_simp; try with_reducible rfl)); try simp only [Act.put, List.getElem_toArray, List.getElem_cons_zero, List.getElem_cons_succ, List.setIfInBounds_toArray, List.set_cons_zero, List.set_cons_succ])
          (refine wpAnyH_take (i := 19) (v := ?_) rfl (by kernel_rfl) (by kernel_rfl) (by kernel_rfl) (fun _ _ _ h => h) (Or.inl ⟨by rfl, ?_⟩) (by assumption) ?_; rotate_left; (focus (intro w hSw; (try dsimp only at hSw); go_simp; try with_reducible rfl)); try simp only [Act.put, List.getElem_toArray, List.getElem_cons_zero, List.getElem_cons_succ, List.setIfInBounds_toArray, List.set_cons_zero, List.set_cons_succ])
          (refine wpAnyH_take (i := 20) (v := ?_) rfl (by kernel_rfl) (by kernel_rfl) (by kernel_rfl) (fun _ _ _ h => h) (Or.inl ⟨by rfl, ?_⟩) (by assumption) ?_; rotate_left; (focus (intro w hSw; (try dsimp only at hSw); go_simp; try with_reducible rfl)); try simp only [Act.put, List.getElem_toArray, List.getElem_cons_zero, List.getElem_cons_succ, List.setIfInBounds_toArray, List.set_cons_zero, List.set_cons_succ])
          (refine wpAnyH_take (i := 21) (v := ?_) rfl (by kernel_rfl) (by kernel_rfl) (by kernel_rfl) (fun _ _ _ h => h) (Or.inl ⟨by rfl, ?_⟩) (by assumption) ?_; rotate_left; (focus (intro w hSw; (try dsimp only at hSw); go_simp; try with_reducible rfl)); try simp only [Act.put, List.getElem_toArray, List.getElem_cons_zero, List.getElem_cons_succ, List.setIfInBounds_toArray, List.set_cons_zero, List.set_cons_succ])
          (refine wpAnyH_take (i := 22) (v := ?_) rfl (by kernel_rfl) (by kernel_rfl) (by kernel_rfl) (fun _ _ _ h => h) (Or.inl ⟨by rfl, ?_⟩) (by assumption) ?_; rotate_left; (focus (intro w hSw; (try dsimp only at hSw); go_simp; try with_reducible rfl)); try simp only [Act.put, List.getElem_toArray, List.getElem_cons_zero, List.getElem_cons_succ, List.setIfInBounds_toArray, List.set_cons_zero, List.set_cons_succ])
          (refine wpAnyH_take (i := 23) (v := ?_) rfl (by kernel_rfl) (by kernel_rfl) (by kernel_rfl) (fun _ _ _ h => h) (Or.inl ⟨by rfl, ?_⟩) (by assumption) ?_; rotate_left; (focus (intro w hSw; (try dsimp only at hSw); go_simp; try with_reducible rfl)); try simp only [Act.put, List.getElem_toArray, List.getElem_cons_zero, List.getElem_cons_succ, List.setIfInBounds_toArray, List.set_cons_zero, List.set_cons_succ])
          (refine wpAnyH_take (i := 24) (v := ?_) rfl (by kernel_rfl) (by kernel_rfl) (by kernel_rfl) (fun _ _ _ h => h) (Or.inl ⟨by rfl, ?_⟩) (by assumption) ?_; rotate_left; (focus (intro w hSw; (try dsimp only at hSw); go_simp; try with_reducible rfl)); try simp only [Act.put, List.getElem_toArray, List.getElem_cons_zero, List.getElem_cons_succ, List.setIfInBounds_toArray, List.set_cons_zero, List.set_cons_succ])
          (refine wpAnyH_take (i := 27) (v := ?_) rfl (by kernel_rfl) (by kernel_rfl) (by kernel_rfl) (fun _ _ _ h => h) (Or.inl ⟨by rfl, ?_⟩) (by assumption) ?_; rotate_left; (focus (intro w hSw; (try dsimp only at hSw); go_simp; try with_reducible rfl)); try simp only [Act.put, List.getElem_toArray, List.getElem_cons_zero, List.getElem_cons_succ, List.setIfInBounds_toArray, List.set_cons_zero, List.set_cons_succ])
          (refine wpAnyH_ready (rs := [25]) (by kernel_rfl) (by simp) ?_; refine AllReadyH.cons rfl (fun K hK => ?_) AllReadyH.nil; go_simp)
          go_at_call 23
          (with_reducible refine (HLN1.out _).mono ?_)
          rintro e v8 ⟨l1, l2, rfl, h8⟩
          have G8 := G5.trans h8
          (refine hK.out _ _ (HS.out _ G8) (fun hHeld2 => ?_); clear hK K hHeld; have hHeld := hHeld2; clear hHeld2; try simp only [Act.put, List.getElem_toArray, List.getElem_cons_zero, List.getElem_cons_succ, List.setIfInBounds_toArray, List.set_cons_zero, List.set_cons_succ])
          (refine wpAnyH_take (i := 26) (v := ?_) rfl (by kernel_rfl) (by kernel_rfl) (by kernel_rfl) (fun _ _ _ h => h) (Or.inl ⟨by rfl, ?_⟩) (by assumption) ?_; rotate_left; (focus (intro w hSw; (try dsimp only at hSw); go_simp; try with_reducible rfl)); try simp only [Act.put, List.getElem_toArray, List.getElem_cons_zero, List.getElem_cons_succ, List.setIfInBounds_toArray, List.set_cons_zero, List.set_cons_succ])
          (refine wpAnyH_ready (rs := [28]) (by kernel_rfl) (by simp) ?_; refine AllReadyH.cons rfl (fun K hK => ?_) AllReadyH.nil; go_simp)
          go_at_call 23
          (with_reducible refine (HLN2.out _).mono ?_)
          rintro e v9 ⟨l3, l4, rfl, h9⟩
          have G9 := G8.trans h9
          (refine hK.out _ _ (HS.out _ G9) (fun hHeld2 => ?_); clear hK K hHeld; have hHeld := hHeld2; clear hHeld2; try simp only [Act.put, List.getElem_toArray, List.getElem_cons_zero, List.getElem_cons_succ, List.setIfInBounds_toArray, List.set_cons_zero, List.set_cons_succ])
          (refine wpAnyH_take (i := 29) (v := ?_) rfl (by kernel_rfl) (by kernel_rfl) (by kernel_rfl) (fun _ _ _ h => h) (Or.inl ⟨by rfl, ?_⟩) (by assumption) ?_; rotate_left; (focus (intro w hSw; (try dsimp only at hSw); go_simp; try with_reducible rfl)); try simp only [Act.put, List.getElem_toArray, List.getElem_cons_zero, List.getElem_cons_succ, List.setIfInBounds_toArray, List.set_cons_zero, List.set_cons_succ])
          (refine wpAnyH_take (i := 30) (v := ?_) rfl (by kernel_rfl) (by kernel_rfl) (by kernel_rfl) (fun _ _ _ h => h) (Or.inl ⟨by rfl, ?_⟩) (by assumption) ?_; rotate_left; (focus (intro w hSw; (try dsimp only at hSw); go_simp; try with_reducible rfl)); try simp only [Act.put, List.getElem_toArray, List.getElem_cons_zero, List.getElem_cons_succ, List.setIfInBounds_toArray, List.set_cons_zero, List.set_cons_succ])
          (refine wpAnyH_take (i := 31) (v := ?_) rfl (by kernel_rfl) (by kernel_rfl) (by kernel_rfl) (fun _ _ _ h => h) (Or.inl ⟨by rfl, ?_⟩) (by assumption) ?_; rotate_left; (focus (intro w hSw; (try dsimp only at hSw); go_simp; try with_reducible rfl)); try simp only [Act.put, List.getElem_toArray, List.getElem_cons_zero, List.getElem_cons_succ, List.setIfInBounds_toArray, List.set_cons_zero, List.set_cons_succ])
          (refine wpAnyH_take (i := 32) (v := ?_) rfl (by kernel_rfl) (by kernel_rfl) (by kernel_rfl) (fun _ _ _ h => h) (Or.inl ⟨by rfl, ?_⟩) (by assumption) ?_; rotate_left; (focus (intro w hSw; (try dsimp only at hSw); go_simp; try with_reducible rfl)); try simp only [Act.put, List.getElem_toArray, List.getElem_cons_zero, List.getElem_cons_succ, List.setIfInBounds_toArray, List.set_cons_zero, List.set_cons_succ])
          refine wpAnyH_done (by kernel_rfl) ?_ _
          go_wp2_with fail
          go_ret
          exact ⟨rfl, (gwr.trans hab).trans G9⟩
        · have hls := HLS.out rfl
          have tls : (q1 == q2 + bb) = true := by rw [hls]; simp
          have HTL := Lib.hid hls
          clear hls HLS
          go_region_held3 (fun w' => w'.cell? ⟨w.heap.size, 0, none⟩ = some (.slice a1 P.es.length c1) ∧ w'.cell? ⟨w.heap.size, 1, none⟩ = some (.slice a2 P.js.length c2) ∧ w'.cell? ⟨w.heap.size, 2, none⟩ = some (.slice a3 P.ss.length c3) ∧ w'.cell? ⟨w.heap.size, 3, none⟩ = some (.slice a4 P.ls.length c4) ∧ w'.cell? ⟨w.heap.size, 4, none⟩ = some (.int .i64 P.top) ∧ w'.cell? ⟨w.heap.size, 5, none⟩ = some (.int .i64 P.brake) ∧ w'.cell? ⟨w.heap.size, 6, none⟩ = some (.int .i64 P.margin) ∧ w'.cell? ⟨w.heap.size, 7, none⟩ = some (.int .i64 P.throw) ∧ w'.cell? ⟨w.heap.size, 8, none⟩ = some (.bool P.hard) ∧ w'.cell? ⟨w.heap.size + 1, 0, none⟩ = some (.int .i64 D.beg) ∧ w'.cell? ⟨w.heap.size + 1, 1, none⟩ = some (.slice d1 D.st.length k1) ∧ w'.cell? ⟨w.heap.size + 1, 2, none⟩ = some (.slice d2 D.runs.length k2) ∧ w'.cell? ⟨w5.heap.size, 0, none⟩ = some (.int .i64 D.beg) ∧ w'.cell? ⟨w5.heap.size, 1, none⟩ = some (.slice d1 D.st.length k1) ∧ w'.cell? ⟨w5.heap.size, 2, none⟩ = some (.slice (some ⟨gg, 0, none⟩) D.runs.length cap)) (first | exact HS.out _ (Gr.refl _) | exact HS.out _ (Gr.refl _).drew | exact HS.out _ G5 | exact HS.out _ G6 | exact HS.out _ G7 | exact HS.out _ G8 | exact HS.out _ G9) (first | (go_at_call 13; (with_reducible refine (HC0.out _ (hab.trans (Gr.refl _).drew)).mono ?_); rintro e v5 ⟨rfl, h5⟩; have G5 := (Gr.refl wb).drew.trans h5) | (go_at_call 15; first | ((with_reducible refine (HL1.out _ (hab.trans G5)).mono ?_); rintro e v6 ⟨rfl, h6⟩; have G6 := G5.trans h6) | ((with_reducible refine (HL2.out _ (hab.trans G6)).mono ?_); rintro e v7 ⟨rfl, h7⟩; have G7 := G6.trans h7)) | (go_at_call 23; first | ((with_reducible refine (HLN1.out _).mono ?_); rintro e v8 ⟨l1, l2, rfl, h8⟩; have G8 := G7.trans h8) | ((with_reducible refine (HLN2.out _).mono ?_); rintro e v9 ⟨l3, l4, rfl, h9⟩; have G9 := G8.trans h9)))
          go_wp2_with fail
          go_ret
          exact ⟨rfl, (gwr.trans hab).trans G9⟩
end Go.Proofs.YtgjnlgcdpbilfaaGreatDoor
