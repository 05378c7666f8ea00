/- DiagramFewer. -/
import Derived.Test.YtgjnlgcdpbilfaaGreatDoorRows
import Derived.Test.YtgjnlgcdpbilfaaGreatDoorRLaD1
import Derived.Test.YtgjnlgcdpbilfaaGreatDoorB18
import Derived.Test.YtgjnlgcdpbilfaaGreatDoorB9
import Derived.Test.YtgjnlgcdpbilfaaGreatDoorRDpZ
namespace Go.Proofs.YtgjnlgcdpbilfaaGreatDoor
open Go.ChangeShapes Go.WideShapes Go.ChangeAt Go.RowKit Go.Maps
set_option linter.unusedVariables false
set_option linter.unusedSimpArgs false
theorem bx_new {w : World} {T : TypeId} {t : Int} {sv rv : Value} : Bx T w.heap.size 0 (w.alloc (.cells #[.int .i64 t, sv, rv] T)) t sv rv := by
  refine ⟨⟨_, heap_alloc_new w _⟩, ?_, ?_, ?_⟩ <;> (rw [cell_of_row _ _ _ _ _ _ (heap_alloc_new w _)]; rfl)
theorem bx_two {w : World} {T : TypeId} {t : Int} {sv rv : Value} : Bx T w.heap.size 0 ((w.alloc (.cells #[.int .i64 t, sv, rv] T)).alloc (.cells #[.int .i64 t, sv, rv] T)).drew t sv rv ∧ Bx T (w.heap.size + 1) 0 ((w.alloc (.cells #[.int .i64 t, sv, rv] T)).alloc (.cells #[.int .i64 t, sv, rv] T)).drew t sv rv := by
  refine ⟨bx_new.gr ((Gr.refl _).alloc _).drew, ?_⟩
  have := (bx_new (w := w.alloc (.cells #[.int .i64 t, sv, rv] T)) (T := T) (t := t) (sv := sv) (rv := rv)).gr (Gr.refl _).drew
  simpa using this
set_option maxRecDepth 100000 in
set_option maxHeartbeats 2000000 in
theorem diagramFewer_walk (pv : Value) (P : Pln) (dv : Value) (D : Dgm) (rn lg : Int) (w : World) (ht : Tabs w) (hP : IsPln w pv P ∧ PlnOk P) (hD : IsDgm w dv D ∧ DgmOk D) (wr : (Lit.int .u8 rn).wf = true) (wl : (Lit.int .u8 lg).wf = true) :
    Calls Tryz.prog 7 #[pv, dv, .int .u8 rn, .int .u8 lg] w fun e w' => e = .returned (.bool true) ∧ Gr w w' := by
  obtain ⟨hP, hpk⟩ := hP
  obtain ⟨hD, hdk⟩ := hD
  have HPI := Lib.hid hP
  have HPK := Lib.hid hpk
  have HDI := Lib.hid hD
  have HOK : Hid (∀ s ∈ D.st, s.nm.size ≤ maxLen) := fun s hs => (hdk.2.1 s hs).1
  have HRK : Hid (∀ r ∈ D.runs, r.nm.size ≤ maxLen) := fun r hr => (hdk.2.2 r hr).1
  obtain ⟨a1, c1, a2, c2, a3, c3, a4, c4, rfl, -⟩ := hP
  obtain ⟨d1, k1, d2, k2, rfl, hst, hru⟩ := hD
  have HST := Lib.hid hst
  have HRU := Lib.hid hru
  have hrn : 0 ≤ rn ∧ rn ≤ 255 := by simpa [Lit.wf, IntKind.min, IntKind.max, IntKind.signed, IntKind.bits] using wr
  have hlg : 0 ≤ lg ∧ lg ≤ 255 := by simpa [Lit.wf, IntKind.min, IntKind.max, IntKind.signed, IntKind.bits] using wl
  have tw : IntKind.i64.wrap rn = rn := IntWalk.i64_in _ (by omega)
  have tw2 : IntKind.i64.wrap lg = lg := IntWalk.i64_in _ (by omega)
  unfold plnV at *
  unfold dgmV at *
  clear hpk hdk hst wr wl hru
  have g0 : Gr w ((w.alloc (.cells #[.slice a1 P.es.length c1, .slice a2 P.js.length c2, .slice a3 P.ss.length c3, .slice a4 P.ls.length c4, .int .i64 P.top, .int .i64 P.brake, .int .i64 P.margin, .int .i64 P.throw, .bool P.hard] 27)).alloc (.cells #[.int .i64 D.beg, .slice d1 D.st.length k1, .slice d2 D.runs.length k2] 31)) := ((Gr.refl _).alloc _).alloc _
  have HBX := Lib.hid (box_pd P D a1 a2 a3 a4 d1 d2 c1 c2 c3 c4 k1 k2 w)
  have HKN := Lib.hid (known30_any _ (ht.gr g0))
  have HFI := Lib.hid (fun (w' : World) (g : Gr w w') => fine_any _ P w' (HPI.out.gr g) HPK.out)
  have HFW := Lib.hid (fun (w' : World) (g : Gr w w') => few30_any _ D w' (HDI.out.gr g) HOK.out HRK.out)
  generalize fineB P = fb at HFI
  cases fb
  · go_enter Tryz.func7, Tryz.ntmps7
    go_wp2_with (first | (go_at_call 10; (with_reducible refine (HKN.out).mono ?_); rintro e w1 ⟨rfl, g1⟩; (obtain ⟨zp, p0, p1, p2, p3, p4, p5, p6, p7, p8, zs, s0, s1, s2⟩ := HBX.out _ g1)) | (go_at_call 11; (with_reducible refine (HFI.out _ (g0.trans g1)).mono ?_); rintro e w2 ⟨rfl, h2⟩; have g2 := g1.trans h2; (obtain ⟨zp, p0, p1, p2, p3, p4, p5, p6, p7, p8, zs, s0, s1, s2⟩ := HBX.out _ g2)) | fail)
    (go_ret; exact ⟨rfl, g0.trans (by assumption)⟩)
  generalize fewD D = fd at HFW
  cases fd
  · go_enter Tryz.func7, Tryz.ntmps7
    go_wp2_with (first | (go_at_call 10; (with_reducible refine (HKN.out).mono ?_); rintro e w1 ⟨rfl, g1⟩; (obtain ⟨zp, p0, p1, p2, p3, p4, p5, p6, p7, p8, zs, s0, s1, s2⟩ := HBX.out _ g1)) | (go_at_call 11; (with_reducible refine (HFI.out _ (g0.trans g1)).mono ?_); rintro e w2 ⟨rfl, h2⟩; have g2 := g1.trans h2; (obtain ⟨zp, p0, p1, p2, p3, p4, p5, p6, p7, p8, zs, s0, s1, s2⟩ := HBX.out _ g2)) | (go_at_call 12; (with_reducible refine (HFW.out _ (g0.trans g2)).mono ?_); rintro e w3 ⟨rfl, h3⟩; have g3 := g2.trans h3; (obtain ⟨zp, p0, p1, p2, p3, p4, p5, p6, p7, p8, zs, s0, s1, s2⟩ := HBX.out _ g3)) | fail)
    (go_ret; exact ⟨rfl, g0.trans (by assumption)⟩)
  have H2 := Lib.hid (fun (w' : World) (g : Gr w w') => refCheckD_any _ _ P D w' (HPI.out.gr g) (HDI.out.gr g) HOK.out HRK.out)
  have HCH := Lib.hid (fun (E : Dgm) (w' : World) (v : Value) (g : Gr w w') (h1 : ∀ s ∈ E.st, s.nm.size ≤ maxLen) (h2 : ∀ r ∈ E.runs, r.nm.size ≤ maxLen) (he : IsDgm w' v E) => dgCheck_any _ v P E w' (HPI.out.gr g) he h1 h2)
  unfold dgmV at H2
  have hq : chkD P D = chkD P D := rfl
  by_cases hE : chkD P D = 0
  rotate_left
  · generalize chkD P D = q at H2 hE
    have tE : (q != 0) = true := bneT hE
    clear hE
    go_enter Tryz.func7, Tryz.ntmps7
    go_wp2_with (first | (go_at_call 10; (with_reducible refine (HKN.out).mono ?_); rintro e w1 ⟨rfl, g1⟩; (obtain ⟨zp, p0, p1, p2, p3, p4, p5, p6, p7, p8, zs, s0, s1, s2⟩ := HBX.out _ g1)) | (go_at_call 11; (with_reducible refine (HFI.out _ (g0.trans g1)).mono ?_); rintro e w2 ⟨rfl, h2⟩; have g2 := g1.trans h2; (obtain ⟨zp, p0, p1, p2, p3, p4, p5, p6, p7, p8, zs, s0, s1, s2⟩ := HBX.out _ g2)) | (go_at_call 12; (with_reducible refine (HFW.out _ (g0.trans g2)).mono ?_); rintro e w3 ⟨rfl, h3⟩; have g3 := g2.trans h3; (obtain ⟨zp, p0, p1, p2, p3, p4, p5, p6, p7, p8, zs, s0, s1, s2⟩ := HBX.out _ g3)) | (go_at_call 14; (with_reducible refine (H2.out _ (g0.trans g3)).mono ?_); rintro e w4 ⟨rfl, h4⟩; have g4 := g3.trans h4; (obtain ⟨zp, p0, p1, p2, p3, p4, p5, p6, p7, p8, zs, s0, s1, s2⟩ := HBX.out _ g4)) | fail)
    (go_ret; exact ⟨rfl, g0.trans (by assumption)⟩)
  rw [hE] at H2
  obtain ⟨x1, x2, -⟩ := chkD_ok hE
  by_cases hn : D.runs.length = 0
  · have tn : ((D.runs.length : Int) == 0) = true := beqT (by omega)
    clear hn
    go_enter Tryz.func7, Tryz.ntmps7
    go_wp2_with (first | (go_at_call 10; (with_reducible refine (HKN.out).mono ?_); rintro e w1 ⟨rfl, g1⟩; (obtain ⟨zp, p0, p1, p2, p3, p4, p5, p6, p7, p8, zs, s0, s1, s2⟩ := HBX.out _ g1)) | (go_at_call 11; (with_reducible refine (HFI.out _ (g0.trans g1)).mono ?_); rintro e w2 ⟨rfl, h2⟩; have g2 := g1.trans h2; (obtain ⟨zp, p0, p1, p2, p3, p4, p5, p6, p7, p8, zs, s0, s1, s2⟩ := HBX.out _ g2)) | (go_at_call 12; (with_reducible refine (HFW.out _ (g0.trans g2)).mono ?_); rintro e w3 ⟨rfl, h3⟩; have g3 := g2.trans h3; (obtain ⟨zp, p0, p1, p2, p3, p4, p5, p6, p7, p8, zs, s0, s1, s2⟩ := HBX.out _ g3)) | (go_at_call 14; (with_reducible refine (H2.out _ (g0.trans g3)).mono ?_); rintro e w4 ⟨rfl, h4⟩; have g4 := g3.trans h4; (obtain ⟨zp, p0, p1, p2, p3, p4, p5, p6, p7, p8, zs, s0, s1, s2⟩ := HBX.out _ g4)) | fail)
    (go_ret; exact ⟨rfl, g0.trans (by assumption)⟩)
  have tn : ((D.runs.length : Int) == 0) = false := beqF (by omega)
  go_enter Tryz.func7, Tryz.ntmps7
  go_upto_region 5 with (first | (go_at_call 10; (with_reducible refine (HKN.out).mono ?_); rintro e w1 ⟨rfl, g1⟩; (obtain ⟨zp, p0, p1, p2, p3, p4, p5, p6, p7, p8, zs, s0, s1, s2⟩ := HBX.out _ g1)) | (go_at_call 11; (with_reducible refine (HFI.out _ (g0.trans g1)).mono ?_); rintro e w2 ⟨rfl, h2⟩; have g2 := g1.trans h2; (obtain ⟨zp, p0, p1, p2, p3, p4, p5, p6, p7, p8, zs, s0, s1, s2⟩ := HBX.out _ g2)) | (go_at_call 12; (with_reducible refine (HFW.out _ (g0.trans g2)).mono ?_); rintro e w3 ⟨rfl, h3⟩; have g3 := g2.trans h3; (obtain ⟨zp, p0, p1, p2, p3, p4, p5, p6, p7, p8, zs, s0, s1, s2⟩ := HBX.out _ g3)) | (go_at_call 14; (with_reducible refine (H2.out _ (g0.trans g3)).mono ?_); rintro e w4 ⟨rfl, h4⟩; have g4 := g3.trans h4; (obtain ⟨zp, p0, p1, p2, p3, p4, p5, p6, p7, p8, zs, s0, s1, s2⟩ := HBX.out _ g4)) | fail)
  have gw4 := g0.trans g4
  go_cut [9, 10] from 34 (fun x y wc => ∃ bx by_ : Nat, x = .pointer (some ⟨bx, 0, none⟩) ∧ y = .pointer (some ⟨by_, 0, none⟩) ∧ w4.heap.size ≤ bx ∧ w4.heap.size ≤ by_ ∧ bx ≠ by_ ∧ Gr w4 wc ∧ Bx 31 bx 0 wc D.beg (.slice d1 D.st.length k1) (.slice d2 D.runs.length k2) ∧ Bx 31 by_ 0 wc D.beg (.slice d1 D.st.length k1) (.slice d2 D.runs.length k2))
  case first =>
    go_region
    all_goals
      go_wp2_with fail
      go_meet
      case rel => first | exact ⟨_, _, rfl, rfl, Nat.le_refl _, Nat.le_succ _, by omega, (((Gr.refl _).alloc _).alloc _).drew, bx_two.1, bx_two.2⟩ | exact ⟨_, _, rfl, rfl, Nat.le_succ _, Nat.le_refl _, by omega, (((Gr.refl _).alloc _).alloc _).drew, bx_two.2, bx_two.1⟩
  case rest =>
    obtain ⟨bx, by_, rfl, rfl, hbx, hby, hne, gc, hX, hY⟩ := hcut
    have HX := Lib.hid hX
    have HY := Lib.hid hY
    clear zp p0 p1 p2 p3 p4 p5 p6 p7 p8 zs s0 s1 s2
    have g5 := g4.trans gc
    (obtain ⟨zp, p0, p1, p2, p3, p4, p5, p6, p7, p8, zs, s0, s1, s2⟩ := HBX.out _ g5)
    obtain ⟨zx, x0, x1, x2⟩ := rd_cells0 hX _ (Gr.refl _)
    have fx := hX.frozen 2
    have n0 : 0 < D.runs.length := by omega
    have hk0 : 0 ≤ rn.tmod (D.runs.length : Int) ∧ rn.tmod (D.runs.length : Int) < (D.runs.length : Int) := ⟨Int.tmod_nonneg _ hrn.1, Int.tmod_lt_of_pos _ (by omega)⟩
    obtain ⟨k, hk⟩ := Int.eq_ofNat_of_zero_le hk0.1
    have hkn : k < D.runs.length := by omega
    have hkz : (0 : Int) ≤ (k : Int) := Int.natCast_nonneg _
    have hki : (k : Int) < (D.runs.length : Int) := by omega
    have tr : IntKind.i64.wrap (rn.tmod (D.runs.length : Int)) = (k : Int) := by rw [hk]; exact IntWalk.i64_in _ (by omega)
    have hkc : k ≤ k2 := by
      have := HRU.out.2 _ _ _ rfl
      omega
    have hkc' : (k : Int) ≤ (k2 : Int) := by omega
    have sizeRunE := sizeRun
    go_upto_region 6 with fail
    go_region
    have HX6 : Hid (Bx 31 bx 0 (wc.setCell ⟨bx, 2, none⟩ (.slice d2 k k2)).drew D.beg (.slice d1 D.st.length k1) (.slice d2 k k2)) := (HX.out.set2 _).gr (Gr.refl _).drew
    have HY6 : Hid (Bx 31 by_ 0 (wc.setCell ⟨bx, 2, none⟩ (.slice d2 k k2)).drew D.beg (.slice d1 D.st.length k1) (.slice d2 D.runs.length k2)) := HY.out.block (heap_setCell_other wc ⟨bx, 2, none⟩ by_ _ (Ne.symm hne))
    have g6 : Gr w4 (wc.setCell ⟨bx, 2, none⟩ (.slice d2 k k2)).drew := (gc.setCell hbx _).drew
    clear zp p0 p1 p2 p3 p4 p5 p6 p7 p8 zs s0 s1 s2 zx x0 x1 x2 fx HX HY hX hY
    generalize (wc.setCell ⟨bx, 2, none⟩ (.slice d2 k k2)).drew = w6 at *
    have g46 := g4.trans g6
    (obtain ⟨zp, p0, p1, p2, p3, p4, p5, p6, p7, p8, zs, s0, s1, s2⟩ := HBX.out _ g46)
    obtain ⟨zy, y0, y1, y2⟩ := rd_cells0 HY6.out _ (Gr.refl _)
    have fy := HY6.out.frozen 2
    have zx := HX6.out.lt
    obtain ⟨S, hrow, hleg, hone⟩ := HRU.out.rows
    obtain ⟨br, or_, rfl, zbr, -⟩ := IsRow.at hrow 0 n0
    have HLG := Lib.hid hleg
    have HRW := Lib.hid (fun w' (g : Gr w w') => rowL_at (by omega) (hrow.gr g))
    have HON := Lib.hid (rowL_one (sz := 5) (n := D.runs.length) (rnc_one D.runs S hone))
    have gw6 := gw4.trans g6
    obtain ⟨i0, hi0, hz0, hz1, hz2⟩ := info_parts Tryz.infoRn
    have hown : (w6.alloc (.cells #[] 51)).ownsRow w6.heap.size 51 5 (.slice (some ⟨w6.heap.size, 0, none⟩) 0 0) 0 [] :=
      ⟨rfl, .inr ⟨w6.heap.size, 0, #[], rfl, Nat.le_refl _, heap_alloc_new w6 _, Nat.le_refl _, Nat.zero_le _, rfl, rfl⟩⟩
    have HO := Lib.hid hown
    clear hrow hleg hone hown
    go_wp2_with (first | (at_builtin; refine wpList_append_own _ rfl _ _ 29 rfl w6.heap.size 51 i0 (.agg #[.string ByteArray.empty, .int .i64 0, .int .i64 0, .int .i64 0, .slice none 0 0]) 5 64 Tryz.underlying29 hi0 hz0 hz1 hz2 rfl (by decide) _ _ _ rfl HO.out ⟨br, or_, none⟩ D.runs.length k2 (rowL 5 D.runs.length (fun i j => (D.runs.getD i default).c (S i) j)) rfl (rowL_len _ _ _) ?c1 ?c2 ?c3 ?c4 ?c5 ?_))
    case c1 => exact HRW.out _ (gw6.alloc _)
    case c2 => exact HON.out
    case c3 => unfold maxLen; omega
    case c4 => omega
    case c5 => simp
    intro v' w7 hown' hgrow _
    have hg1 : Gr w6 w7 := Gr.grown ((Gr.refl w6).alloc _) hgrow HO.out
    have HO7 : Hid (OwnRn w6.heap.size w7 v' (prs D.runs S)) := by
      show w7.ownsRow _ _ _ _ _ _
      rw [prs_len, ← rowL_prs]
      simpa using hown'
    obtain ⟨gg, cap, rfl, hgb, hglt⟩ := hown'.form (by omega)
    try simp only [Nat.zero_add] at HO7
    try simp only [Nat.zero_add]
    clear hown' hgrow HO HRW HON
    replace y2 := (hg1.cell _ _ zy).trans y2
    replace fy := (hg1.frozen _ _ zy).trans fy
    go_upto_region 8 with fail
    have hxb : bx ≠ gg := by omega
    have hyb : by_ ≠ gg := by omega
    have HX8 : Hid (Bx 31 bx 0 (w7.setCell ⟨by_, 2, none⟩ (.slice (some ⟨gg, 0, none⟩) D.runs.length cap)) D.beg (.slice d1 D.st.length k1) (.slice (some ⟨br, or_, none⟩) k k2)) := (HX6.out.gr hg1).block (heap_setCell_other w7 ⟨by_, 2, none⟩ bx _ hne)
    have HY8 : Hid (Bx 31 by_ 0 (w7.setCell ⟨by_, 2, none⟩ (.slice (some ⟨gg, 0, none⟩) D.runs.length cap)) D.beg (.slice d1 D.st.length k1) (.slice (some ⟨gg, 0, none⟩) D.runs.length cap)) := (HY6.out.gr hg1).set2 _
    have HO8 : Hid (OwnRn w6.heap.size (w7.setCell ⟨by_, 2, none⟩ (.slice (some ⟨gg, 0, none⟩) D.runs.length cap)) (.slice (some ⟨gg, 0, none⟩) D.runs.length cap) (prs D.runs S)) := own_setC HO7.out _ zy _
    have g8 : Gr w4 (w7.setCell ⟨by_, 2, none⟩ (.slice (some ⟨gg, 0, none⟩) D.runs.length cap)) := (g6.trans hg1).setCell hby _
    have hl8 : gg < (w7.setCell ⟨by_, 2, none⟩ (.slice (some ⟨gg, 0, none⟩) D.runs.length cap)).heap.size := by simpa using hglt
    have hgz : w4.heap.size ≤ gg := Nat.le_trans g6.size hgb
    clear zp p0 p1 p2 p3 p4 p5 p6 p7 p8 zs s0 s1 s2 zy y0 y1 y2 fy HX6 HY6 HO7 hglt
    generalize (w7.setCell ⟨by_, 2, none⟩ (.slice (some ⟨gg, 0, none⟩) D.runs.length cap)) = w8 at *
    have g48 := g4.trans g8
    have gw8 := gw4.trans g8
    (obtain ⟨zp, p0, p1, p2, p3, p4, p5, p6, p7, p8, zs, s0, s1, s2⟩ := HBX.out _ g48)
    obtain ⟨zy, y0, y1, y2⟩ := rd_cells0 HY8.out _ (Gr.refl _)
    have hlegk := HLG.out k hkn
    rw [getD_at _ _ hkn] at hlegk
    obtain ⟨la, lc, hS, hlm, hlc⟩ := hlegk.form
    have HLK := Lib.hid hlegk
    rw [hS] at HLK
    have hL12 := x2 _ (List.getElem_mem hkn)
    have hcell : w8.cell? ⟨gg, k * 5 + 4, none⟩ = some (.slice la D.runs[k].legs.length lc) := by
      have h := OwnRn.cell (A := prs D.runs S) (g := gg) (c := cap) (by rw [prs_len]; exact HO8.out) k 4 (by rw [prs_len]; exact hkn) (by omega)
      rw [h, prs_at]
      show some (S k) = _
      rw [hS]
    have hfro : w8.frozen? ⟨gg, k * 5 + 4, none⟩ = false := by
      have h := HO8.out
      unfold OwnRn at h
      rw [prs_len] at h
      exact World.ownsRow.frozenAt h _
    have HSK := Lib.hid hS
    have HLL : Hid (∀ h : k < D.runs.length, D.runs[k].legs = (D.runs.getD k default).legs) := fun h => by rw [getD_at _ _ h]
    clear hlegk hS
    have hm0 : 0 ≤ lg.tmod (((D.runs[k].legs.length : Nat) : Int) + 1) ∧ lg.tmod (((D.runs[k].legs.length : Nat) : Int) + 1) < ((D.runs[k].legs.length : Nat) : Int) + 1 := ⟨Int.tmod_nonneg _ hlg.1, Int.tmod_lt_of_pos _ (by omega)⟩
    obtain ⟨m, hmm⟩ := Int.eq_ofNat_of_zero_le hm0.1
    have tp : IntKind.i64.wrap (((D.runs[k].legs.length : Nat) : Int) + 1) = ((D.runs[k].legs.length : Nat) : Int) + 1 := IntWalk.i64_in _ (by omega)
    have tm : IntKind.i64.wrap (lg.tmod (((D.runs[k].legs.length : Nat) : Int) + 1)) = (m : Int) := by rw [hmm]; exact IntWalk.i64_in _ (by omega)
    have hml : m ≤ D.runs[k].legs.length := by omega
    have hmz : (0 : Int) ≤ (m : Int) := Int.natCast_nonneg _
    have hmc : (m : Int) ≤ (lc : Int) := by omega
    have hmc2 : m ≤ lc := by omega
    have sizeLegE : ∀ w', (sizeOf (Tryz.prog.elem 49)).run Tryz.prog w' = .ok 4 w' := fun w' => by kernel_rfl
    generalize hLe : D.runs[k].legs = Lk at *
    go_region
    go_upto_region 9 with fail
    go_region
    have G9 : Gr w ((w8.setCell ⟨gg, k * 5 + 4, none⟩ (.slice la m lc)).drew.drew) := ((gw8.setCell (p := ⟨gg, k * 5 + 4, none⟩) (Nat.le_trans gw4.size hgz) (.slice la m lc)).drew).drew
    have G49 : Gr w4 ((w8.setCell ⟨gg, k * 5 + 4, none⟩ (.slice la m lc)).drew.drew) := ((g8.setCell (p := ⟨gg, k * 5 + 4, none⟩) hgz (.slice la m lc)).drew).drew
    have HX9 : Hid (Bx 31 bx 0 ((w8.setCell ⟨gg, k * 5 + 4, none⟩ (.slice la m lc)).drew.drew) D.beg (.slice d1 D.st.length k1) (.slice (some ⟨br, or_, none⟩) k k2)) := HX8.out.block (heap_setCell_other w8 ⟨gg, k * 5 + 4, none⟩ bx _ hxb)
    have HY9 : Hid (Bx 31 by_ 0 ((w8.setCell ⟨gg, k * 5 + 4, none⟩ (.slice la m lc)).drew.drew) D.beg (.slice d1 D.st.length k1) (.slice (some ⟨gg, 0, none⟩) D.runs.length cap)) := HY8.out.block (heap_setCell_other w8 ⟨gg, k * 5 + 4, none⟩ by_ _ hyb)
    have HO9 : Hid (OwnRn w6.heap.size ((w8.setCell ⟨gg, k * 5 + 4, none⟩ (.slice la m lc)).drew.drew) (.slice (some ⟨gg, 0, none⟩) D.runs.length cap) (setLegs (prs D.runs S) k (Lk.take m) (.slice la m lc))) := by
      have h := OwnRn.put (A := prs D.runs S) (g := gg) (c := cap) (by rw [prs_len]; exact HO8.out) k (by rw [prs_len]; exact hkn) (Lk.take m) (.slice la m lc)
      rw [prs_len] at h
      exact h
    clear zp p0 p1 p2 p3 p4 p5 p6 p7 p8 zs s0 s1 s2 zy y0 y1 y2 hcell hfro HX8 HY8 HO8 sizeLegE sizeRunE
    generalize ((w8.setCell ⟨gg, k * 5 + 4, none⟩ (.slice la m lc)).drew.drew) = w9 at *
    have HDX : Hid (IsDgm w9 (.agg #[.int .i64 D.beg, .slice d1 D.st.length k1, .slice (some ⟨br, or_, none⟩) k k2]) (cutR D k)) := IsDgm.of (D := cutR D k) (HST.out.gr G9) ((IsRuns.take HRU.out k (by omega)).gr G9)
    have HDY : Hid (IsDgm w9 (.agg #[.int .i64 D.beg, .slice d1 D.st.length k1, .slice (some ⟨gg, 0, none⟩) D.runs.length cap]) (cutL D k m)) := by
      refine IsDgm.of (D := cutL D k m) (HST.out.gr G9) ?_
      rw [← cutL_runs D S k m hkn (.slice la m lc)]
      have e : (D.runs.getD k default).legs = Lk := by rw [← HLL.out hkn]; exact hLe
      rw [e]
      refine OwnRn.runs HO9.out (by rw [setLegs_len, prs_len]; unfold maxLen; omega) fun i hi => ?_
      have hi' : i < D.runs.length := by rw [setLegs_len, prs_len] at hi; exact hi
      rw [setLegs_at]
      by_cases h : i = k
      · rw [if_pos h]
        exact (IsLegs.take HLK.out m hml).gr G9
      · rw [if_neg h, prs_at]
        exact (HLG.out i hi').gr G9
    have HN1 : Hid (∀ r ∈ (cutR D k).runs, r.nm.size ≤ maxLen) := fun r hr => HRK.out r (List.mem_of_mem_take hr)
    have HN2 : Hid (∀ r ∈ (cutL D k m).runs, r.nm.size ≤ maxLen) := fun r hr => by
      rcases List.mem_or_eq_of_mem_set hr with hr | rfl
      · exact HRK.out r hr
      · show (D.runs.getD k default).nm.size ≤ maxLen
        rw [getD_at _ _ hkn]; exact HRK.out _ (List.getElem_mem hkn)
    have HC1 : Hid (∀ w', Gr w9 w' → Calls Tryz.prog 13 #[.agg #[.slice a1 P.es.length c1, .slice a2 P.js.length c2, .slice a3 P.ss.length c3, .slice a4 P.ls.length c4, .int .i64 P.top, .int .i64 P.brake, .int .i64 P.margin, .int .i64 P.throw, .bool P.hard], .agg #[.int .i64 D.beg, .slice d1 D.st.length k1, .slice (some ⟨br, or_, none⟩) k k2]] w' fun e w'' => e = .returned (.int .i64 0) ∧ Gr w' w'') := fun w' g => by
      have := HCH.out (cutR D k) w' _ (G9.trans g) HOK.out HN1.out (HDX.out.gr g)
      rw [cutR_chk hE k] at this
      exact this
    have HC2 : Hid (∀ w', Gr w9 w' → Calls Tryz.prog 13 #[.agg #[.slice a1 P.es.length c1, .slice a2 P.js.length c2, .slice a3 P.ss.length c3, .slice a4 P.ls.length c4, .int .i64 P.top, .int .i64 P.brake, .int .i64 P.margin, .int .i64 P.throw, .bool P.hard], .agg #[.int .i64 D.beg, .slice d1 D.st.length k1, .slice (some ⟨gg, 0, none⟩) D.runs.length cap]] w' fun e w'' => e = .returned (.int .i64 0) ∧ Gr w' w'') := fun w' g => by
      have := HCH.out (cutL D k m) w' _ (G9.trans g) HOK.out HN2.out (HDY.out.gr g)
      rw [cutL_chk hE hkn m] at this
      exact this
    have HL1 := Lib.hid (fun (w' : World) (g : Gr w9 w') => dgLast_any _ (cutR D k) w' (HDX.out.gr g))
    have HL2 := Lib.hid (fun (w' : World) (g : Gr w9 w') => dgLast_any _ (cutL D k m) w' (HDY.out.gr g))
    have HL3 := Lib.hid (fun (w' : World) (g : Gr w9 w') => dgLast_any _ D w' (HDI.out.gr (G9.trans g)))
    have HSM := Lib.hid (fun (w' : World) (g : Gr w9 w') => dgSame_no _ _ (cutR D k) D w' (HDX.out.gr g) (HDI.out.gr (G9.trans g)) rfl rfl (by show (D.runs.take k).length ≠ _; rw [List.length_take]; omega))
    have l1 := cutR_last D k
    have l2 := cutL_last D hkn m
    generalize lastD (cutR D k) = q1 at HL1 l1
    generalize lastD (cutL D k m) = q2 at HL2 l2
    generalize lastD D = q3 at HL3 l1 l2
    have g49 := g4.trans G49
    (obtain ⟨zp, p0, p1, p2, p3, p4, p5, p6, p7, p8, zs, s0, s1, s2⟩ := HBX.out _ g49)
    obtain ⟨zx, x0', x1', x2'⟩ := rd_cells0 HX9.out _ (Gr.refl _)
    obtain ⟨zy, y0, y1, y2⟩ := rd_cells0 HY9.out _ (Gr.refl _)
    have hcp := fun (i : GrW w9) (o : Nat) => GrW.cell zp i o
    have hcs := fun (i : GrW w9) (o : Nat) => GrW.cell zs i o
    have hcx := fun (i : GrW w9) (o : Nat) => GrW.cell zx i o
    have hcy := fun (i : GrW w9) (o : Nat) => GrW.cell zy i o
    clear HX9 HY9 HO9 HN1 HN2 HDX HDY HCH HLG HLL HSK HLK HBX HKN HFI HFW H2 HRU HST HOK HRK HPI HPK hm0 hmm tp tm hml hmz hmc hmc2 tr hkc hkc' hk hk0 hki hkz
    go_upto_region 10 with fail
    (refine wp_region_gr (by kernel_rfl) (by kernel_rfl) ?_; (repeat (go_big_quiet_step ((first | (go_at_call 13; first | (with_reducible exact Calls.gr_of (HC1.out _ (GrW.gr _))) | (with_reducible exact Calls.gr_of (HC2.out _ (GrW.gr _)))) | (go_at_call 15; first | (with_reducible exact Calls.gr_of (HL1.out _ (GrW.gr _))) | (with_reducible exact Calls.gr_of (HL2.out _ (GrW.gr _))) | (with_reducible exact Calls.gr_of (HL3.out _ (GrW.gr _)))) | (go_at_call 17; exact Calls.gr_of (HSM.out _ (GrW.gr _))))))); refine wpQuiet_nil ?_; intro wz hz; obtain ⟨iz, hz⟩ := hz; obtain ⟨wn, gn⟩ := iz; dsimp only at hz; obtain rfl := hz.symm)
    go_wp2_with fail
    go_ret
    exact ⟨rfl, G9.trans gn⟩
end Go.Proofs.YtgjnlgcdpbilfaaGreatDoor
