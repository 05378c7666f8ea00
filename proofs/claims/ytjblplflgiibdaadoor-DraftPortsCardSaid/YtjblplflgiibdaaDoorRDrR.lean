/- The reference's Told. -/
import Derived.Test.YtjblplflgiibdaaDoorRows
import Derived.Test.YtjblplflgiibdaaDoorRDrA
import Derived.Test.YtjblplflgiibdaaDoorB16
namespace Go.Proofs.YtjblplflgiibdaaDoor
open Go.ChangeShapes Go.WideShapes Go.ChangeAt Go.RowKit Go.Maps
set_option linter.unusedVariables false
set_option linter.unusedSimpArgs false
set_option maxRecDepth 100000 in
set_option maxHeartbeats 1000000 in
theorem refTold_any (v : Value) (P : Pln) (x : Prt) (w : World) (hP : IsPln w v P) (hn : ∀ e ∈ P.es, e.n.size ≤ 1000000) :
    Calls Tryd.prog 9 #[v, x.v] w fun e w' => e = .returned (.string (toldT P x)) ∧ Gr w w' := by
  have HPI := Lib.hid hP
  obtain ⟨a1, c1, a2, c2, a3, c3, a4, c4, rfl, h1, -⟩ := hP
  obtain ⟨xe, xx⟩ := x
  have hm := IsRow.len h1
  unfold maxLen at hm
  have HE := Lib.hid h1
  have HT : Hid (toldT P ⟨xe, xx⟩ = if 0 ≤ xe ∧ xe < P.es.length ∧ 0 ≤ xx ∧ xx ≤ 9 then (P.es.getD xe.toNat default).n ++ ⟨#[46]⟩ ++ dgs xx else ⟨#[]⟩) := rfl
  generalize toldT P ⟨xe, xx⟩ = R at HT ⊢
  have g0 : Gr w ((w.alloc (.cells #[.slice a1 P.es.length c1, .slice a2 P.js.length c2, .slice a3 P.ss.length c3, .slice a4 P.ls.length c4, .int .i64 P.top, .int .i64 P.brake, .int .i64 P.margin, .int .i64 P.throw, .bool P.hard] 27)).alloc (.cells #[.int .i64 xe, .int .i64 xx] 29)) := ((Gr.refl _).alloc _).alloc _
  unfold plnV Prt.v
  clear h1
  by_cases h1 : xe < 0
  · have HR : Hid (R = ⟨#[]⟩) := by show _ = _; rw [HT.out, if_neg (by omega)]
    clear HT
    go_enter Tryd.func9, Tryd.ntmps9
    go_wp2_with fail
    go_ret
    exact ⟨ret_str HR.out.symm, g0⟩
  by_cases h2 : (P.es.length : Int) ≤ xe
  · have HR : Hid (R = ⟨#[]⟩) := by show _ = _; rw [HT.out, if_neg (by omega)]
    clear HT
    go_enter Tryd.func9, Tryd.ntmps9
    go_wp2_with fail
    go_ret
    exact ⟨ret_str HR.out.symm, g0⟩
  by_cases h3 : xx < 0
  · have HR : Hid (R = ⟨#[]⟩) := by show _ = _; rw [HT.out, if_neg (by omega)]
    clear HT
    go_enter Tryd.func9, Tryd.ntmps9
    go_wp2_with fail
    go_ret
    exact ⟨ret_str HR.out.symm, g0⟩
  by_cases h4 : 9 < xx
  · have HR : Hid (R = ⟨#[]⟩) := by show _ = _; rw [HT.out, if_neg (by omega)]
    clear HT
    go_enter Tryd.func9, Tryd.ntmps9
    go_wp2_with fail
    go_ret
    exact ⟨ret_str HR.out.symm, g0⟩
  obtain ⟨zb, p0, p1, p2, p3, p4, p5, p6, p7, p8⟩ := (PBox.new w P (.slice a1 P.es.length c1) (.slice a2 P.js.length c2) (.slice a3 P.ss.length c3) (.slice a4 P.ls.length c4)).gr ((Gr.refl _).alloc (.cells #[.int .i64 xe, .int .i64 xx] 29))
  have zx : w.heap.size + 1 < (((w.alloc (.cells #[.slice a1 P.es.length c1, .slice a2 P.js.length c2, .slice a3 P.ss.length c3, .slice a4 P.ls.length c4, .int .i64 P.top, .int .i64 P.brake, .int .i64 P.margin, .int .i64 P.throw, .bool P.hard] 27)).alloc (.cells #[.int .i64 xe, .int .i64 xx] 29))).heap.size := by simp
  have x0 : (((w.alloc (.cells #[.slice a1 P.es.length c1, .slice a2 P.js.length c2, .slice a3 P.ss.length c3, .slice a4 P.ls.length c4, .int .i64 P.top, .int .i64 P.brake, .int .i64 P.margin, .int .i64 P.throw, .bool P.hard] 27)).alloc (.cells #[.int .i64 xe, .int .i64 xx] 29))).cell? ⟨w.heap.size + 1, 0, none⟩ = some (.int .i64 xe) := by go_simp
  have x1 : (((w.alloc (.cells #[.slice a1 P.es.length c1, .slice a2 P.js.length c2, .slice a3 P.ss.length c3, .slice a4 P.ls.length c4, .int .i64 P.top, .int .i64 P.brake, .int .i64 P.margin, .int .i64 P.throw, .bool P.hard] 27)).alloc (.cells #[.int .i64 xe, .int .i64 xx] 29))).cell? ⟨w.heap.size + 1, 1, none⟩ = some (.int .i64 xx) := by go_simp
  obtain ⟨j, rfl⟩ := Int.eq_ofNat_of_zero_le (show 0 ≤ xe by omega)
  have hj : j < P.es.length := by omega
  obtain ⟨bb, o, hs, z, y0, -, -⟩ := (HE.out.gr g0).at j hj
  subst hs
  have HR : Hid (R = P.es[j].n ++ ⟨#[46]⟩ ++ dgs xx) := by show _ = _; rw [HT.out, if_pos (by omega), Int.toNat_natCast, getD_at _ _ hj]
  have hnm := hn _ (List.getElem_mem hj)
  have HD := Lib.hid (fun (w' : World) (g : Gr w w') => refDigits_any xx.natAbs xx w' (Nat.le_refl _) (by omega) (by omega))
  have hd1 : (dgs xx).size = 1 := by rw [itoa_small (by omega) (by omega)]; rfl
  generalize dgs xx = dg at HD HR hd1
  generalize P.es[j].n = nm at y0 hnm HR
  have j1 : (j : Int) < (P.es.length : Int) := by omega
  have j0 : (0 : Int) ≤ (j : Int) := by omega
  clear HT
  go_enter Tryd.func9, Tryd.ntmps9
  go_upto_region 3 with fail
  have hc1 := fun (i : GrW ((w.alloc (.cells #[.slice (some ⟨bb, o, none⟩) P.es.length c1, .slice a2 P.js.length c2, .slice a3 P.ss.length c3, .slice a4 P.ls.length c4, .int .i64 P.top, .int .i64 P.brake, .int .i64 P.margin, .int .i64 P.throw, .bool P.hard] 27)).alloc (.cells #[.int .i64 (j : Int), .int .i64 xx] 29))) (o : Nat) => GrW.cell zb i o
  have hc2 := fun (i : GrW ((w.alloc (.cells #[.slice (some ⟨bb, o, none⟩) P.es.length c1, .slice a2 P.js.length c2, .slice a3 P.ss.length c3, .slice a4 P.ls.length c4, .int .i64 P.top, .int .i64 P.brake, .int .i64 P.margin, .int .i64 P.throw, .bool P.hard] 27)).alloc (.cells #[.int .i64 (j : Int), .int .i64 xx] 29))) (o : Nat) => GrW.cell zx i o
  have hc3 := fun (i : GrW ((w.alloc (.cells #[.slice (some ⟨bb, o, none⟩) P.es.length c1, .slice a2 P.js.length c2, .slice a3 P.ss.length c3, .slice a4 P.ls.length c4, .int .i64 P.top, .int .i64 P.brake, .int .i64 P.margin, .int .i64 P.throw, .bool P.hard] 27)).alloc (.cells #[.int .i64 (j : Int), .int .i64 xx] 29))) (o : Nat) => GrW.cell z i o
  have q1 : ¬ 9223372036854775807 < nm.size + 1 := by omega
  have q2 : ¬ 9223372036854775807 < nm.size + 1 + dg.size := by omega
  (refine wp_region_gr (by kernel_rfl) (by kernel_rfl) ?_; (repeat (go_big_quiet_step ((go_at_call 19; exact Calls.gr_of (HD.out _ (g0.trans (GrW.gr _))))))); refine wpQuiet_nil ?_; intro wz hz; obtain ⟨iz, hz⟩ := hz; obtain ⟨wn, gn⟩ := iz; dsimp only at hz; obtain rfl := hz.symm)
  go_wp2_with fail
  go_ret
  exact ⟨ret_str HR.out.symm, g0.trans gn⟩
end Go.Proofs.YtjblplflgiibdaaDoor
