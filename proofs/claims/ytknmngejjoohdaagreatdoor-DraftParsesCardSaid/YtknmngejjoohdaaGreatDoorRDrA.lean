/- draft.split, Port, Told; the reference's portForm, PortOf, Told. -/
import Derived.Test.YtknmngejjoohdaaGreatDoorRows
import Derived.Test.YtknmngejjoohdaaGreatDoorB21
import Derived.Test.YtknmngejjoohdaaGreatDoorB12
import Derived.Test.YtknmngejjoohdaaGreatDoorB13
import Derived.Test.YtknmngejjoohdaaGreatDoorB18
namespace Go.Proofs.YtknmngejjoohdaaGreatDoor
open Go.ChangeShapes Go.WideShapes Go.ChangeAt Go.RowKit Go.Maps
set_option linter.unusedVariables false
set_option linter.unusedSimpArgs false
set_option maxHeartbeats 400000 in
theorem dsplit_any (s : ByteArray) (hs : s.size ≤ 1048576) (w : World) :
    Calls Tryz.prog 70 #[.string s] w fun e w' => (∃ n d, e = .returned (.tuple #[.string n, .int .i64 d, .bool (portB s)]) ∧ (portB s = true → n = portNm s ∧ d = portEn s)) ∧ w' = w := by
  rcases Int.lt_or_le (Lib.indexByte s.data.toList 46) 0 with hi0 | hi0
  · have hm : Lib.indexByte s.data.toList 46 = -1 := by have := Lib.indexByte_ge s.data.toList 46; omega
    have HB := Lib.hid (port_none hm)
    have HM := Lib.hid hm
    clear hm hi0
    generalize portB s = q at HB ⊢
    go_enter Tryz.func70, Tryz.ntmps70
    go_wp2_with fail
    refine (Tryz.strings_IndexByte s 46 _).mono ?_
    rintro e w1 ⟨rfl, rfl⟩
    have e46 : (46 : Int).toNat.toUInt8 = 46 := rfl
    rw [e46, HM.out]
    clear e46
    go_wp2_with fail
    go_ret3
    exact ⟨⟨⟨#[]⟩, 0, by rw [HB.out]; rfl, fun h => by rw [HB.out] at h; cases h⟩, rfl⟩
  · obtain ⟨i, hin⟩ : ∃ i : Nat, Lib.indexByte s.data.toList 46 = i := ⟨(Lib.indexByte s.data.toList 46).toNat, by omega⟩
    have ilt : i < s.size := by
      have := (List.getElem?_eq_some_iff.1 (Lib.indexByte_some hin).1).1
      simpa using this
    have HP := Lib.hid (port_at hin ilt)
    have HM := Lib.hid hin
    have z1 : (s.extract 0 i).size ≤ maxLen := by rw [ByteArray.size_extract]; unfold maxLen; omega
    have z2 : (s.extract (i + 1) s.size).size ≤ maxLen := by rw [ByteArray.size_extract]; unfold maxLen; omega
    have HN := Lib.hid (fun w' => name_any (s.extract 0 i) z1 w')
    have HU := Lib.hid (fun w' => number_any (s.extract (i + 1) s.size) 1 z2 w')
    have b1 : (i : Int) < (s.size : Int) := by omega
    have b2 : (i : Int) ≤ (s.size : Int) := by omega
    have b3 : (i : Int) + 1 ≤ (s.size : Int) := by omega
    have b4 : (s.size : Int) ≤ 1048576 := by omega
    clear hin hi0 z1 z2
    generalize portB s = q at HP ⊢
    generalize nmB (s.extract 0 i) = q1 at HN HP
    generalize numB (s.extract (i + 1) s.size) 1 = q2 at HU HP
    generalize numN (s.extract (i + 1) s.size) 1 = d at HU HP
    generalize portNm s = pn at HP ⊢
    generalize portEn s = pe at HP ⊢
    cases q1
    · go_enter Tryz.func70, Tryz.ntmps70
      go_wp2_with fail
      refine (Tryz.strings_IndexByte s 46 _).mono ?_
      rintro e w1 ⟨rfl, rfl⟩
      have e46 : (46 : Int).toNat.toUInt8 = 46 := rfl
      rw [e46, HM.out]
      clear e46
      go_wp2_with (first | (go_at_call 132; (with_reducible refine (HN.out _).mono ?_); rintro e w3 ⟨rfl, hq⟩; obtain rfl := hq.symm) | fail)
      go_ret3
      exact ⟨⟨_, _, by rw [HP.out.1]; rfl, fun h => by rw [HP.out.1] at h; cases h⟩, rfl⟩
    · go_enter Tryz.func70, Tryz.ntmps70
      go_wp2_with fail
      refine (Tryz.strings_IndexByte s 46 _).mono ?_
      rintro e w1 ⟨rfl, rfl⟩
      have e46 : (46 : Int).toNat.toUInt8 = 46 := rfl
      rw [e46, HM.out]
      clear e46
      go_wp2_with (first | (go_at_call 132; (with_reducible refine (HN.out _).mono ?_); rintro e w3 ⟨rfl, hq⟩; obtain rfl := hq.symm) | (go_at_call 133; (with_reducible refine (HU.out _).mono ?_); rintro e w3 ⟨rfl, hq⟩; obtain rfl := hq.symm) | fail)
      go_ret3
      exact ⟨⟨s.extract 0 i, d, by rw [HP.out.1, Bool.true_and]; rfl, fun h => by have := HP.out.2 h; exact ⟨this.1.symm, this.2.symm⟩⟩, rfl⟩
set_option maxHeartbeats 400000 in
theorem dport_any (v : Value) (P : Pln) (s : ByteArray) (hs : s.size ≤ 1048576) (w : World) (hP : IsPln w v P) :
    Calls Tryz.prog 35 #[v, .string s] w fun e w' => e = .returned (prtR (portO P s)) ∧ Gr w w' := by
  have HPI := Lib.hid hP
  obtain ⟨a1, c1, a2, c2, a3, c3, a4, c4, rfl, -⟩ := hP
  have g0 : Gr w ((w.alloc (.cells #[.slice a1 P.es.length c1, .slice a2 P.js.length c2, .slice a3 P.ss.length c3, .slice a4 P.ls.length c4, .int .i64 P.top, .int .i64 P.brake, .int .i64 P.margin, .int .i64 P.throw, .bool P.hard] 28)).alloc (.cells #[.int .i64 0, .int .i64 0] 67)) := ((Gr.refl _).alloc _).alloc _
  have hb : w.heap.size ≤ w.heap.size + 1 := by omega
  have HSP := Lib.hid (fun w' => dsplit_any s hs w')
  have HX : Hid (∀ w', Gr ((w.alloc (.cells #[.slice a1 P.es.length c1, .slice a2 P.js.length c2, .slice a3 P.ss.length c3, .slice a4 P.ls.length c4, .int .i64 P.top, .int .i64 P.brake, .int .i64 P.margin, .int .i64 P.throw, .bool P.hard] 28)).alloc (.cells #[.int .i64 0, .int .i64 0] 67)) w' → w.heap.size + 1 < w'.heap.size ∧ w'.cell? ⟨w.heap.size + 1, 0, none⟩ = some (.int .i64 0) ∧ w'.cell? ⟨w.heap.size + 1, 1, none⟩ = some (.int .i64 0) ∧ w'.frozen? ⟨w.heap.size + 1, 0, none⟩ = false ∧ w'.frozen? ⟨w.heap.size + 1, 1, none⟩ = false) := fun w' g => by
    have hz : w.heap.size + 1 < (((w.alloc (.cells #[.slice a1 P.es.length c1, .slice a2 P.js.length c2, .slice a3 P.ss.length c3, .slice a4 P.ls.length c4, .int .i64 P.top, .int .i64 P.brake, .int .i64 P.margin, .int .i64 P.throw, .bool P.hard] 28)).alloc (.cells #[.int .i64 0, .int .i64 0] 67))).heap.size := by simp
    exact ⟨Nat.lt_of_lt_of_le hz g.size, (g.cell _ _ hz).trans (by go_simp), (g.cell _ _ hz).trans (by go_simp), (g.frozen _ _ hz).trans (by go_simp), (g.frozen _ _ hz).trans (by go_simp)⟩
  obtain ⟨zb, p0, p1, p2, p3, p4, p5, p6, p7, p8⟩ := (PBox.new w P (.slice a1 P.es.length c1) (.slice a2 P.js.length c2) (.slice a3 P.ss.length c3) (.slice a4 P.ls.length c4)).gr ((Gr.refl _).alloc (.cells #[.int .i64 0, .int .i64 0] 67))
  obtain ⟨z4, r0, r1, f0, f1⟩ := HX.out _ (Gr.refl _)
  unfold plnV at *
  have HF := Lib.hid (fun (n : ByteArray) (w' : World) (g : Gr w w') => ele_any _ P n w' (HPI.out.gr g))
  have HO : Hid (portO P s = if portB s = true then (if eleN P (portNm s) < 0 then none else some ⟨eleN P (portNm s), portEn s⟩) else none) := rfl
  generalize portO P s = R at HO ⊢
  generalize portB s = q at HSP HO
  generalize portNm s = pn at HSP HO
  generalize portEn s = pe at HSP HO
  cases q
  · have HR : Hid (R = none) := HO.out
    clear HO HF
    go_enter Tryz.func35, Tryz.ntmps35
    go_wp2_with (first | (go_at_call 70; (with_reducible refine (HSP.out _).mono ?_); rintro e w3 ⟨⟨n, d, rfl, -⟩, hq⟩; obtain rfl := hq.symm) | fail)
    (refine bodyPost_ret (v := .tuple #[.agg #[.int .i64 0, .int .i64 0], .bool false]) (by simp [results, Tryz.results35, go_sem, z4, r0, r1, f0, f1]) rfl ?_)
    exact ⟨by rw [HR.out]; rfl, by first | exact (g0.setCell hb _).setCell hb _ | exact g0⟩
  · have HO1 : Hid (R = if eleN P pn < 0 then none else some ⟨eleN P pn, pe⟩) := HO.out
    have HF1 := Lib.hid (HF.out pn)
    clear HO HF
    generalize eleN P pn = k at HF1 HO1
    have HS1 : Hid (∀ w', Calls Tryz.prog 70 #[.string s] w' fun e w'' => e = .returned (.tuple #[.string pn, .int .i64 pe, .bool true]) ∧ w'' = w') := fun w' => (HSP.out w').mono fun e w'' ⟨⟨n, d, he, h⟩, hw⟩ => by
      obtain ⟨rfl, rfl⟩ := h rfl
      exact ⟨he, hw⟩
    clear HSP
    by_cases hk : k < 0
    · have HR : Hid (R = none) := by show _ = _; rw [HO1.out, if_pos hk]
      clear HO1
      go_enter Tryz.func35, Tryz.ntmps35
      go_wp2_with (first | (go_at_call 70; (with_reducible refine (HS1.out _).mono ?_); rintro e w3 ⟨rfl, hq⟩; obtain rfl := hq.symm) | (go_at_call 71; (with_reducible refine (HF1.out _ g0).mono ?_); rintro e w4 ⟨rfl, g4⟩; obtain ⟨z4, r0, r1, f0, f1⟩ := HX.out _ g4) | fail)
      (refine bodyPost_ret (v := .tuple #[.agg #[.int .i64 0, .int .i64 0], .bool false]) (by simp [results, Tryz.results35, go_sem, z4, r0, r1, f0, f1]) rfl ?_)
      exact ⟨by rw [HR.out]; rfl, by first | exact ((g0.trans g4).setCell hb _).setCell hb _ | exact g0.trans g4⟩
    · have HR : Hid (R = some ⟨k, pe⟩) := by show _ = _; rw [HO1.out, if_neg hk]
      clear HO1
      go_enter Tryz.func35, Tryz.ntmps35
      go_wp2_with (first | (go_at_call 70; (with_reducible refine (HS1.out _).mono ?_); rintro e w3 ⟨rfl, hq⟩; obtain rfl := hq.symm) | (go_at_call 71; (with_reducible refine (HF1.out _ g0).mono ?_); rintro e w4 ⟨rfl, g4⟩; obtain ⟨z4, r0, r1, f0, f1⟩ := HX.out _ g4) | fail)
      (refine bodyPost_ret (v := .tuple #[.agg #[.int .i64 k, .int .i64 pe], .bool true]) (by simp [results, Tryz.results35, go_sem, z4, r0, r1, f0, f1]) rfl ?_)
      exact ⟨by rw [HR.out]; rfl, by first | exact ((g0.trans g4).setCell hb _).setCell hb _ | exact g0.trans g4⟩
set_option maxRecDepth 100000 in
set_option maxHeartbeats 1000000 in
theorem dtold_any (v : Value) (P : Pln) (x : Prt) (w : World) (ht : Tabs w) (hP : IsPln w v P) (hn : ∀ e ∈ P.es, e.n.size ≤ 1000000) :
    Calls Tryz.prog 36 #[v, x.v] w fun e w' => e = .returned (.string (toldT P x)) ∧ Gr w w' := by
  have HPI := Lib.hid hP
  obtain ⟨a1, c1, a2, c2, a3, c3, a4, c4, rfl, h1, -⟩ := hP
  obtain ⟨xe, xx⟩ := x
  have hm := IsRow.len h1
  unfold maxLen at hm
  have HE := Lib.hid h1
  have HT : Hid (toldT P ⟨xe, xx⟩ = if 0 ≤ xe ∧ xe < P.es.length ∧ 0 ≤ xx ∧ xx ≤ 9 then (P.es.getD xe.toNat default).n ++ ⟨#[46]⟩ ++ dgs xx else ⟨#[]⟩) := rfl
  generalize toldT P ⟨xe, xx⟩ = R at HT ⊢
  have g0 : Gr w ((w.alloc (.cells #[.slice a1 P.es.length c1, .slice a2 P.js.length c2, .slice a3 P.ss.length c3, .slice a4 P.ls.length c4, .int .i64 P.top, .int .i64 P.brake, .int .i64 P.margin, .int .i64 P.throw, .bool P.hard] 28)).alloc (.cells #[.int .i64 xe, .int .i64 xx] 67)) := ((Gr.refl _).alloc _).alloc _
  unfold plnV Prt.v
  clear h1
  by_cases h1 : xe < 0
  · have HR : Hid (R = ⟨#[]⟩) := by show _ = _; rw [HT.out, if_neg (by omega)]
    clear HT
    go_enter Tryz.func36, Tryz.ntmps36
    go_wp2_with fail
    go_ret
    exact ⟨ret_str HR.out.symm, g0⟩
  by_cases h2 : (P.es.length : Int) ≤ xe
  · have HR : Hid (R = ⟨#[]⟩) := by show _ = _; rw [HT.out, if_neg (by omega)]
    clear HT
    go_enter Tryz.func36, Tryz.ntmps36
    go_wp2_with fail
    go_ret
    exact ⟨ret_str HR.out.symm, g0⟩
  by_cases h3 : xx < 0
  · have HR : Hid (R = ⟨#[]⟩) := by show _ = _; rw [HT.out, if_neg (by omega)]
    clear HT
    go_enter Tryz.func36, Tryz.ntmps36
    go_wp2_with fail
    go_ret
    exact ⟨ret_str HR.out.symm, g0⟩
  by_cases h4 : 9 < xx
  · have HR : Hid (R = ⟨#[]⟩) := by show _ = _; rw [HT.out, if_neg (by omega)]
    clear HT
    go_enter Tryz.func36, Tryz.ntmps36
    go_wp2_with fail
    go_ret
    exact ⟨ret_str HR.out.symm, g0⟩
  obtain ⟨zb, p0, p1, p2, p3, p4, p5, p6, p7, p8⟩ := (PBox.new w P (.slice a1 P.es.length c1) (.slice a2 P.js.length c2) (.slice a3 P.ss.length c3) (.slice a4 P.ls.length c4)).gr ((Gr.refl _).alloc (.cells #[.int .i64 xe, .int .i64 xx] 67))
  have zx : w.heap.size + 1 < (((w.alloc (.cells #[.slice a1 P.es.length c1, .slice a2 P.js.length c2, .slice a3 P.ss.length c3, .slice a4 P.ls.length c4, .int .i64 P.top, .int .i64 P.brake, .int .i64 P.margin, .int .i64 P.throw, .bool P.hard] 28)).alloc (.cells #[.int .i64 xe, .int .i64 xx] 67))).heap.size := by simp
  have x0 : (((w.alloc (.cells #[.slice a1 P.es.length c1, .slice a2 P.js.length c2, .slice a3 P.ss.length c3, .slice a4 P.ls.length c4, .int .i64 P.top, .int .i64 P.brake, .int .i64 P.margin, .int .i64 P.throw, .bool P.hard] 28)).alloc (.cells #[.int .i64 xe, .int .i64 xx] 67))).cell? ⟨w.heap.size + 1, 0, none⟩ = some (.int .i64 xe) := by go_simp
  have x1 : (((w.alloc (.cells #[.slice a1 P.es.length c1, .slice a2 P.js.length c2, .slice a3 P.ss.length c3, .slice a4 P.ls.length c4, .int .i64 P.top, .int .i64 P.brake, .int .i64 P.margin, .int .i64 P.throw, .bool P.hard] 28)).alloc (.cells #[.int .i64 xe, .int .i64 xx] 67))).cell? ⟨w.heap.size + 1, 1, none⟩ = some (.int .i64 xx) := by go_simp
  obtain ⟨j, rfl⟩ := Int.eq_ofNat_of_zero_le (show 0 ≤ xe by omega)
  have hj : j < P.es.length := by omega
  obtain ⟨bb, o, hs, z, y0, -, -⟩ := (HE.out.gr g0).at j hj
  subst hs
  have HR : Hid (R = P.es[j].n ++ ⟨#[46]⟩ ++ dgs xx) := by show _ = _; rw [HT.out, if_pos (by omega), Int.toNat_natCast, getD_at _ _ hj]
  have hnm := hn _ (List.getElem_mem hj)
  have HD := Lib.hid (fun (w' : World) (g : Gr w w') => digits_of ht (n := xx) (by omega) (by omega) w' g)
  have hd1 : (dgs xx).size = 1 := by rw [itoa_small (by omega) (by omega)]; rfl
  generalize dgs xx = dg at HD HR hd1
  generalize P.es[j].n = nm at y0 hnm HR
  have j1 : (j : Int) < (P.es.length : Int) := by omega
  have j0 : (0 : Int) ≤ (j : Int) := by omega
  clear HT
  go_enter Tryz.func36, Tryz.ntmps36
  go_upto_region 3 with fail
  have hc1 := fun (i : GrW ((w.alloc (.cells #[.slice (some ⟨bb, o, none⟩) P.es.length c1, .slice a2 P.js.length c2, .slice a3 P.ss.length c3, .slice a4 P.ls.length c4, .int .i64 P.top, .int .i64 P.brake, .int .i64 P.margin, .int .i64 P.throw, .bool P.hard] 28)).alloc (.cells #[.int .i64 (j : Int), .int .i64 xx] 67))) (o : Nat) => GrW.cell zb i o
  have hc2 := fun (i : GrW ((w.alloc (.cells #[.slice (some ⟨bb, o, none⟩) P.es.length c1, .slice a2 P.js.length c2, .slice a3 P.ss.length c3, .slice a4 P.ls.length c4, .int .i64 P.top, .int .i64 P.brake, .int .i64 P.margin, .int .i64 P.throw, .bool P.hard] 28)).alloc (.cells #[.int .i64 (j : Int), .int .i64 xx] 67))) (o : Nat) => GrW.cell zx i o
  have hc3 := fun (i : GrW ((w.alloc (.cells #[.slice (some ⟨bb, o, none⟩) P.es.length c1, .slice a2 P.js.length c2, .slice a3 P.ss.length c3, .slice a4 P.ls.length c4, .int .i64 P.top, .int .i64 P.brake, .int .i64 P.margin, .int .i64 P.throw, .bool P.hard] 28)).alloc (.cells #[.int .i64 (j : Int), .int .i64 xx] 67))) (o : Nat) => GrW.cell z i o
  have q1 : ¬ 9223372036854775807 < nm.size + 1 := by omega
  have q2 : ¬ 9223372036854775807 < nm.size + 1 + dg.size := by omega
  (refine wp_region_gr (by kernel_rfl) (by kernel_rfl) ?_; (repeat (go_big_quiet_step ((go_at_call 67; exact Calls.gr_of (HD.out _ (g0.trans (GrW.gr _))))))); refine wpQuiet_nil ?_; intro wz hz; obtain ⟨iz, hz⟩ := hz; obtain ⟨wn, gn⟩ := iz; dsimp only at hz; obtain rfl := hz.symm)
  go_wp2_with fail
  go_ret
  exact ⟨ret_str HR.out.symm, g0.trans gn⟩
end Go.Proofs.YtknmngejjoohdaaGreatDoor
