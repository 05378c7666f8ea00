/- The reference's PortOf. -/
import Derived.Test.YtknmngejjoohdaaGreatDoorRows
import Derived.Test.YtknmngejjoohdaaGreatDoorB21
import Derived.Test.YtknmngejjoohdaaGreatDoorB3
import Derived.Test.YtknmngejjoohdaaGreatDoorB2
namespace Go.Proofs.YtknmngejjoohdaaGreatDoor
open Go.ChangeShapes Go.WideShapes Go.ChangeAt Go.RowKit Go.Maps
set_option linter.unusedVariables false
set_option linter.unusedSimpArgs false
set_option maxRecDepth 100000 in
set_option maxHeartbeats 1000000 in
theorem refPortForm_any (s : ByteArray) (hs : s.size ≤ 1048576) (w : World) :
    Calls Tryz.prog 89 #[.string s] w fun e w' => e = .returned (.bool (portB s)) ∧ w' = w := by
  by_cases h3 : s.size < 3
  · have HB : Hid (portB s = false) := by show portB s = false; unfold portB; rw [decide_eq_false (show ¬ 3 ≤ s.size by omega)]; rfl
    have h1 : ¬ (1 : Int) ≤ (s.size : Int) - 2 := by omega
    go_enter Tryz.func89, Tryz.ntmps89
    go_wp2_with fail
    go_ret
    exact ⟨ret_bool HB.out.symm, rfl⟩
  obtain ⟨n, hn⟩ : ∃ n, s.size = n + 2 := ⟨s.size - 2, by omega⟩
  have hn1 : 1 ≤ n := by omega
  have HB : Hid (portB s = (decide (bt s n = 46) && dgB (bt s (n + 1)) && nmB (s.extract 0 n))) := by
    show portB s = _
    unfold portB portNm
    rw [decide_eq_true (show 3 ≤ s.size by omega), show s.size - 2 = n by omega, show s.size - 1 = n + 1 by omega]; rfl
  have tk : (s.size : Int) - 2 = (n : Int) := by omega
  have HNM := Lib.hid (fun (w' : World) => refName_any (s.extract 0 n) (by rw [ByteArray.size_extract]; unfold maxLen; omega) w')
  have hg0 := bt_get s n (by omega)
  have hg1 := bt_get s (n + 1) (by omega)
  have hn2 : n + 2 ≤ 1048576 := by omega
  have i0 : n < s.size := by omega
  have i1 : n + 1 < s.size := by omega
  have j1 : ((n : Int) + 1).toNat = n + 1 := by omega
  have j2 : (n : Int) < (s.size : Int) := by omega
  have j3 : (n : Int) + 1 < (s.size : Int) := by omega
  have j4 : (n : Int) ≤ (s.size : Int) := by omega
  have j5 : (1 : Int) ≤ (n : Int) := by omega
  by_cases hp : bt s n = 46
  rotate_left
  · have HB1 : Hid (portB s = false) := by show portB s = false; rw [HB.out, decide_eq_false hp]; rfl
    rw [hg0] at hp
    have tp := beqF hp
    clear hg0 hg1 HB hp
    go_enter Tryz.func89, Tryz.ntmps89
    go_wp2_with fail
    go_ret
    exact ⟨ret_bool HB1.out.symm, rfl⟩
  have HB2 : Hid (portB s = (dgB (bt s (n + 1)) && nmB (s.extract 0 n))) := by show portB s = _; rw [HB.out, decide_eq_true hp]; rfl
  rw [hg0] at hp
  have tp := beqT hp
  clear hg0 hp HB
  by_cases h4 : 48 ≤ bt s (n + 1)
  rotate_left
  · have HB1 : Hid (portB s = false) := by show portB s = false; rw [HB2.out, show dgB (bt s (n + 1)) = false by unfold dgB; rw [decide_eq_false h4]; rfl]; rfl
    rw [hg1] at h4
    clear hg1 HB2
    go_enter Tryz.func89, Tryz.ntmps89
    go_wp2_with fail
    go_ret
    exact ⟨ret_bool HB1.out.symm, rfl⟩
  by_cases h5 : bt s (n + 1) ≤ 57
  rotate_left
  · have HB1 : Hid (portB s = false) := by show portB s = false; rw [HB2.out, show dgB (bt s (n + 1)) = false by unfold dgB; rw [decide_eq_false h5]; simp]; rfl
    rw [hg1] at h4 h5
    clear hg1 HB2
    go_enter Tryz.func89, Tryz.ntmps89
    go_wp2_with fail
    go_ret
    exact ⟨ret_bool HB1.out.symm, rfl⟩
  have HB1 : Hid (portB s = nmB (s.extract 0 n)) := by show portB s = _; rw [HB2.out, show dgB (bt s (n + 1)) = true by unfold dgB; rw [decide_eq_true h4, decide_eq_true h5]; rfl]; rfl
  rw [hg1] at h4 h5
  clear hg1 HB2
  go_enter Tryz.func89, Tryz.ntmps89
  go_wp2_with (first | (go_at_call 88; (with_reducible refine (HNM.out _).mono ?_); rintro e w3 ⟨rfl, hq⟩; obtain rfl := hq.symm) | fail)
  go_ret
  exact ⟨ret_bool HB1.out.symm, rfl⟩
set_option maxRecDepth 100000 in
set_option maxHeartbeats 2000000 in
theorem refPortOf_any (v : Value) (P : Pln) (s : ByteArray) (hs : s.size ≤ 1048576) (w : World) (hP : IsPln w v P) :
    Calls Tryz.prog 90 #[v, .string s] w fun e w' => e = .returned (prtR (portO P s)) ∧ Gr w w' := by
  have HPI := Lib.hid hP
  obtain ⟨a1, c1, a2, c2, a3, c3, a4, c4, rfl, -⟩ := hP
  have g0 : Gr w ((w.alloc (.cells #[.slice a1 P.es.length c1, .slice a2 P.js.length c2, .slice a3 P.ss.length c3, .slice a4 P.ls.length c4, .int .i64 P.top, .int .i64 P.brake, .int .i64 P.margin, .int .i64 P.throw, .bool P.hard] 28)).alloc (.cells #[.int .i64 0, .int .i64 0] 67)) := ((Gr.refl _).alloc _).alloc _
  have g1 : Gr (w.alloc (.cells #[.slice a1 P.es.length c1, .slice a2 P.js.length c2, .slice a3 P.ss.length c3, .slice a4 P.ls.length c4, .int .i64 P.top, .int .i64 P.brake, .int .i64 P.margin, .int .i64 P.throw, .bool P.hard] 28)) ((w.alloc (.cells #[.slice a1 P.es.length c1, .slice a2 P.js.length c2, .slice a3 P.ss.length c3, .slice a4 P.ls.length c4, .int .i64 P.top, .int .i64 P.brake, .int .i64 P.margin, .int .i64 P.throw, .bool P.hard] 28)).alloc (.cells #[.int .i64 0, .int .i64 0] 67)) := (Gr.refl _).alloc _
  have hb : w.heap.size ≤ w.heap.size + 1 := by omega
  have hb1 : ((w.alloc (.cells #[.slice a1 P.es.length c1, .slice a2 P.js.length c2, .slice a3 P.ss.length c3, .slice a4 P.ls.length c4, .int .i64 P.top, .int .i64 P.brake, .int .i64 P.margin, .int .i64 P.throw, .bool P.hard] 28))).heap.size ≤ w.heap.size + 1 := by simp
  have HPF0 := Lib.hid (fun w' => (refPortForm_any s hs w'))
  have HX : Hid (∀ w', Gr ((w.alloc (.cells #[.slice a1 P.es.length c1, .slice a2 P.js.length c2, .slice a3 P.ss.length c3, .slice a4 P.ls.length c4, .int .i64 P.top, .int .i64 P.brake, .int .i64 P.margin, .int .i64 P.throw, .bool P.hard] 28)).alloc (.cells #[.int .i64 0, .int .i64 0] 67)) w' → w.heap.size + 1 < w'.heap.size ∧ w'.cell? ⟨w.heap.size + 1, 0, none⟩ = some (.int .i64 0) ∧ w'.cell? ⟨w.heap.size + 1, 1, none⟩ = some (.int .i64 0) ∧ w'.frozen? ⟨w.heap.size + 1, 0, none⟩ = false ∧ w'.frozen? ⟨w.heap.size + 1, 1, none⟩ = false) := fun w' g => by
    have hz : w.heap.size + 1 < (((w.alloc (.cells #[.slice a1 P.es.length c1, .slice a2 P.js.length c2, .slice a3 P.ss.length c3, .slice a4 P.ls.length c4, .int .i64 P.top, .int .i64 P.brake, .int .i64 P.margin, .int .i64 P.throw, .bool P.hard] 28)).alloc (.cells #[.int .i64 0, .int .i64 0] 67))).heap.size := by simp
    exact ⟨Nat.lt_of_lt_of_le hz g.size, (g.cell _ _ hz).trans (by go_simp), (g.cell _ _ hz).trans (by go_simp), (g.frozen _ _ hz).trans (by go_simp), (g.frozen _ _ hz).trans (by go_simp)⟩
  have HPB := Lib.hid (fun (w' : World) (g : Gr (w.alloc (.cells #[.slice a1 P.es.length c1, .slice a2 P.js.length c2, .slice a3 P.ss.length c3, .slice a4 P.ls.length c4, .int .i64 P.top, .int .i64 P.brake, .int .i64 P.margin, .int .i64 P.throw, .bool P.hard] 28)) w') => (PBox.new w P (.slice a1 P.es.length c1) (.slice a2 P.js.length c2) (.slice a3 P.ss.length c3) (.slice a4 P.ls.length c4)).gr g)
  have HS : Hid (∀ w', Gr (w.alloc (.cells #[.slice a1 P.es.length c1, .slice a2 P.js.length c2, .slice a3 P.ss.length c3, .slice a4 P.ls.length c4, .int .i64 P.top, .int .i64 P.brake, .int .i64 P.margin, .int .i64 P.throw, .bool P.hard] 28)) w' → w'.cell? ⟨w.heap.size, 0, none⟩ = some (.slice a1 P.es.length c1) ∧ w'.cell? ⟨w.heap.size, 1, none⟩ = some (.slice a2 P.js.length c2) ∧ w'.cell? ⟨w.heap.size, 2, none⟩ = some (.slice a3 P.ss.length c3) ∧ w'.cell? ⟨w.heap.size, 3, none⟩ = some (.slice a4 P.ls.length c4) ∧ w'.cell? ⟨w.heap.size, 4, none⟩ = some (.int .i64 P.top) ∧ w'.cell? ⟨w.heap.size, 5, none⟩ = some (.int .i64 P.brake) ∧ w'.cell? ⟨w.heap.size, 6, none⟩ = some (.int .i64 P.margin) ∧ w'.cell? ⟨w.heap.size, 7, none⟩ = some (.int .i64 P.throw) ∧ w'.cell? ⟨w.heap.size, 8, none⟩ = some (.bool P.hard)) := fun w' g => by
    obtain ⟨-, p0, p1, p2, p3, p4, p5, p6, p7, p8⟩ := HPB.out _ g
    exact ⟨p0, p1, p2, p3, p4, p5, p6, p7, p8⟩
  obtain ⟨zb, p0, p1, p2, p3, p4, p5, p6, p7, p8⟩ := HPB.out _ g1
  unfold plnV at *
  have hcb := fun (i : GrW ((w.alloc (.cells #[.slice a1 P.es.length c1, .slice a2 P.js.length c2, .slice a3 P.ss.length c3, .slice a4 P.ls.length c4, .int .i64 P.top, .int .i64 P.brake, .int .i64 P.margin, .int .i64 P.throw, .bool P.hard] 28)).alloc (.cells #[.int .i64 0, .int .i64 0] 67))) (o : Nat) => GrW.cell zb i o
  by_cases hq : portB s = true
  rotate_left
  · have HR : Hid (portO P s = none) := by show _ = _; unfold portO; rw [if_neg hq]
    have hq' : portB s = false := by simpa using hq
    rw [hq'] at HPF0
    have HPF : Hid (∀ w', Calls Tryz.prog 89 #[.string s] w' fun e w'' => e = .returned (.bool false) ∧ Gr w' w'') := fun w' => (HPF0.out w').mono fun e w'' h => ⟨h.1, h.2 ▸ Gr.refl _⟩
    clear hq hq' HPF0
    go_enter Tryz.func90, Tryz.ntmps90
    go_upto_region 2 with fail
    (refine wp_region_gr (by kernel_rfl) (by kernel_rfl) ?_; (repeat (go_big_quiet_step ((go_at_call 89; (with_reducible exact Calls.gr_of (HPF.out _)))))); refine wpQuiet_nil ?_; intro wz hz; obtain ⟨iz, hz⟩ := hz; obtain ⟨wn, gn⟩ := iz; dsimp only at hz; obtain rfl := hz.symm)
    obtain ⟨z4, r0, r1, f0, f1⟩ := HX.out _ gn
    go_wp2_with fail
    (refine bodyPost_ret (v := .tuple #[.agg #[.int .i64 0, .int .i64 0], .bool false]) (by simp [results, Tryz.results90, go_sem, z4, r0, r1, f0, f1]) rfl ?_)
    exact ⟨by rw [HR.out]; rfl, ((g0.trans gn).setCell hb _).setCell hb _⟩
  have h3 : 3 ≤ s.size ∧ bt s (s.size - 1) ≤ 57 ∧ 48 ≤ bt s (s.size - 1) := by
    have h := hq
    unfold portB dgB at h
    simp only [Bool.and_eq_true, decide_eq_true_eq] at h
    exact ⟨h.1.1.1, h.1.2.2, h.1.2.1⟩
  obtain ⟨n, hn⟩ : ∃ n, s.size = n + 2 := ⟨s.size - 2, by omega⟩
  have tk : (s.size : Int) - 2 = (n : Int) := by omega
  have hn2 : n + 2 ≤ 1048576 := by omega
  have i1 : n + 1 < s.size := by omega
  have j1 : ((n : Int) + 1).toNat = n + 1 := by omega
  have j3 : (n : Int) + 1 < (s.size : Int) := by omega
  have j4 : (n : Int) ≤ (s.size : Int) := by omega
  have j5 : (0 : Int) ≤ (n : Int) := by omega
  have j6 : IntKind.i64.wrap ((n : Int) + 1) = (n : Int) + 1 := IntWalk.i64_in _ (by omega)
  have j7 : (0 : Int) ≤ (n : Int) + 1 := by omega
  have j8 : n ≤ s.size := by omega
  obtain ⟨hs3, hc1, hc0⟩ := h3
  have hen : portEn s = ((s[n + 1]).toNat : Int) - 48 := by unfold portEn; rw [show s.size - 1 = n + 1 by omega, bt_get s (n + 1) i1]
  rw [show s.size - 1 = n + 1 by omega, bt_get s (n + 1) i1] at hc0 hc1
  have j10 : IntKind.u8.wrap (((s[n + 1]).toNat : Int) - 48) = ((s[n + 1]).toNat : Int) - 48 := by
    have h : ∀ x : Int, IntKind.u8.wrap x = x % (2 ^ 8 : Int) := fun x => by simp [IntKind.wrap, IntKind.signed, IntKind.bits]
    rw [h]
    exact Int.emod_eq_of_lt (by omega) (by omega)
  have j11 : IntKind.i64.wrap (((s[n + 1]).toNat : Int) - 48) = ((s[n + 1]).toNat : Int) - 48 := IntWalk.i64_in _ (by omega)
  have hnm : portNm s = s.extract 0 n := by unfold portNm; rw [show s.size - 2 = n by omega]
  have HO : Hid (portO P s = if eleN P (s.extract 0 n) < 0 then none else some ⟨eleN P (s.extract 0 n), ((s[n + 1]).toNat : Int) - 48⟩) := by
    show _ = _
    unfold portO portP
    rw [if_pos hq, hnm, hen]
  have HFN : Hid (∀ w', Gr w w' → Calls Tryz.prog 143 #[.agg #[.slice a1 P.es.length c1, .slice a2 P.js.length c2, .slice a3 P.ss.length c3, .slice a4 P.ls.length c4, .int .i64 P.top, .int .i64 P.brake, .int .i64 P.margin, .int .i64 P.throw, .bool P.hard], .string (s.extract 0 n)] w' fun e w'' => e = .returned (.int .i64 (eleN P (s.extract 0 n))) ∧ Gr w' w'') := fun w' g => eleRef_any _ P _ w' (HPI.out.gr g)
  rw [hq] at HPF0
  have HPF : Hid (∀ w', Calls Tryz.prog 89 #[.string s] w' fun e w'' => e = .returned (.bool true) ∧ Gr w' w'') := fun w' => (HPF0.out w').mono fun e w'' h => ⟨h.1, h.2 ▸ Gr.refl _⟩
  generalize eleN P (s.extract 0 n) = N at HFN HO
  have j9 : (n : Int) ≤ (n : Int) + 2 := by omega
  clear hq hen hnm HPF0
  by_cases hN : N < 0
  · have HR : Hid (portO P s = none) := by show _ = _; rw [HO.out, if_pos hN]
    clear HO
    go_enter Tryz.func90, Tryz.ntmps90
    go_upto_region 2 with fail
    (refine wp_region_gr (by kernel_rfl) (by kernel_rfl) ?_; (repeat (go_big_quiet_step ((first | (go_at_call 89; (with_reducible exact Calls.gr_of (HPF.out _))) | (go_at_call 143; (with_reducible exact Calls.gr_of (HFN.out _ (g0.trans (GrW.gr _))))))))); refine wpQuiet_nil ?_; intro wz hz; obtain ⟨iz, hz⟩ := hz; obtain ⟨wn, gn⟩ := iz; dsimp only at hz; obtain rfl := hz.symm)
    obtain ⟨z4, r0, r1, f0, f1⟩ := HX.out _ gn
    go_wp2_with fail
    (refine bodyPost_ret (v := .tuple #[.agg #[.int .i64 0, .int .i64 0], .bool false]) (by simp [results, Tryz.results90, go_sem, z4, r0, r1, f0, f1]) rfl ?_)
    exact ⟨by rw [HR.out]; rfl, ((g0.trans gn).setCell hb _).setCell hb _⟩
  have HR : Hid (portO P s = some ⟨N, ((s[n + 1]).toNat : Int) - 48⟩) := by show _ = _; rw [HO.out, if_neg hN]
  clear HO
  go_enter Tryz.func90, Tryz.ntmps90
  go_upto_region 2 with fail
  (refine wp_region_gr (by kernel_rfl) (by kernel_rfl) ?_; (repeat (go_big_quiet_step ((first | (go_at_call 89; (with_reducible exact Calls.gr_of (HPF.out _))) | (go_at_call 143; (with_reducible exact Calls.gr_of (HFN.out _ (g0.trans (GrW.gr _))))))))); refine wpQuiet_nil ?_; intro wz hz; obtain ⟨iz, hz⟩ := hz; obtain ⟨wn, gn⟩ := iz; dsimp only at hz; obtain rfl := hz.symm)
  obtain ⟨z4, r0, r1, f0, f1⟩ := HX.out _ gn
  clear hcb zb p0 p1 p2 p3 p4 p5 p6 p7 p8
  go_upto_region 4 with fail
  have GN := Lib.hid (g1.trans gn)
  have HGN := Lib.hid gn
  have HG0 := Lib.hid g0
  clear g0 g1 gn
  go_region_held3 (fun w' => w'.cell? ⟨w.heap.size, 0, none⟩ = some (.slice a1 P.es.length c1) ∧ w'.cell? ⟨w.heap.size, 1, none⟩ = some (.slice a2 P.js.length c2) ∧ w'.cell? ⟨w.heap.size, 2, none⟩ = some (.slice a3 P.ss.length c3) ∧ w'.cell? ⟨w.heap.size, 3, none⟩ = some (.slice a4 P.ls.length c4) ∧ w'.cell? ⟨w.heap.size, 4, none⟩ = some (.int .i64 P.top) ∧ w'.cell? ⟨w.heap.size, 5, none⟩ = some (.int .i64 P.brake) ∧ w'.cell? ⟨w.heap.size, 6, none⟩ = some (.int .i64 P.margin) ∧ w'.cell? ⟨w.heap.size, 7, none⟩ = some (.int .i64 P.throw) ∧ w'.cell? ⟨w.heap.size, 8, none⟩ = some (.bool P.hard)) (first | exact HS.out _ GN.out | exact HS.out _ GN.out.drew | exact HS.out _ (GN.out.drew.trans h5) | exact HS.out _ ((GN.out.drew.trans h5).setCell hb1 _) | exact HS.out _ (((GN.out.drew.trans h5).setCell hb1 _).setCell hb1 _)) (first | (go_at_call 143; (with_reducible refine (HFN.out _ ((HG0.out.trans HGN.out).drew)).mono ?_); rintro e w5 ⟨rfl, h5⟩; obtain ⟨z4, r0, r1, f0, f1⟩ := HX.out _ (HGN.out.drew.trans h5)))
  all_goals go_wp2_with fail
  all_goals
    (refine bodyPost_ret (v := .tuple #[.agg #[.int .i64 N, .int .i64 (((s[n + 1]).toNat : Int) - 48)], .bool true]) (by simp [results, Tryz.results90, go_sem, z4, r0, r1, f0, f1]) rfl ?_)
    exact ⟨by rw [HR.out]; rfl, (((HG0.out.trans HGN.out).drew.trans h5).setCell hb _).setCell hb _⟩
end Go.Proofs.YtknmngejjoohdaaGreatDoor
