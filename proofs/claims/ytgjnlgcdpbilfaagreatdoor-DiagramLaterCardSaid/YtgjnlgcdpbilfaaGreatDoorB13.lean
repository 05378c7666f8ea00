/- DgF: diagram.Check.
OpnI: Opening slices inside other data: of integers; of structs.
OpnB: Opening a body.
OpnK: Opening a slice of kinds of trains.
OpnL: Opening a plan.
OpnM: Opening a timetable. -/
import Derived.Test.YtgjnlgcdpbilfaaGreatDoorRows
import Derived.Test.YtgjnlgcdpbilfaaGreatDoorB12
import Derived.Test.YtgjnlgcdpbilfaaGreatDoorB1
import Derived.Deep.Slices
import Derived.Deep.Fields
import Derived.ChangeSame
import Derived.Test.YtgjnlgcdpbilfaaGreatDoorB6
import Derived.Test.YtgjnlgcdpbilfaaGreatDoorB2
namespace Go.Proofs.YtgjnlgcdpbilfaaGreatDoor
open Go.ChangeShapes Go.WideShapes Go.ChangeAt Go.RowKit Go.Maps
set_option linter.unusedVariables false
set_option linter.unusedSimpArgs false
theorem any_not {α : Type} (f : α → Bool) : ∀ L : List α, L.any (fun x => !f x) = !L.all f
  | [] => rfl
  | x :: t => by rw [List.any_cons, List.all_cons, any_not f t, Bool.not_and]
theorem not_t {b : Bool} (h : true = !b) : b = false := by cases b; rfl; cases h
theorem not_f {b : Bool} (h : false = !b) : b = true := by cases b; cases h; rfl
theorem sizeRun : ∀ w', (sizeOf (Tryz.prog.elem 29)).run Tryz.prog w' = .ok 5 w' := fun w' => by kernel_rfl
theorem anyR_pre {L : List Rn} {k : Nat} (hk : k < L.length) : ((L.take k).any fun x => decide (x.nm = L[k].nm)) = true → twiceB (L.map (·.nm)) = true := fun h => by
  obtain ⟨x, hx, he⟩ := List.any_eq_true.1 h
  obtain ⟨j, hj, rfl⟩ := List.getElem_of_mem hx
  rw [List.length_take] at hj
  rw [List.getElem_take] at he
  exact twiceR_yes hk (show j < k by omega) (by simpa using he)
theorem anyR_no {L : List Rn} {k : Nat} (hk : k < L.length) (h : ((L.take k).any fun x => decide (x.nm = L[k].nm)) = false) : ∀ j (hj : j < k), L[j].nm ≠ L[k].nm := fun j hj e => by
  rw [List.any_eq_false] at h
  have hm : L[j] ∈ L.take k := by
    rw [List.mem_take_iff_getElem]
    exact ⟨j, by omega, rfl⟩
  exact absurd (h _ hm) (by simp [e])
set_option maxRecDepth 100000 in
set_option maxHeartbeats 4000000 in
theorem dgCheck_any (pv v : Value) (P : Pln) (D : Dgm) (w : World) (hP : IsPln w pv P) (hD : IsDgm w v D) (hok : ∀ s ∈ D.st, s.nm.size ≤ maxLen) (hr : ∀ r ∈ D.runs, r.nm.size ≤ maxLen) :
    Calls Tryz.prog 13 #[pv, v] w fun e w' => e = .returned (.int .i64 (chkD P D)) ∧ Gr w w' := by
  have HPI := Lib.hid hP
  obtain ⟨a1, c1, a2, c2, a3, c3, a4, c4, rfl, -⟩ := hP
  obtain ⟨s1, k1, s2, k2, rfl, hS, hR⟩ := hD
  have HRN := Lib.hid hR
  have hm : D.runs.length ≤ maxLen := by obtain ⟨_, _, _, h, _⟩ := hR.form; exact h
  have hms : D.st.length ≤ maxLen := by obtain ⟨_, _, _, h, _⟩ := hS.form; exact h
  have hcap : D.runs.length ≤ k2 := hR.2 _ _ _ rfl
  have g0 : Gr w ((w.alloc (.cells #[.slice a1 P.es.length c1, .slice a2 P.js.length c2, .slice a3 P.ss.length c3, .slice a4 P.ls.length c4, .int .i64 P.top, .int .i64 P.brake, .int .i64 P.margin, .int .i64 P.throw, .bool P.hard] 27)).alloc (.cells #[.int .i64 D.beg, .slice s1 D.st.length k1, .slice s2 D.runs.length k2] 31)) := ((Gr.refl _).alloc _).alloc _
  have HB := Lib.hid (fun (w' : World) (g : Gr ((w.alloc (.cells #[.slice a1 P.es.length c1, .slice a2 P.js.length c2, .slice a3 P.ss.length c3, .slice a4 P.ls.length c4, .int .i64 P.top, .int .i64 P.brake, .int .i64 P.margin, .int .i64 P.throw, .bool P.hard] 27)).alloc (.cells #[.int .i64 D.beg, .slice s1 D.st.length k1, .slice s2 D.runs.length k2] 31)) w') => (PBox.new w P (.slice a1 P.es.length c1) (.slice a2 P.js.length c2) (.slice a3 P.ss.length c3) (.slice a4 P.ls.length c4)).gr (((Gr.refl _).alloc _).trans g))
  have HDX : Hid (∀ w', Gr ((w.alloc (.cells #[.slice a1 P.es.length c1, .slice a2 P.js.length c2, .slice a3 P.ss.length c3, .slice a4 P.ls.length c4, .int .i64 P.top, .int .i64 P.brake, .int .i64 P.margin, .int .i64 P.throw, .bool P.hard] 27)).alloc (.cells #[.int .i64 D.beg, .slice s1 D.st.length k1, .slice s2 D.runs.length k2] 31)) w' → w.heap.size + 1 < w'.heap.size ∧ w'.cell? ⟨w.heap.size + 1, 0, none⟩ = some (.int .i64 D.beg) ∧ w'.cell? ⟨w.heap.size + 1, 1, none⟩ = some (.slice s1 D.st.length k1) ∧ w'.cell? ⟨w.heap.size + 1, 2, none⟩ = some (.slice s2 D.runs.length k2)) := fun w' g => by
    have hz : w.heap.size + 1 < (((w.alloc (.cells #[.slice a1 P.es.length c1, .slice a2 P.js.length c2, .slice a3 P.ss.length c3, .slice a4 P.ls.length c4, .int .i64 P.top, .int .i64 P.brake, .int .i64 P.margin, .int .i64 P.throw, .bool P.hard] 27)).alloc (.cells #[.int .i64 D.beg, .slice s1 D.st.length k1, .slice s2 D.runs.length k2] 31))).heap.size := by simp
    exact ⟨Nat.lt_of_lt_of_le hz g.size, (g.cell _ _ hz).trans (by go_simp), (g.cell _ _ hz).trans (by go_simp), (g.cell _ _ hz).trans (by go_simp)⟩
  have HC1 := Lib.hid (fun (w' : World) (g : Gr w w') => contRun1_any D.runs (fun r => decide (12 < r.legs.length)) _ w' (hR.gr g) (fun w2 g2 i hi la lc hl => check1r_any _ _ _ _ la _ lc (by obtain ⟨_, _, _, h, _⟩ := hl.form; exact h) w2))
  have HST := Lib.hid (fun (w' : World) (g : Gr w w') => stCheck_any _ _ P D.st w' (HPI.out.gr g) (hS.gr g) hok)
  have HI := Lib.hid (fun w' => dgIn_any D.beg 86399 w')
  have HC2 := Lib.hid (fun (w' : World) (g : Gr ((w.alloc (.cells #[.slice a1 P.es.length c1, .slice a2 P.js.length c2, .slice a3 P.ss.length c3, .slice a4 P.ls.length c4, .int .i64 P.top, .int .i64 P.brake, .int .i64 P.margin, .int .i64 P.throw, .bool P.hard] 27)).alloc (.cells #[.int .i64 D.beg, .slice s1 D.st.length k1, .slice s2 D.runs.length k2] 31)) w') => contRun2_any D.runs (fun r => !runB P D.st.length r) _ (.pointer (some ⟨w.heap.size, 0, none⟩)) (.pointer (some ⟨w.heap.size + 1, 0, none⟩)) w' (hR.gr (g0.trans g)) (fun w2 g2 i hi la lc hl => check2r_any P a1 a2 a3 a4 c1 c2 c3 c4 D.beg s1 s2 D.st.length D.runs.length k1 k2 _ _ _ _ la lc _ w.heap.size (w.heap.size + 1) w2 (HPI.out.gr ((g0.trans g).trans g2)) (HB.out _ (g.trans g2)) (HDX.out _ (g.trans g2)) hl (hr _ (List.getElem_mem hi)) hms))
  have HC3 := Lib.hid (fun (w' : World) (g : Gr w w') (k : Nat) (hk : k < D.runs.length) (b : Nat) (hb : b < w'.heap.size) (hc : w'.cell? ⟨b, 0, none⟩ = some (.string D.runs[k].nm)) => contRun3_any (D.runs.take k) (fun x => decide (x.nm = D.runs[k].nm)) _ (.pointer (some ⟨b, 0, none⟩)) w' ((hR.gr g).take k (Nat.le_of_lt hk)) (fun w2 g2 i hi la lc hl => check3r_any _ _ _ _ la _ lc _ b w2 (Nat.lt_of_lt_of_le hb g2.size) ((g2.cell _ _ hb).trans hc)))
  have HE : Hid (chkD P D = if (decide (8 < D.runs.length) || D.runs.any fun r => decide (12 < r.legs.length)) then 3 else if checkS P.top P.brake D.st ≠ 0 then checkS P.top P.brake D.st else if winB D.beg 0 86399 = false then 1 else if D.runs.all (runB P D.st.length) = false then 1 else if twiceB (D.runs.map (·.nm)) then 4 else 0) := rfl
  have HA := Lib.hid (any_not (runB P D.st.length) D.runs)
  have HSL := Lib.hid (fun (k : Nat) (hk : k ≤ k2) => head_slice 29 51 Tryz.underlying29 (by kernel_rfl) sizeRun s2 D.runs.length k2 k hk)
  unfold maxLen at hm hms
  unfold plnV dgmV at *
  clear hok hr hS hR
  generalize chkD P D = R at HE ⊢
  by_cases n8 : 8 < D.runs.length
  · have n8' : (8 : Int) < (D.runs.length : Int) := by omega
    have HQ : Hid (R = 3) := by show _ = _; rw [HE.out, decide_eq_true n8]; rfl
    clear HE
    go_enter Tryz.func13, Tryz.ntmps13
    go_wp2_with fail
    go_ret
    exact ⟨ret_int HQ.out.symm, g0⟩
  have n8' : ¬ (8 : Int) < (D.runs.length : Int) := by omega
  rw [decide_eq_false n8] at HE
  generalize (D.runs.any fun r => decide (12 < r.legs.length)) = b1 at HC1 HE
  cases b1
  rotate_left
  · have HQ : Hid (R = 3) := by show _ = _; rw [HE.out]; rfl
    clear HE
    go_enter Tryz.func13, Tryz.ntmps13
    go_wp2_with (first | (go_at_call 30; (with_reducible refine (HC1.out _ g0).mono ?_); rintro e w1 ⟨rfl, g1⟩; obtain ⟨zb, p0, p1, p2, p3, p4, p5, p6, p7, p8⟩ := HB.out _ g1; obtain ⟨zd, d0, d1, d2⟩ := HDX.out _ g1; have G1 := g0.trans g1) | fail)
    go_ret
    exact ⟨ret_int HQ.out.symm, g0.trans g1⟩
  generalize checkS P.top P.brake D.st = E at HST HE
  by_cases hE : E = 0
  rotate_left
  · have tE : (E != 0) = true := bneT hE
    have HQ : Hid (R = E) := by show _ = _; rw [HE.out, Bool.false_or, if_neg (by decide), if_pos hE]
    clear HE hE
    go_enter Tryz.func13, Tryz.ntmps13
    go_wp2_with (first | (go_at_call 30; (with_reducible refine (HC1.out _ g0).mono ?_); rintro e w1 ⟨rfl, g1⟩; obtain ⟨zb, p0, p1, p2, p3, p4, p5, p6, p7, p8⟩ := HB.out _ g1; obtain ⟨zd, d0, d1, d2⟩ := HDX.out _ g1; have G1 := g0.trans g1) | (go_at_call 32; (with_reducible refine (HST.out _ G1).mono ?_); rintro e w2 ⟨rfl, g2⟩; obtain ⟨yb, r0, r1, r2, r3, r4, r5, r6, r7, r8⟩ := HB.out _ (g1.trans g2); obtain ⟨yd, e0, e1, e2⟩ := HDX.out _ (g1.trans g2); have G2 := G1.trans g2) | fail)
    go_ret
    exact ⟨ret_int HQ.out.symm, G2⟩
  have tE : (E != 0) = false := bneF hE
  subst hE
  generalize winB D.beg 0 86399 = b2 at HI HE
  cases b2
  · have HQ : Hid (R = 1) := by show _ = _; rw [HE.out]; rfl
    clear HE
    go_enter Tryz.func13, Tryz.ntmps13
    go_wp2_with (first | (go_at_call 30; (with_reducible refine (HC1.out _ g0).mono ?_); rintro e w1 ⟨rfl, g1⟩; obtain ⟨zb, p0, p1, p2, p3, p4, p5, p6, p7, p8⟩ := HB.out _ g1; obtain ⟨zd, d0, d1, d2⟩ := HDX.out _ g1; have G1 := g0.trans g1) | (go_at_call 32; (with_reducible refine (HST.out _ G1).mono ?_); rintro e w2 ⟨rfl, g2⟩; obtain ⟨yb, r0, r1, r2, r3, r4, r5, r6, r7, r8⟩ := HB.out _ (g1.trans g2); obtain ⟨yd, e0, e1, e2⟩ := HDX.out _ (g1.trans g2); have G2 := G1.trans g2) | (go_at_call 33; (with_reducible refine (HI.out _).mono ?_); rintro e w3 ⟨rfl, hq⟩; obtain rfl := hq.symm) | fail)
    go_ret
    exact ⟨ret_int HQ.out.symm, G2⟩
  generalize (D.runs.any fun r => !runB P D.st.length r) = b3 at HC2 HA
  generalize D.runs.all (runB P D.st.length) = b4 at HA HE
  cases b3
  rotate_left
  · have HQ : Hid (R = 1) := by
      have : b4 = false := not_t HA.out
      show _ = _; rw [HE.out, this]; rfl
    clear HE HA
    go_enter Tryz.func13, Tryz.ntmps13
    go_wp2_with (first | (go_at_call 30; (with_reducible refine (HC1.out _ g0).mono ?_); rintro e w1 ⟨rfl, g1⟩; obtain ⟨zb, p0, p1, p2, p3, p4, p5, p6, p7, p8⟩ := HB.out _ g1; obtain ⟨zd, d0, d1, d2⟩ := HDX.out _ g1; have G1 := g0.trans g1) | (go_at_call 32; (with_reducible refine (HST.out _ G1).mono ?_); rintro e w2 ⟨rfl, g2⟩; obtain ⟨yb, r0, r1, r2, r3, r4, r5, r6, r7, r8⟩ := HB.out _ (g1.trans g2); obtain ⟨yd, e0, e1, e2⟩ := HDX.out _ (g1.trans g2); have G2 := G1.trans g2) | (go_at_call 33; (with_reducible refine (HI.out _).mono ?_); rintro e w3 ⟨rfl, hq⟩; obtain rfl := hq.symm) | (go_at_call 30; (with_reducible refine (HC2.out _ (g1.trans g2)).mono ?_); rintro e w4 ⟨rfl, g4⟩; obtain ⟨xb, t0, t1, t2, t3, t4, t5, t6, t7, t8⟩ := HB.out _ ((g1.trans g2).trans g4); obtain ⟨xd, f0, f1, f2⟩ := HDX.out _ ((g1.trans g2).trans g4); have G4 := G2.trans g4) | fail)
    go_ret
    exact ⟨ret_int HQ.out.symm, G4⟩
  have HQ : Hid (R = if twiceB (D.runs.map (·.nm)) then 4 else 0) := by
    have : b4 = true := not_f HA.out
    show _ = _; rw [HE.out, this]; rfl
  clear HE HA
  go_enter Tryz.func13, Tryz.ntmps13
  go_wp2_with (first | (go_at_call 30; (with_reducible refine (HC1.out _ g0).mono ?_); rintro e w1 ⟨rfl, g1⟩; obtain ⟨zb, p0, p1, p2, p3, p4, p5, p6, p7, p8⟩ := HB.out _ g1; obtain ⟨zd, d0, d1, d2⟩ := HDX.out _ g1; have G1 := g0.trans g1) | (go_at_call 32; (with_reducible refine (HST.out _ G1).mono ?_); rintro e w2 ⟨rfl, g2⟩; obtain ⟨yb, r0, r1, r2, r3, r4, r5, r6, r7, r8⟩ := HB.out _ (g1.trans g2); obtain ⟨yd, e0, e1, e2⟩ := HDX.out _ (g1.trans g2); have G2 := G1.trans g2) | (go_at_call 33; (with_reducible refine (HI.out _).mono ?_); rintro e w3 ⟨rfl, hq⟩; obtain rfl := hq.symm) | (go_at_call 30; (with_reducible refine (HC2.out _ (g1.trans g2)).mono ?_); rintro e w4 ⟨rfl, g4⟩; obtain ⟨xb, t0, t1, t2, t3, t4, t5, t6, t7, t8⟩ := HB.out _ ((g1.trans g2).trans g4); obtain ⟨xd, f0, f1, f2⟩ := HDX.out _ ((g1.trans g2).trans g4); have G4 := G2.trans g4) | fail)
  clear HC1 HC2 HST
  go_loopw [37] (fun y wr => ∃ k : Nat, y = .int .i64 k ∧ k ≤ D.runs.length ∧ Gr w4 wr ∧ Hid (∀ i j (hi : i < D.runs.length) (hj : j < i), i < k → D.runs[j].nm ≠ D.runs[i].nm)) (fun y _ => D.runs.length - (intOf y).toNat)
  case atStart => exact ⟨0, rfl, Nat.zero_le _, Gr.refl _, fun i j hi hj h => by omega⟩
  case round =>
    obtain ⟨k, rfl, hk, g, HT⟩ := hrel
    have gw := G4.trans g
    by_cases hlt : k < D.runs.length
    · have hk1 : (k : Int) < (D.runs.length : Int) := by omega
      obtain ⟨bb, o, la, lc, hs, z, y0, y1, y2, y3, y4, -⟩ := (HRN.out.gr gw).at k hlt
      subst hs
      obtain ⟨zd2, h0, h1, h2⟩ := HDX.out _ (((g1.trans g2).trans g4).trans g)
      have HC := Lib.hid (fun (w' : World) (g : Gr w w') (b : Nat) (hb : b < w'.heap.size) (hc : w'.cell? ⟨b, 0, none⟩ = some (.string D.runs[k].nm)) => HC3.out w' g k hlt b hb hc)
      have HY := Lib.hid (fun h => anyR_pre hlt h)
      have HN := Lib.hid (fun h => anyR_no hlt h)
      have HT2 : Hid ((∀ j (hj : j < k), D.runs[j].nm ≠ D.runs[k].nm) → ∀ i j (hi : i < D.runs.length) (hj : j < i), i < k + 1 → D.runs[j].nm ≠ D.runs[i].nm) := fun h i j hi hj hik => by
        by_cases e : i = k
        · subst e; exact h j hj
        · exact HT.out i j hi hj (by omega)
      have hsl := HSL.out k (by omega)
      clear HT HC3
      generalize ((D.runs.take k).any fun x => decide (x.nm = D.runs[k].nm)) = q at HC HY HN
      generalize D.runs[k].nm = nm at y0 HC HN HT2
      generalize D.runs[k].st = st at y1
      generalize D.runs[k].fr = fr at y2
      generalize D.runs[k].lf = lf at y3
      generalize D.runs[k].legs.length = ln at y4
      have gA : Gr w (wr.alloc (.cells #[.string nm, .int .i64 st, .int .i64 fr, .int .i64 lf, .slice la ln lc] 51)) := gw.alloc _
      have hA := HC.out _ gA wr.heap.size (by simp) (by rw [World.cell?_alloc_mark]; rfl)
      have HA := Lib.hid hA
      have zd3 : w.heap.size + 1 < wr.heap.size + 1 := by omega
      clear hA HC
      cases q
      · have HT3 := Lib.hid (HT2.out (HN.out rfl))
        clear HY HN HT2
        go_wp2_with (first | (go_at_call 30; (with_reducible refine (HA.out).mono ?_); rintro e w5 ⟨rfl, g5⟩) | fail)
        go_roundw
        case rel => exact ⟨k + 1, by go_num, hlt, (g.alloc _).trans g5, HT3.out⟩
        case measure => simp [intOf]; omega
      · have HF : Hid (R = 4) := by show _ = _; rw [HQ.out, HY.out rfl]; rfl
        clear HY HN HT2
        go_wp2_with (first | (go_at_call 30; (with_reducible refine (HA.out).mono ?_); rintro e w5 ⟨rfl, g5⟩) | fail)
        go_ret
        exact ⟨ret_int HF.out.symm, gA.trans g5⟩
    · have hk1 : ¬ (k : Int) < (D.runs.length : Int) := by omega
      have HF : Hid (R = 0) := by
        show _ = _
        rw [HQ.out, twiceR_no fun i j hi hj => HT.out i j hi hj (by omega)]; rfl
      go_wp2_with fail
      go_ret
      exact ⟨ret_int HF.out.symm, gw⟩
end Go.Proofs.YtgjnlgcdpbilfaaGreatDoor
namespace Go.Proofs.YtgjnlgcdpbilfaaGreatDoor
open Go.Joins Go.ChangeShapes Go.WideShapes Go.RowKit Go.Deep
set_option linter.unusedVariables false
set_option linter.unusedSimpArgs false
section
variable {H : Type} {enc : TypeId × Value → H} {W : World} {base n : Nat} {sp : Nat → Bool} {held : Bool} {v : Value} {y : DataW H × List MemPlace}
theorem trod_ints (h : DataW.trod enc Tryz.prog W base sp held n 102 [v] = some y) :
    ∃ zs : List Int, IsVals W v (zs.map (Value.int .i64)) ∧ ∀ x ∈ zs, (Lit.int .i64 x).wf = true := by
  rcases open_ints Tryz.underlying102 Tryz.underlying3 (by kernel_rfl) h with ⟨hcs, _⟩ | ⟨x, l, c, zs, hcs, _, hl, hm, hz, _, hcell, hwz⟩
  · simp only [List.cons.injEq, and_true] at hcs
    subst hcs
    exact ⟨[], ⟨none, 0, rfl, by simp, .inl rfl⟩, by simp⟩
  · simp only [List.cons.injEq, and_true] at hcs
    subst hcs
    have hzl : l ≤ zs.length := by rw [hz]; split <;> omega
    have hlen : ((zs.take l).map (Value.int .i64)).length = l := by simp; omega
    refine ⟨zs.take l, ⟨some x, c, by rw [hlen], by rw [hlen]; omega, vals_of fun i y hy => ?_⟩, fun n hn => hwz n (List.mem_of_mem_take hn)⟩
    have hi : i < l := by
      have := (List.getElem?_eq_some_iff.1 hy).1
      omega
    rw [hcell i (by omega)]
    simp only [List.getElem?_map, List.getElem?_take, if_pos hi] at hy
    rw [List.getElem?_eq_getElem (by omega)] at hy
    simp only [Option.map_some, Option.some.injEq] at hy
    rw [← hy, List.getD_eq_getElem?_getD, List.getElem?_eq_getElem (by omega)]
    rfl
theorem trod_rows {t e : TypeId} {sz : Nat} (ht : Tryz.prog.underlying t = some (.slice e)) (hC : Tryz.prog.cellsOf e = sz) (hs : 0 < sz) (h : DataW.trod enc Tryz.prog W base sp held n t [v] = some y) :
    ∃ a l c, v = .slice a l c ∧ l ≤ maxLen ∧ (l = 0 ∨ ∃ b o, a = some ⟨b, o, none⟩ ∧ b < W.heap.size ∧ ∀ i, i < l → ∃ (cs : List Value) (m : Nat) (z : DataW H × List MemPlace), cs.length = sz ∧ (∀ j u, cs[j]? = some u → W.cell? ⟨b, o + i * sz + j, none⟩ = some u) ∧ DataW.trod enc Tryz.prog W base sp held m e cs = some z) := by
  rcases open_slice ht h with ⟨hcs, _⟩ | ⟨a, len, cap, m, k, D, Pl, hcs, hb, hl, hm, hmm, hx, hi⟩
  · simp only [List.cons.injEq, and_true] at hcs
    subst hcs
    exact ⟨none, 0, 0, rfl, by simp, .inl rfl⟩
  · simp only [List.cons.injEq, and_true] at hcs
    subst hcs
    refine ⟨some a, len, cap, rfl, by omega, ?_⟩
    rcases Nat.eq_zero_or_pos len with h0 | h0
    · exact .inl h0
    · right
      have hmle : len ≤ m := by rw [hmm]; split <;> omega
      have key : ∀ i, i < len → ∃ (cs : List Value) (z : DataW H × List MemPlace), cs.length = sz ∧ (∀ j u, cs[j]? = some u → W.cell? (a.add (i * sz + j)) = some u) ∧ DataW.trod enc Tryz.prog W base sp held k e cs = some z := by
        intro i hil
        obtain ⟨cs', hc, ht'⟩ := hi i (by omega)
        rw [hC] at hc
        obtain ⟨_, hcl, hat⟩ := World.cells?_some hc
        refine ⟨cs', _, by omega, fun j u hj => ?_, ht'⟩
        have hjl : j < cs'.length := (List.getElem?_eq_some_iff.1 hj).1
        rw [← Go.Deep.add_add, hat j (by omega), hj]
      obtain ⟨cs0, -, hl0, h00, -⟩ := key 0 h0
      have hc0 : W.cell? (a.add (0 * sz + 0)) = some (cs0[0]'(by omega)) := h00 0 _ (List.getElem?_eq_getElem (by omega))
      obtain ⟨b, off, spot⟩ := a
      have hc0' : W.cell? (⟨b, off, spot⟩ : Addr) = some (cs0[0]'(by omega)) := by simpa [Addr.add] using hc0
      have hspot : spot = none := by simpa using World.cell?_spot hc0'
      subst hspot
      have hp : ∀ j, (⟨b, off, none⟩ : Addr).add j = ⟨b, off + j, none⟩ := fun j => Go.WideShapes.add_plain _ _ _
      refine ⟨b, off, rfl, cell_lt hc0', fun i hil => ?_⟩
      obtain ⟨cs, z, h1, h2, h3⟩ := key i hil
      exact ⟨cs, k, z, h1, fun j u hj => by have := h2 j u hj; rw [hp] at this; rw [show off + i * sz + j = off + (i * sz + j) from by omega]; exact this, h3⟩
end
end Go.Proofs.YtgjnlgcdpbilfaaGreatDoor
namespace Go.Proofs.YtgjnlgcdpbilfaaGreatDoor
open Go.Joins Go.ChangeShapes Go.WideShapes Go.RowKit Go.Deep
set_option linter.unusedVariables false
set_option linter.unusedSimpArgs false
theorem list_of {α : Type} {n : Nat} {Q : Nat → α → Prop} (h : ∀ i, i < n → ∃ x, Q i x) : ∃ L : List α, L.length = n ∧ ∀ i (hi : i < L.length), Q i L[i] := by
  induction n with
  | zero => exact ⟨[], rfl, fun i hi => absurd hi (by simp)⟩
  | succ n ih =>
    obtain ⟨L, hl, hL⟩ := ih fun i hi => h i (by omega)
    obtain ⟨x, hx⟩ := h n (by omega)
    refine ⟨L ++ [x], by simp [hl], fun i hi => ?_⟩
    by_cases e : i < L.length
    · rw [List.getElem_append_left e]; exact hL i e
    · have : i = n := by simp at hi; omega
      subst this
      rw [List.getElem_append_right (by omega)]
      simp [hl]
      exact hx
section
variable {H : Type} {enc : TypeId × Value → H} {W : World} {base n : Nat} {sp : Nat → Bool} {held : Bool} {v : Value} {y : DataW H × List MemPlace}

set_option maxRecDepth 100000 in
theorem trod_prt {cs : List Value} (h : DataW.trod enc Tryz.prog W base sp held n 79 cs = some y) : ∃ x : Prt, cs = x.cs ∧ PrtOk x := by
  obtain ⟨xs, m, _, _, hc, hx, hg⟩ := DataW.trod_struct Tryz.underlying79 h
  have hl : cs.length = 2 := hc.trans (by kernel_rfl)
  have h0 := hg 0 _ rfl
  have h1 := hg 1 _ rfl
  have hxl : xs.length = 2 := hx
  match cs, hl, xs, hxl with
  | [c0, c1], _, [y0, y1], _ =>
    obtain ⟨a, e0, -, wa⟩ := DataW.trod_int (x := y0) Tryz.underlying3 (by simpa [int_cells] using h0)
    obtain ⟨b, e1, -, wb⟩ := DataW.trod_int (x := y1) Tryz.underlying3 (by simpa [int_cells] using h1)
    simp only [List.cons.injEq, and_true] at e0 e1
    subst e0 e1
    exact ⟨⟨a, b⟩, rfl, wa, wb⟩
end
end Go.Proofs.YtgjnlgcdpbilfaaGreatDoor
namespace Go.Proofs.YtgjnlgcdpbilfaaGreatDoor
open Go.Joins Go.ChangeShapes Go.WideShapes Go.RowKit Go.Deep
set_option linter.unusedVariables false
set_option linter.unusedSimpArgs false
section
variable {H : Type} {enc : TypeId × Value → H} {W : World} {base n : Nat} {sp : Nat → Bool} {held : Bool} {v : Value} {y : DataW H × List MemPlace}
theorem stk_cells : Tryz.prog.cellsOf 64 = 5 := by kernel_rfl
theorem trod_cap {t e : TypeId} (ht : Tryz.prog.underlying t = some (.slice e)) (h : DataW.trod enc Tryz.prog W base sp held n t [v] = some y) : CapOk v := by
  rcases open_slice ht h with ⟨hcs, _⟩ | ⟨a, len, cap, m, k, D, Pl, hcs, hb, hl, hm, hmm, hx, hi⟩
  · simp only [List.cons.injEq, and_true] at hcs
    subst hcs
    intro a n c e; cases e; omega
  · simp only [List.cons.injEq, and_true] at hcs
    subst hcs
    intro a n c e; cases e; exact hl
set_option maxRecDepth 100000 in
theorem trod_stk {cs : List Value} (h : DataW.trod enc Tryz.prog W base sp held n 64 cs = some y) : ∃ s : Stk, cs = s.cs ∧ StkOk s := by
  obtain ⟨xs, m, _, _, hc, hx, hg⟩ := DataW.trod_struct Tryz.underlying64 h
  have hl : cs.length = 5 := hc.trans (by kernel_rfl)
  have cs9 : Tryz.prog.cellsOf 9 = 1 := by kernel_rfl
  have h0 := hg 0 _ rfl
  have h1 := hg 1 _ rfl
  have h2 := hg 2 _ rfl
  have h3 := hg 3 _ rfl
  have h4 := hg 4 _ rfl
  have hxl : xs.length = 5 := hx
  match cs, hl, xs, hxl with
  | [c0, c1, c2, c3, c4], _, [y0, y1, y2, y3, y4], _ =>
    obtain ⟨nm, e0, -, hs⟩ := DataW.trod_string (x := y0) Tryz.underlying9 (by simpa [int_cells, cs9] using h0)
    obtain ⟨l, e1, -, wl⟩ := DataW.trod_int (x := y1) Tryz.underlying3 (by simpa [int_cells, cs9] using h1)
    obtain ⟨t, e2, -, wt⟩ := DataW.trod_int (x := y2) Tryz.underlying3 (by simpa [int_cells, cs9] using h2)
    obtain ⟨a, e3, -, wa⟩ := DataW.trod_int (x := y3) Tryz.underlying3 (by simpa [int_cells, cs9] using h3)
    obtain ⟨b, e4, -, wb⟩ := DataW.trod_int (x := y4) Tryz.underlying3 (by simpa [int_cells, cs9] using h4)
    simp only [List.cons.injEq, and_true] at e0 e1 e2 e3 e4
    subst e0 e1 e2 e3 e4
    exact ⟨⟨nm, l, t, a, b⟩, rfl, hs, wl, wt, wa, wb⟩
set_option maxRecDepth 100000 in
theorem trod_stks (h : DataW.trod enc Tryz.prog W base sp held n 28 [v] = some y) : ∃ l : List Stk, IsStks W v l ∧ ∀ x ∈ l, StkOk x := by
  have hcap := trod_cap Tryz.underlying28 h
  obtain ⟨a, l, c, rfl, hm, hx⟩ := trod_rows (sz := 5) Tryz.underlying28 stk_cells (by omega) h
  rcases hx with rfl | ⟨b, o, rfl, hb, hi⟩
  · exact ⟨[], ⟨⟨a, c, rfl, hm, .inl rfl⟩, hcap⟩, by simp⟩
  · have key : ∀ i, i < l → ∃ x : Stk, (∀ j, j < 5 → W.cell? ⟨b, o + i * 5 + j, none⟩ = some (x.c j)) ∧ StkOk x := by
      intro i hil
      obtain ⟨cs, m, z, hl, hc, ht⟩ := hi i hil
      obtain ⟨x, rfl, hok⟩ := trod_stk ht
      refine ⟨x, fun j hj => ?_, hok⟩
      match j, hj with
      | 0, _ => exact hc 0 _ rfl
      | 1, _ => exact hc 1 _ rfl
      | 2, _ => exact hc 2 _ rfl
      | 3, _ => exact hc 3 _ rfl
      | 4, _ => exact hc 4 _ rfl
    obtain ⟨L, hL, hP⟩ := list_of key
    refine ⟨L, ⟨⟨some ⟨b, o, none⟩, c, by rw [hL], by rw [hL]; exact hm, .inr ⟨b, o, rfl, hb, fun i j hi hj => ?_⟩⟩, hcap⟩, fun x hx => ?_⟩
    · show _ = some ((L.getD i default).c j)
      rw [getD_at _ _ hi]
      exact (hP i hi).1 j hj
    · obtain ⟨i, hi, rfl⟩ := List.getElem_of_mem hx
      exact (hP i hi).2
end
end Go.Proofs.YtgjnlgcdpbilfaaGreatDoor
namespace Go.Proofs.YtgjnlgcdpbilfaaGreatDoor
open Go.Joins Go.ChangeShapes Go.WideShapes Go.RowKit Go.Deep
set_option linter.unusedVariables false
set_option linter.unusedSimpArgs false
theorem cellsPlan : Tryz.prog.cellsOf 27 = 9 := by kernel_rfl
theorem cellsElem : Tryz.prog.cellsOf 85 = 3 := by kernel_rfl
theorem cellsJoin : Tryz.prog.cellsOf 100 = 4 := by kernel_rfl
theorem cellsSignal : Tryz.prog.cellsOf 81 = 4 := by kernel_rfl
theorem cellsLine : Tryz.prog.cellsOf 104 = 2 := by kernel_rfl
theorem cells1 : Tryz.prog.cellsOf 3 = 1 ∧ Tryz.prog.cellsOf 9 = 1 ∧ Tryz.prog.cellsOf 4 = 1 ∧ Tryz.prog.cellsOf 102 = 1 ∧ Tryz.prog.cellsOf 22 = 1 ∧ Tryz.prog.cellsOf 23 = 1 ∧ Tryz.prog.cellsOf 24 = 1 ∧ Tryz.prog.cellsOf 25 = 1 := by
  refine ⟨?_, ?_, ?_, ?_, ?_, ?_, ?_, ?_⟩ <;> kernel_rfl
section
variable {H : Type} {enc : TypeId × Value → H} {W : World} {base n : Nat} {sp : Nat → Bool} {held : Bool} {v : Value} {y : DataW H × List MemPlace}
set_option maxRecDepth 100000 in
theorem trod_ele {cs : List Value} (h : DataW.trod enc Tryz.prog W base sp held n 85 cs = some y) : ∃ e : Ele, cs = [.string e.n, .int .i64 e.k, .int .i64 e.l] ∧ I64 e.k ∧ I64 e.l ∧ e.n.size ≤ maxLen := by
  obtain ⟨xs, m, _, _, hc, hx, hg⟩ := DataW.trod_struct Tryz.underlying85 h
  have hl : cs.length = 3 := hc.trans cellsElem
  obtain ⟨ci, cstr, -⟩ := cells1
  have h0 := hg 0 _ rfl
  have h1 := hg 1 _ rfl
  have h2 := hg 2 _ rfl
  have hxl : xs.length = 3 := hx
  match cs, hl, xs, hxl with
  | [c0, c1, c2], _, [y0, y1, y2], _ =>
    obtain ⟨nm, e0, -, ws⟩ := DataW.trod_string (x := y0) Tryz.underlying9 (by simpa [cstr] using h0)
    obtain ⟨a, e1, -, wa⟩ := DataW.trod_int (x := y1) Tryz.underlying3 (by simpa [ci] using h1)
    obtain ⟨b, e2, -, wb⟩ := DataW.trod_int (x := y2) Tryz.underlying3 (by simpa [ci] using h2)
    simp only [List.cons.injEq, and_true] at e0 e1 e2
    subst e0 e1 e2
    exact ⟨⟨nm, a, b⟩, rfl, wa, wb, ws⟩
set_option maxRecDepth 100000 in
theorem trod_jn {cs : List Value} (h : DataW.trod enc Tryz.prog W base sp held n 100 cs = some y) : ∃ j : Jn, cs = [.int .i64 j.a.e, .int .i64 j.a.x, .int .i64 j.b.e, .int .i64 j.b.x] ∧ PrtOk j.a ∧ PrtOk j.b := by
  obtain ⟨xs, m, _, _, hc, hx, hg⟩ := DataW.trod_struct Tryz.underlying100 h
  have hl : cs.length = 4 := hc.trans cellsJoin
  have h0 := hg 0 _ rfl
  have h1 := hg 1 _ rfl
  have hxl : xs.length = 2 := hx
  match cs, hl, xs, hxl with
  | [c0, c1, c2, c3], _, [y0, y1], _ =>
    obtain ⟨a, e0, wa⟩ := trod_prt (y := y0) (cs := [c0, c1]) (by simpa [prt_cells] using h0)
    obtain ⟨b, e1, wb⟩ := trod_prt (y := y1) (cs := [c2, c3]) (by simpa [prt_cells] using h1)
    unfold Prt.cs at e0 e1
    simp only [List.cons.injEq, and_true] at e0 e1
    obtain ⟨rfl, rfl⟩ := e0
    obtain ⟨rfl, rfl⟩ := e1
    exact ⟨⟨a, b⟩, rfl, wa, wb⟩
set_option maxRecDepth 100000 in
theorem trod_sg {cs : List Value} (h : DataW.trod enc Tryz.prog W base sp held n 81 cs = some y) : ∃ s : Sg, cs = [.string s.n, .int .i64 s.at_.e, .int .i64 s.at_.x, .bool s.auto] ∧ PrtOk s.at_ ∧ s.n.size ≤ maxLen := by
  obtain ⟨xs, m, _, _, hc, hx, hg⟩ := DataW.trod_struct Tryz.underlying81 h
  have hl : cs.length = 4 := hc.trans cellsSignal
  obtain ⟨ci, cstr, cb, -⟩ := cells1
  have h0 := hg 0 _ rfl
  have h1 := hg 1 _ rfl
  have h2 := hg 2 _ rfl
  have hxl : xs.length = 3 := hx
  match cs, hl, xs, hxl with
  | [c0, c1, c2, c3], _, [y0, y1, y2], _ =>
    obtain ⟨nm, e0, -, ws⟩ := DataW.trod_string (x := y0) Tryz.underlying9 (by simpa [cstr] using h0)
    obtain ⟨a, e1, wa⟩ := trod_prt (y := y1) (cs := [c1, c2]) (by simpa [prt_cells] using h1)
    obtain ⟨b, e2, -⟩ := DataW.trod_bool (x := y2) Tryz.underlying4 (by simpa [cb] using h2)
    unfold Prt.cs at e1
    simp only [List.cons.injEq, and_true] at e0 e1 e2
    obtain ⟨rfl, rfl⟩ := e1
    subst e0 e2
    exact ⟨⟨nm, a, b⟩, rfl, wa, ws⟩
set_option maxRecDepth 100000 in
theorem trod_ln {cs : List Value} (h : DataW.trod enc Tryz.prog W base sp held n 104 cs = some y) : ∃ (l : Ln) (u : Value), cs = [.string l.n, u] ∧ IsVals W u (l.es.map (Value.int .i64)) ∧ l.n.size ≤ maxLen ∧ ∀ e ∈ l.es, I64 e := by
  obtain ⟨xs, m, _, _, hc, hx, hg⟩ := DataW.trod_struct Tryz.underlying104 h
  have hl : cs.length = 2 := hc.trans cellsLine
  obtain ⟨ci, cstr, cb, cs1, -⟩ := cells1
  have h0 := hg 0 _ rfl
  have h1 := hg 1 _ rfl
  have hxl : xs.length = 2 := hx
  match cs, hl, xs, hxl with
  | [c0, c1], _, [y0, y1], _ =>
    obtain ⟨nm, e0, -, ws⟩ := DataW.trod_string (x := y0) Tryz.underlying9 (by simpa [cstr] using h0)
    obtain ⟨zs, hz, wz⟩ := trod_ints (y := y1) (v := c1) (by simpa [cs1] using h1)
    simp only [List.cons.injEq, and_true] at e0
    subst e0
    exact ⟨⟨nm, zs⟩, c1, rfl, hz, ws, wz⟩
theorem trod_rowL {α : Type} {t e : TypeId} {sz : Nat} {C : α → Nat → Value} {Q : α → Prop} (ht : Tryz.prog.underlying t = some (.slice e)) (hC : Tryz.prog.cellsOf e = sz) (hs : 0 < sz) (h : DataW.trod enc Tryz.prog W base sp held n t [v] = some y)
    (hel : ∀ (cs : List Value) (m : Nat) (z : DataW H × List MemPlace), DataW.trod enc Tryz.prog W base sp held m e cs = some z → ∃ x : α, (∀ j, j < sz → cs[j]? = some (C x j)) ∧ Q x) :
    ∃ L : List α, (∀ x ∈ L, Q x) ∧ ∀ (D : Nat → Nat → Value), (∀ i j (hi : i < L.length), D i j = C L[i] j) → IsRow W v sz L.length D := by
  obtain ⟨a, l, c, rfl, hm, hx⟩ := trod_rows ht hC hs h
  rcases hx with rfl | ⟨b, o, rfl, hb, hi⟩
  · exact ⟨[], by simp, fun D _ => ⟨a, c, rfl, hm, .inl rfl⟩⟩
  · have key : ∀ i, i < l → ∃ x : α, (∀ j, j < sz → W.cell? ⟨b, o + i * sz + j, none⟩ = some (C x j)) ∧ Q x := by
      intro i hil
      obtain ⟨cs, m, z, hl, hc, ht'⟩ := hi i hil
      obtain ⟨x, hx, hq⟩ := hel cs m z ht'
      exact ⟨x, fun j hj => hc j _ (hx j hj), hq⟩
    obtain ⟨L, hL, hP⟩ := list_of key
    refine ⟨L, fun x hx => ?_, fun D hD => ⟨some ⟨b, o, none⟩, c, by rw [hL], by rw [hL]; exact hm, .inr ⟨b, o, rfl, hb, fun i j hi hj => ?_⟩⟩⟩
    · obtain ⟨i, hi, rfl⟩ := List.getElem_of_mem hx
      exact (hP i hi).2
    · rw [hD i j hi]; exact (hP i hi).1 j hj
end
set_option maxRecDepth 100000 in
theorem open_pln {H : Type} {enc : TypeId × Value → H} {W : World} {r : Reach} {b0 base : Nat} {sp : Nat → Bool} {held : Bool} {v : Value} {d : DataW H} {p : List MemPlace}
    (hv : Value.okWide Tryz.prog W r b0 27 v) (h : DataW.Trod enc Tryz.prog W base sp held 27 v d p) (_lt : ∀ x ∈ p, x.block < W.heap.size) :
    ∃ P : Pln, IsPln W v P ∧ PlnOk P := by
  obtain ⟨cs, rfl, hsz⟩ := okWide_struct Tryz.underlying27 hv
  obtain ⟨l⟩ := cs
  obtain ⟨ci, cstr, cb, c28, c1, c2, c3, c4⟩ := cells1
  match l, hsz.trans cellsPlan with
  | [v0, v1, v2, v3, v4, v5, v6, v7, v8], _ =>
    obtain ⟨fuel, hf⟩ := h
    obtain ⟨xs, n, _, hx, _, hlen, hg⟩ := DataW.trod_struct Tryz.underlying27 hf
    have h0 := hg 0 _ rfl
    have h1 := hg 1 _ rfl
    have h2 := hg 2 _ rfl
    have h3 := hg 3 _ rfl
    have h4 := hg 4 _ rfl
    have h5 := hg 5 _ rfl
    have h6 := hg 6 _ rfl
    have h7 := hg 7 _ rfl
    have h8 := hg 8 _ rfl
    match xs, hlen with
    | [y0, y1, y2, y3, y4, y5, y6, y7, y8], _ =>
      obtain ⟨E, hE, kE⟩ := trod_rowL (C := fun (e : Ele) j => e.c j) (Q := fun e => I64 e.k ∧ I64 e.l ∧ e.n.size ≤ maxLen) (y := y0) (v := v0) Tryz.underlying22 cellsElem (by omega) (by simpa [Value.cells, c1] using h0) (fun cs m z hz => by
        obtain ⟨e, rfl, q⟩ := trod_ele hz
        exact ⟨e, fun j hj => by match j, hj with | 0, _ => rfl | 1, _ => rfl | 2, _ => rfl, q⟩)
      obtain ⟨J, hJ, kJ⟩ := trod_rowL (C := fun (e : Jn) j => e.c j) (Q := fun e => PrtOk e.a ∧ PrtOk e.b) (y := y1) (v := v1) Tryz.underlying23 cellsJoin (by omega) (by simpa [Value.cells, c2] using h1) (fun cs m z hz => by
        obtain ⟨e, rfl, q⟩ := trod_jn hz
        exact ⟨e, fun j hj => by match j, hj with | 0, _ => rfl | 1, _ => rfl | 2, _ => rfl | 3, _ => rfl, q⟩)
      obtain ⟨S, hS, kS⟩ := trod_rowL (C := fun (e : Sg) j => e.c j) (Q := fun e => PrtOk e.at_ ∧ e.n.size ≤ maxLen) (y := y2) (v := v2) Tryz.underlying24 cellsSignal (by omega) (by simpa [Value.cells, c3] using h2) (fun cs m z hz => by
        obtain ⟨e, rfl, q⟩ := trod_sg hz
        exact ⟨e, fun j hj => by match j, hj with | 0, _ => rfl | 1, _ => rfl | 2, _ => rfl | 3, _ => rfl, q⟩)
      obtain ⟨L, hL, kL⟩ := trod_rowL (C := fun (e : Ln × Value) j => if j = 0 then .string e.1.n else e.2) (Q := fun e => IsVals W e.2 (e.1.es.map (Value.int .i64)) ∧ e.1.n.size ≤ maxLen ∧ ∀ x ∈ e.1.es, I64 x) (y := y3) (v := v3) Tryz.underlying25 cellsLine (by omega) (by simpa [Value.cells, c4] using h3) (fun cs m z hz => by
        obtain ⟨e, u, rfl, q⟩ := trod_ln hz
        exact ⟨(e, u), fun j hj => by match j, hj with | 0, _ => rfl | 1, _ => rfl, q⟩)
      obtain ⟨n4, e4, -, w4⟩ := DataW.trod_int (x := y4) Tryz.underlying3 (by simpa [Value.cells, ci] using h4)
      obtain ⟨n5, e5, -, w5⟩ := DataW.trod_int (x := y5) Tryz.underlying3 (by simpa [Value.cells, ci] using h5)
      obtain ⟨n6, e6, -, w6⟩ := DataW.trod_int (x := y6) Tryz.underlying3 (by simpa [Value.cells, ci] using h6)
      obtain ⟨n7, e7, -, w7⟩ := DataW.trod_int (x := y7) Tryz.underlying3 (by simpa [Value.cells, ci] using h7)
      obtain ⟨n8, e8, -⟩ := DataW.trod_bool (x := y8) Tryz.underlying4 (by simpa [Value.cells, cb] using h8)
      simp only [List.cons.injEq, and_true] at e4 e5 e6 e7 e8
      subst e4 e5 e6 e7 e8
      have rE : IsEles W v0 E := kE _ (fun i j hi => by rw [getD_at _ _ hi])
      have rJ : IsJns W v1 J := kJ _ (fun i j hi => by rw [getD_at _ _ hi])
      have rS : IsSgs W v2 S := kS _ (fun i j hi => by rw [getD_at _ _ hi])
      have rL : IsLns W v3 (L.map (·.1)) := by
        refine ⟨fun i => (L.getD i (default, .slice none 0 0)).2, ?_, fun i hi => ?_⟩
        · have := kL (fun i j => if j = 0 then .string ((L.map (fun z : Ln × Value => z.1)).getD i default).n else (L.getD i (default, .slice none 0 0)).2) (fun i j hi => by
            have e1 : (L.map (·.1)).getD i default = L[i].1 := by rw [List.getD_eq_getElem?_getD, List.getElem?_map, List.getElem?_eq_getElem hi]; rfl
            have e2 : L.getD i (default, .slice none 0 0) = L[i] := by rw [List.getD_eq_getElem?_getD, List.getElem?_eq_getElem hi]; rfl
            rw [e1, e2])
          simpa using this
        · have hi' : i < L.length := by simpa using hi
          have e1 : (L.map (·.1)).getD i default = L[i].1 := by rw [List.getD_eq_getElem?_getD, List.getElem?_map, List.getElem?_eq_getElem hi']; rfl
          have e2 : L.getD i (default, .slice none 0 0) = L[i] := by rw [List.getD_eq_getElem?_getD, List.getElem?_eq_getElem hi']; rfl
          show IsVals W (L.getD i (default, .slice none 0 0)).2 _
          rw [e1, e2]
          exact (hL _ (List.getElem_mem hi')).1
      obtain ⟨a1, q1, rfl, -⟩ := id rE
      obtain ⟨a2, q2, rfl, -⟩ := id rJ
      obtain ⟨a3, q3, rfl, -⟩ := id rS
      obtain ⟨_, ⟨a4, q4, rfl, -⟩, -⟩ := id rL
      refine ⟨⟨E, J, S, L.map (·.1), n4, n5, n6, n7, n8⟩, ⟨a1, q1, a2, q2, a3, q3, a4, q4, rfl, rE, rJ, rS, rL⟩, hE, fun j hj => ?_, fun s hs => ?_, fun x hx => ?_, w4, w5, w6, w7⟩
      · have := hJ j hj; exact ⟨this.1.1, this.1.2, this.2.1, this.2.2⟩
      · have := hS s hs; exact ⟨this.1.1, this.1.2, this.2⟩
      · obtain ⟨z, hz, rfl⟩ := List.mem_map.1 hx
        exact (hL z hz).2
end Go.Proofs.YtgjnlgcdpbilfaaGreatDoor
namespace Go.Proofs.YtgjnlgcdpbilfaaGreatDoor
open Go.Joins Go.ChangeShapes Go.WideShapes Go.RowKit Go.Deep
set_option linter.unusedVariables false
set_option linter.unusedSimpArgs false
theorem cellsLeg : Tryz.prog.cellsOf 54 = 4 := by kernel_rfl
theorem cellsRun : Tryz.prog.cellsOf 51 = 5 := by kernel_rfl
theorem cellsDgm : Tryz.prog.cellsOf 31 = 3 := by kernel_rfl
theorem cellsM : Tryz.prog.cellsOf 49 = 1 ∧ Tryz.prog.cellsOf 29 = 1 ∧ Tryz.prog.cellsOf 28 = 1 := by
  refine ⟨?_, ?_, ?_⟩ <;> kernel_rfl
section
variable {H : Type} {enc : TypeId × Value → H} {W : World} {base n : Nat} {sp : Nat → Bool} {held : Bool} {v : Value} {y : DataW H × List MemPlace}
set_option maxRecDepth 100000 in
theorem trod_leg {cs : List Value} (h : DataW.trod enc Tryz.prog W base sp held n 54 cs = some y) : ∃ l : Leg, cs = l.cs ∧ LegOk l := by
  obtain ⟨xs, m, _, _, hc, hx, hg⟩ := DataW.trod_struct Tryz.underlying54 h
  have hl : cs.length = 4 := hc.trans cellsLeg
  obtain ⟨ci, cstr, cb, -⟩ := cells1
  have h0 := hg 0 _ rfl
  have h1 := hg 1 _ rfl
  have h2 := hg 2 _ rfl
  have h3 := hg 3 _ rfl
  have hxl : xs.length = 4 := hx
  match cs, hl, xs, hxl with
  | [c0, c1, c2, c3], _, [y0, y1, y2, y3], _ =>
    obtain ⟨t, e0, -⟩ := DataW.trod_bool (x := y0) Tryz.underlying4 (by simpa [cb, ci] using h0)
    obtain ⟨a, e1, -, wa⟩ := DataW.trod_int (x := y1) Tryz.underlying3 (by simpa [cb, ci] using h1)
    obtain ⟨b, e2, -, wb⟩ := DataW.trod_int (x := y2) Tryz.underlying3 (by simpa [cb, ci] using h2)
    obtain ⟨c, e3, -, wc⟩ := DataW.trod_int (x := y3) Tryz.underlying3 (by simpa [cb, ci] using h3)
    simp only [List.cons.injEq, and_true] at e0 e1 e2 e3
    subst e0 e1 e2 e3
    exact ⟨⟨t, a, b, c⟩, rfl, wa, wb, wc⟩
theorem trod_legs (h : DataW.trod enc Tryz.prog W base sp held n 49 [v] = some y) : ∃ l : List Leg, IsLegs W v l ∧ ∀ x ∈ l, LegOk x := by
  obtain ⟨L, hL, kL⟩ := trod_rowL (C := fun (e : Leg) j => e.c j) (Q := fun e => LegOk e) Tryz.underlying49 cellsLeg (by omega) h (fun cs m z hz => by
    obtain ⟨e, rfl, q⟩ := trod_leg hz
    exact ⟨e, fun j hj => by match j, hj with | 0, _ => rfl | 1, _ => rfl | 2, _ => rfl | 3, _ => rfl, q⟩)
  exact ⟨L, ⟨kL _ (fun i j hi => by rw [getD_at _ _ hi]), trod_cap Tryz.underlying49 h⟩, hL⟩
set_option maxRecDepth 100000 in
theorem trod_rn {cs : List Value} (h : DataW.trod enc Tryz.prog W base sp held n 51 cs = some y) : ∃ (r : Rn) (u : Value), cs = r.cs u ∧ IsLegs W u r.legs ∧ RnOk r := by
  obtain ⟨xs, m, _, _, hc, hx, hg⟩ := DataW.trod_struct Tryz.underlying51 h
  have hl : cs.length = 5 := hc.trans cellsRun
  obtain ⟨ci, cstr, cb, -⟩ := cells1
  obtain ⟨cl, -⟩ := cellsM
  have h0 := hg 0 _ rfl
  have h1 := hg 1 _ rfl
  have h2 := hg 2 _ rfl
  have h3 := hg 3 _ rfl
  have h4 := hg 4 _ rfl
  have hxl : xs.length = 5 := hx
  match cs, hl, xs, hxl with
  | [c0, c1, c2, c3, c4], _, [y0, y1, y2, y3, y4], _ =>
    obtain ⟨nm, e0, -, ws⟩ := DataW.trod_string (x := y0) Tryz.underlying9 (by simpa [cstr, ci, cl] using h0)
    obtain ⟨a, e1, -, wa⟩ := DataW.trod_int (x := y1) Tryz.underlying3 (by simpa [cstr, ci, cl] using h1)
    obtain ⟨b, e2, -, wb⟩ := DataW.trod_int (x := y2) Tryz.underlying3 (by simpa [cstr, ci, cl] using h2)
    obtain ⟨c, e3, -, wc⟩ := DataW.trod_int (x := y3) Tryz.underlying3 (by simpa [cstr, ci, cl] using h3)
    obtain ⟨L, hL, wL⟩ := trod_legs (y := y4) (v := c4) (by simpa [cstr, ci, cl] using h4)
    simp only [List.cons.injEq, and_true] at e0 e1 e2 e3
    subst e0 e1 e2 e3
    exact ⟨⟨nm, a, b, c, L⟩, c4, rfl, hL, ws, wa, wb, wc, wL⟩
theorem trod_runs (h : DataW.trod enc Tryz.prog W base sp held n 29 [v] = some y) : ∃ l : List Rn, IsRuns W v l ∧ ∀ x ∈ l, RnOk x := by
  obtain ⟨L, hL, kL⟩ := trod_rowL (C := fun (e : Rn × Value) j => e.1.c e.2 j) (Q := fun e => IsLegs W e.2 e.1.legs ∧ RnOk e.1) Tryz.underlying29 cellsRun (by omega) h (fun cs m z hz => by
    obtain ⟨e, u, rfl, q⟩ := trod_rn hz
    exact ⟨(e, u), fun j hj => by match j, hj with | 0, _ => rfl | 1, _ => rfl | 2, _ => rfl | 3, _ => rfl | 4, _ => rfl, q⟩)
  have e1 : ∀ i (hi : i < L.length), (L.map (·.1)).getD i default = L[i].1 := fun i hi => by rw [List.getD_eq_getElem?_getD, List.getElem?_map, List.getElem?_eq_getElem hi]; rfl
  have e2 : ∀ i (hi : i < L.length), L.getD i (default, .slice none 0 0) = L[i] := fun i hi => by rw [List.getD_eq_getElem?_getD, List.getElem?_eq_getElem hi]; rfl
  refine ⟨L.map (·.1), ⟨⟨fun i => (L.getD i (default, .slice none 0 0)).2, ?_, fun i hi => ?_⟩, trod_cap Tryz.underlying29 h⟩, fun x hx => ?_⟩
  · have := kL (fun i j => ((L.map (fun z : Rn × Value => z.1)).getD i default).c (L.getD i (default, .slice none 0 0)).2 j) (fun i j hi => by rw [e1 i hi, e2 i hi])
    simpa using this
  · have hi' : i < L.length := by simpa using hi
    show IsLegs W (L.getD i (default, .slice none 0 0)).2 _
    rw [e1 i hi', e2 i hi']
    exact (hL _ (List.getElem_mem hi')).1
  · obtain ⟨z, hz, rfl⟩ := List.mem_map.1 hx
    exact (hL z hz).2
end
set_option maxRecDepth 100000 in
theorem open_dgm {H : Type} {enc : TypeId × Value → H} {W : World} {r : Reach} {b0 base : Nat} {sp : Nat → Bool} {held : Bool} {v : Value} {d : DataW H} {p : List MemPlace}
    (hv : Value.okWide Tryz.prog W r b0 31 v) (h : DataW.Trod enc Tryz.prog W base sp held 31 v d p) (_lt : ∀ x ∈ p, x.block < W.heap.size) :
    ∃ D : Dgm, IsDgm W v D ∧ DgmOk D := by
  obtain ⟨cs, rfl, hsz⟩ := okWide_struct Tryz.underlying31 hv
  obtain ⟨l⟩ := cs
  obtain ⟨ci, -⟩ := cells1
  obtain ⟨-, cr, cs⟩ := cellsM
  match l, hsz.trans cellsDgm with
  | [v0, v1, v2], _ =>
    obtain ⟨fuel, hf⟩ := h
    obtain ⟨xs, n, _, hx, _, hlen, hg⟩ := DataW.trod_struct Tryz.underlying31 hf
    have h0 := hg 0 _ rfl
    have h1 := hg 1 _ rfl
    have h2 := hg 2 _ rfl
    match xs, hlen with
    | [y0, y1, y2], _ =>
      obtain ⟨n0, e0, -, w0⟩ := DataW.trod_int (x := y0) Tryz.underlying3 (by simpa [Value.cells, ci] using h0)
      obtain ⟨S, hS, kS⟩ := trod_stks (y := y1) (v := v1) (by simpa [Value.cells, ci, cs] using h1)
      obtain ⟨R, hR, kR⟩ := trod_runs (y := y2) (v := v2) (by simpa [Value.cells, ci, cs, cr] using h2)
      simp only [List.cons.injEq, and_true] at e0
      subst e0
      exact ⟨⟨n0, S, R⟩, IsDgm.of (D := ⟨n0, S, R⟩) hS hR, w0, kS, kR⟩
end Go.Proofs.YtgjnlgcdpbilfaaGreatDoor
