/- DgD: The reference's legs.
DgG: The reference's Check of a timetable.
DgY: Timetables with fewer runs or legs, with later legs, with none: what Check and Last answer, how many lines there are. Plain.
DgCp: Copies of runs: what a copied row holds, and how it changes. No walk.
CrdP: From a row's listed tables to what the contracts ask of a world ('Tabs'). -/
import Derived.Test.YtgjnlgcdpbilfaaGreatDoorRows
import Derived.Test.YtgjnlgcdpbilfaaGreatDoorB12
import Derived.Test.YtgjnlgcdpbilfaaGreatDoorB13
import Derived.Test.YtgjnlgcdpbilfaaGreatDoorB1
import Derived.Test.YtgjnlgcdpbilfaaGreatDoorB11
import Derived.Test.YtgjnlgcdpbilfaaGreatDoorB9
import Derived.Test.YtgjnlgcdpbilfaaGreatDoorB7
import Derived.Test.YtgjnlgcdpbilfaaGreatDoorB8
import Derived.Stop.LaidErr
import Derived.Lay
import Derived.LaidMore
import Derived.Lib.LaidU8
namespace Go.Proofs.YtgjnlgcdpbilfaaGreatDoor
open Go.ChangeShapes Go.WideShapes Go.ChangeAt Go.RowKit Go.Maps
set_option linter.unusedVariables false
set_option linter.unusedSimpArgs false
set_option maxRecDepth 100000 in
set_option maxHeartbeats 2000000 in
theorem refLegs_any (pv v : Value) (P : Pln) (L : List Leg) (w : World) (hP : IsPln w pv P) (hL : IsLegs w v L) :
    Calls Tryz.prog 39 #[pv, v] w fun e w' => e = .returned (.bool (legsB P 0 L)) ∧ Gr w w' := by
  have HPI := Lib.hid hP
  have HLG := Lib.hid hL
  obtain ⟨a1, c1, a2, c2, a3, c3, a4, c4, rfl, -, -, h3, -⟩ := hP
  have hm3 := IsRow.len h3
  obtain ⟨la, lc, rfl, hlm, -⟩ := hL.form
  unfold maxLen at hm3 hlm
  have g0 : Gr w (w.alloc (.cells #[.slice a1 P.es.length c1, .slice a2 P.js.length c2, .slice a3 P.ss.length c3, .slice a4 P.ls.length c4, .int .i64 P.top, .int .i64 P.brake, .int .i64 P.margin, .int .i64 P.throw, .bool P.hard] 27)) := (Gr.refl _).alloc _
  have HB := Lib.hid (fun (w' : World) (g : Gr (w.alloc (.cells #[.slice a1 P.es.length c1, .slice a2 P.js.length c2, .slice a3 P.ss.length c3, .slice a4 P.ls.length c4, .int .i64 P.top, .int .i64 P.brake, .int .i64 P.margin, .int .i64 P.throw, .bool P.hard] 27)) w') => (PBox.new w P (.slice a1 P.es.length c1) (.slice a2 P.js.length c2) (.slice a3 P.ss.length c3) (.slice a4 P.ls.length c4)).gr g)
  generalize hR : legsB P 0 L = R
  have HRL := Lib.hid hR
  unfold plnV at HPI ⊢
  clear hL h3 hR
  go_enter Tryz.func39, Tryz.ntmps39
  go_wp2_with fail
  go_loopw [5, 10] (fun x y wr => ∃ (k : Nat) (a : Int), x = .int .i64 a ∧ y = .int .i64 k ∧ k ≤ L.length ∧ Gr (w.alloc (.cells #[.slice a1 P.es.length c1, .slice a2 P.js.length c2, .slice a3 P.ss.length c3, .slice a4 P.ls.length c4, .int .i64 P.top, .int .i64 P.brake, .int .i64 P.margin, .int .i64 P.throw, .bool P.hard] 27)) wr ∧ Hid (LegK P L k a)) (fun _ y _ => L.length - (intOf y).toNat)
  case atStart => exact ⟨0, 0, rfl, rfl, Nat.zero_le _, Gr.refl _, LegK.start P L⟩
  case round =>
    obtain ⟨k, a, rfl, rfl, hk, g, HA⟩ := hrel
    have gw := g0.trans g
    by_cases hlt : k < L.length
    · have hk1 : (k : Int) < (L.length : Int) := by omega
      obtain ⟨bb, o, hs, z, y0, y1, y2, y3⟩ := (HLG.out.gr gw).at k hlt
      subst hs
      obtain ⟨zb, p0, p1, p2, p3, p4, p5, p6, p7, p8⟩ := HB.out _ g
      have HNo : Hid (winB L[k].at_ a 2000 = false ∨ legTo P L[k] = false → R = false) := fun h => HRL.out.symm.trans (HA.out.no hlt h)
      have HYe : Hid (winB L[k].at_ a 2000 = true → legTo P L[k] = true → LegK P L (k + 1) L[k].at_) := fun h1 h2 => HA.out.yes hlt h1 h2
      have HT : Hid (legTo P L[k] = if L[k].en = 1 then winB L[k].dst 0 ((P.ss.length : Int) - 1) else if L[k].en = 2 then decide (kindP P L[k].dst = 4) else if L[k].en = 3 then decide (kindP P L[k].dst = 1) else false) := rfl
      clear HA
      generalize legTo P L[k] = q at HNo HYe HT
      generalize L[k] = l at y0 y1 y2 y3 HNo HYe HT
      obtain ⟨tn, at_, en, tg⟩ := l
      dsimp only at y0 y1 y2 y3 HNo HYe HT
      have HW := Lib.hid (fun w' => within30_any at_ a 2000 w')
      have HV := Lib.hid (fun w' => within30_any tg 0 ((P.ss.length : Int) - 1) w')
      have HKD := Lib.hid (fun (w' : World) (g : Gr w w') => kindE2_any _ P tg w' (HPI.out.gr g))
      unfold plnV at HKD
      have zl : w.heap.size < wr.heap.size + 1 := by omega
      generalize winB at_ a 2000 = q1 at HW HNo HYe
      cases q1
      · have HF := Lib.hid (HNo.out (.inl rfl))
        clear HNo HYe HT
        go_wp2_with (first | (go_at_call 37; (with_reducible refine (HW.out _).mono ?_); rintro e w2 ⟨rfl, hq⟩; obtain rfl := hq.symm) | fail)
        (go_ret; exact ⟨ret_bool HF.out.symm, gw.alloc _⟩)
      replace HYe : Hid (q = true → LegK P L (k + 1) at_) := HYe.out rfl
      replace HNo : Hid (q = false → R = false) := fun h => HNo.out (.inr h)
      generalize winB tg 0 ((P.ss.length : Int) - 1) = q2 at HV HT
      generalize kindP P tg = K at HKD HT
      by_cases e1 : en = 1
      · have HT1 : Hid (q = q2) := by show _ = _; rw [HT.out, if_pos e1]
        subst e1
        cases q2
        · have HF := Lib.hid (HNo.out HT1.out)
          clear HNo HYe HT HT1
          go_wp2_with (first | (go_at_call 37; (with_reducible refine (HW.out _).mono ?_); rintro e w2 ⟨rfl, hq⟩; obtain rfl := hq.symm) | (go_at_call 37; (with_reducible refine (HV.out _).mono ?_); rintro e w2 ⟨rfl, hq⟩; obtain rfl := hq.symm) | fail)
          (go_ret; exact ⟨ret_bool HF.out.symm, gw.alloc _⟩)
        · have HK := Lib.hid (HYe.out HT1.out)
          clear HNo HYe HT HT1
          go_wp2_with (first | (go_at_call 37; (with_reducible refine (HW.out _).mono ?_); rintro e w2 ⟨rfl, hq⟩; obtain rfl := hq.symm) | (go_at_call 37; (with_reducible refine (HV.out _).mono ?_); rintro e w2 ⟨rfl, hq⟩; obtain rfl := hq.symm) | fail)
          (go_roundw; (case rel => exact ⟨k + 1, at_, rfl, by go_num, hlt, g.alloc _, HK.out⟩); (case measure => simp [intOf]; omega))
      have t1 : (en == 1) = false := beqF e1
      by_cases e2 : en = 2
      · have HT1 : Hid (q = decide (K = 4)) := by show _ = _; rw [HT.out, if_neg e1, if_pos e2]
        subst e2
        by_cases k4 : K = 4
        · have HK := Lib.hid (HYe.out (by rw [HT1.out, decide_eq_true k4]))
          have tk : (K != 4) = false := bneF k4
          clear HNo HYe HT HT1 k4
          go_wp2_with (first | (go_at_call 37; (with_reducible refine (HW.out _).mono ?_); rintro e w2 ⟨rfl, hq⟩; obtain rfl := hq.symm) | (go_at_call 74; (with_reducible refine (HKD.out _ (gw.alloc _)).mono ?_); rintro e w3 ⟨rfl, g3⟩) | fail)
          (go_roundw; (case rel => exact ⟨k + 1, at_, rfl, by go_num, hlt, (g.alloc _).trans g3, HK.out⟩); (case measure => simp [intOf]; omega))
        · have HF := Lib.hid (HNo.out (by rw [HT1.out, decide_eq_false k4]))
          have tk : (K != 4) = true := bneT k4
          clear HNo HYe HT HT1 k4
          go_wp2_with (first | (go_at_call 37; (with_reducible refine (HW.out _).mono ?_); rintro e w2 ⟨rfl, hq⟩; obtain rfl := hq.symm) | (go_at_call 74; (with_reducible refine (HKD.out _ (gw.alloc _)).mono ?_); rintro e w3 ⟨rfl, g3⟩) | fail)
          (go_ret; exact ⟨ret_bool HF.out.symm, (gw.alloc _).trans g3⟩)
      have t2 : (en == 2) = false := beqF e2
      by_cases e3 : en = 3
      · have HT1 : Hid (q = decide (K = 1)) := by show _ = _; rw [HT.out, if_neg e1, if_neg e2, if_pos e3]
        subst e3
        by_cases k4 : K = 1
        · have HK := Lib.hid (HYe.out (by rw [HT1.out, decide_eq_true k4]))
          have tk : (K != 1) = false := bneF k4
          clear HNo HYe HT HT1 k4
          go_wp2_with (first | (go_at_call 37; (with_reducible refine (HW.out _).mono ?_); rintro e w2 ⟨rfl, hq⟩; obtain rfl := hq.symm) | (go_at_call 74; (with_reducible refine (HKD.out _ (gw.alloc _)).mono ?_); rintro e w3 ⟨rfl, g3⟩) | fail)
          (go_roundw; (case rel => exact ⟨k + 1, at_, rfl, by go_num, hlt, (g.alloc _).trans g3, HK.out⟩); (case measure => simp [intOf]; omega))
        · have HF := Lib.hid (HNo.out (by rw [HT1.out, decide_eq_false k4]))
          have tk : (K != 1) = true := bneT k4
          clear HNo HYe HT HT1 k4
          go_wp2_with (first | (go_at_call 37; (with_reducible refine (HW.out _).mono ?_); rintro e w2 ⟨rfl, hq⟩; obtain rfl := hq.symm) | (go_at_call 74; (with_reducible refine (HKD.out _ (gw.alloc _)).mono ?_); rintro e w3 ⟨rfl, g3⟩) | fail)
          (go_ret; exact ⟨ret_bool HF.out.symm, (gw.alloc _).trans g3⟩)
      have t3 : (en == 3) = false := beqF e3
      have HF := Lib.hid (HNo.out (by rw [HT.out, if_neg e1, if_neg e2, if_neg e3]))
      clear HNo HYe HT e1 e2 e3
      go_wp2_with (first | (go_at_call 37; (with_reducible refine (HW.out _).mono ?_); rintro e w2 ⟨rfl, hq⟩; obtain rfl := hq.symm) | fail)
      (go_ret; exact ⟨ret_bool HF.out.symm, gw.alloc _⟩)
    · have hk1 : ¬ (k : Int) < (L.length : Int) := by omega
      have HF : Hid (R = true) := HRL.out.symm.trans (HA.out.done hlt)
      go_wp2_with fail
      (go_ret; exact ⟨ret_bool HF.out.symm, gw⟩)
end Go.Proofs.YtgjnlgcdpbilfaaGreatDoor
namespace Go.Proofs.YtgjnlgcdpbilfaaGreatDoor
open Go.ChangeShapes Go.WideShapes Go.ChangeAt Go.RowKit Go.Maps
set_option linter.unusedVariables false
set_option linter.unusedSimpArgs false
def restD (P : Pln) (D : Dgm) : Int := if checkS P.top P.brake D.st ≠ 0 then checkS P.top P.brake D.st else if winB D.beg 0 86399 = false then 1 else if D.runs.all (runB P D.st.length) = false then 1 else if twiceB (D.runs.map (·.nm)) then 4 else 0
theorem chkD_rest (P : Pln) (D : Dgm) : chkD P D = if (decide (8 < D.runs.length) || D.runs.any fun r => decide (12 < r.legs.length)) then 3 else restD P D := rfl
set_option maxRecDepth 100000 in
set_option maxHeartbeats 4000000 in
theorem refCheckD_any (pv v : Value) (P : Pln) (D : Dgm) (w : World) (hP : IsPln w pv P) (hD : IsDgm w v D) (hok : ∀ s ∈ D.st, s.nm.size ≤ maxLen) (hr : ∀ r ∈ D.runs, r.nm.size ≤ maxLen) :
    Calls Tryz.prog 14 #[pv, v] w fun e w' => e = .returned (.int .i64 (chkD P D)) ∧ Gr w w' := by
  have HPI := Lib.hid hP
  obtain ⟨a1, c1, a2, c2, a3, c3, a4, c4, rfl, -, -, h3, -⟩ := hP
  have hm3 := IsRow.len h3
  obtain ⟨s1, k1, s2, k2, rfl, hS, hR⟩ := hD
  have HRN := Lib.hid hR
  have hm : D.runs.length ≤ maxLen := by obtain ⟨_, _, _, h, _⟩ := hR.form; exact h
  have hms : D.st.length ≤ maxLen := by obtain ⟨_, _, _, h, _⟩ := hS.form; exact h
  have hcap : D.runs.length ≤ k2 := hR.2 _ _ _ rfl
  have g0 : Gr w ((w.alloc (.cells #[.slice a1 P.es.length c1, .slice a2 P.js.length c2, .slice a3 P.ss.length c3, .slice a4 P.ls.length c4, .int .i64 P.top, .int .i64 P.brake, .int .i64 P.margin, .int .i64 P.throw, .bool P.hard] 27)).alloc (.cells #[.int .i64 D.beg, .slice s1 D.st.length k1, .slice s2 D.runs.length k2] 31)) := ((Gr.refl _).alloc _).alloc _
  have HB := Lib.hid (fun (w' : World) (g : Gr ((w.alloc (.cells #[.slice a1 P.es.length c1, .slice a2 P.js.length c2, .slice a3 P.ss.length c3, .slice a4 P.ls.length c4, .int .i64 P.top, .int .i64 P.brake, .int .i64 P.margin, .int .i64 P.throw, .bool P.hard] 27)).alloc (.cells #[.int .i64 D.beg, .slice s1 D.st.length k1, .slice s2 D.runs.length k2] 31)) w') => (PBox.new w P (.slice a1 P.es.length c1) (.slice a2 P.js.length c2) (.slice a3 P.ss.length c3) (.slice a4 P.ls.length c4)).gr (((Gr.refl _).alloc _).trans g))
  have HDX : Hid (∀ w', Gr ((w.alloc (.cells #[.slice a1 P.es.length c1, .slice a2 P.js.length c2, .slice a3 P.ss.length c3, .slice a4 P.ls.length c4, .int .i64 P.top, .int .i64 P.brake, .int .i64 P.margin, .int .i64 P.throw, .bool P.hard] 27)).alloc (.cells #[.int .i64 D.beg, .slice s1 D.st.length k1, .slice s2 D.runs.length k2] 31)) w' → w.heap.size + 1 < w'.heap.size ∧ w'.cell? ⟨w.heap.size + 1, 0, none⟩ = some (.int .i64 D.beg) ∧ w'.cell? ⟨w.heap.size + 1, 1, none⟩ = some (.slice s1 D.st.length k1) ∧ w'.cell? ⟨w.heap.size + 1, 2, none⟩ = some (.slice s2 D.runs.length k2)) := fun w' g => by
    have hz : w.heap.size + 1 < (((w.alloc (.cells #[.slice a1 P.es.length c1, .slice a2 P.js.length c2, .slice a3 P.ss.length c3, .slice a4 P.ls.length c4, .int .i64 P.top, .int .i64 P.brake, .int .i64 P.margin, .int .i64 P.throw, .bool P.hard] 27)).alloc (.cells #[.int .i64 D.beg, .slice s1 D.st.length k1, .slice s2 D.runs.length k2] 31))).heap.size := by simp
    exact ⟨Nat.lt_of_lt_of_le hz g.size, (g.cell _ _ hz).trans (by go_simp), (g.cell _ _ hz).trans (by go_simp), (g.cell _ _ hz).trans (by go_simp)⟩
  have HST := Lib.hid (fun (w' : World) (g : Gr w w') => refCheckS_any _ _ P D.st w' (HPI.out.gr g) (hS.gr g) hok)
  have HI := Lib.hid (fun w' => within30_any D.beg 0 86399 w')
  have HNM := Lib.hid (fun (k : Nat) (hk : k < D.runs.length) w' => refName_any D.runs[k].nm (hr _ (List.getElem_mem hk)) w')
  have HE := Lib.hid (chkD_rest P D)
  have HE2 : Hid (restD P D = if checkS P.top P.brake D.st ≠ 0 then checkS P.top P.brake D.st else if winB D.beg 0 86399 = false then 1 else if D.runs.all (runB P D.st.length) = false then 1 else if twiceB (D.runs.map (·.nm)) then 4 else 0) := rfl
  have HSL := Lib.hid (fun (k : Nat) (hk : k ≤ k2) => head_slice 29 51 Tryz.underlying29 (by kernel_rfl) sizeRun s2 D.runs.length k2 k hk)
  unfold maxLen at hm hms hm3
  unfold plnV at HPI HST
  unfold plnV dgmV
  clear hok hr hS hR h3
  generalize chkD P D = R at HE ⊢
  generalize restD P D = R2 at HE HE2
  by_cases n8 : 8 < D.runs.length
  · have n8' : (8 : Int) < (D.runs.length : Int) := by omega
    have HF : Hid (R = 3) := by show _ = _; rw [HE.out, decide_eq_true n8]; rfl
    clear HE
    go_enter Tryz.func14, Tryz.ntmps14
    go_wp2_with fail
    (go_ret; exact ⟨ret_int HF.out.symm, g0⟩)
  have n8' : ¬ (8 : Int) < (D.runs.length : Int) := by omega
  rw [decide_eq_false n8, Bool.false_or] at HE
  generalize checkS P.top P.brake D.st = E at HST HE2
  generalize winB D.beg 0 86399 = b2 at HI HE2
  go_enter Tryz.func14, Tryz.ntmps14
  go_wp2_with fail
  go_loopw [21] (fun y wr => ∃ k : Nat, y = .int .i64 k ∧ k ≤ D.runs.length ∧ Gr ((w.alloc (.cells #[.slice a1 P.es.length c1, .slice a2 P.js.length c2, .slice a3 P.ss.length c3, .slice a4 P.ls.length c4, .int .i64 P.top, .int .i64 P.brake, .int .i64 P.margin, .int .i64 P.throw, .bool P.hard] 27)).alloc (.cells #[.int .i64 D.beg, .slice s1 D.st.length k1, .slice s2 D.runs.length k2] 31)) wr ∧ Hid (∀ i (hi : i < D.runs.length), i < k → ¬ 12 < D.runs[i].legs.length)) (fun y _ => D.runs.length - (intOf y).toNat)
  case atStart => exact ⟨0, rfl, Nat.zero_le _, Gr.refl _, fun i hi h => by omega⟩
  case round =>
    obtain ⟨k, rfl, hk, g, HT⟩ := hrel
    have gw := g0.trans g
    obtain ⟨zd, d0, d1, d2⟩ := HDX.out _ g
    by_cases hlt : k < D.runs.length
    · have hk1 : (k : Int) < (D.runs.length : Int) := by omega
      obtain ⟨bb, o, la, lc, hs, z, y0, y1, y2, y3, y4, hl⟩ := (HRN.out.gr gw).at k hlt
      subst hs
      obtain ⟨_, _, -, hlm, -⟩ := hl.form
      unfold maxLen at hlm
      have HY : Hid (12 < D.runs[k].legs.length → R = 3) := fun h => by
        have : (D.runs.any fun r => decide (12 < r.legs.length)) = true := List.any_eq_true.2 ⟨_, List.getElem_mem hlt, by simpa using h⟩
        rw [HE.out, this]; rfl
      have HT2 : Hid (¬ 12 < D.runs[k].legs.length → ∀ i (hi : i < D.runs.length), i < k + 1 → ¬ 12 < D.runs[i].legs.length) := fun h i hi hik => by
        by_cases e : i = k
        · subst e; exact h
        · exact HT.out i hi (by omega)
      clear HT hl
      generalize D.runs[k].nm = nm at y0
      generalize D.runs[k].st = st at y1
      generalize D.runs[k].fr = fr at y2
      generalize D.runs[k].lf = lf at y3
      generalize D.runs[k].legs.length = ln at y4 HY HT2 hlm
      have zd3 : w.heap.size + 1 < wr.heap.size + 1 := by omega
      by_cases n12 : 12 < ln
      · have n12' : (12 : Int) < (ln : Int) := by omega
        have HF := Lib.hid (HY.out n12)
        clear HY HT2
        go_wp2_with fail
        (go_ret; exact ⟨ret_int HF.out.symm, gw.alloc _⟩)
      · have n12' : ¬ (12 : Int) < (ln : Int) := by omega
        have HT3 := Lib.hid (HT2.out n12)
        clear HY HT2
        go_wp2_with fail
        go_roundw
        case rel => exact ⟨k + 1, by go_num, hlt, g.alloc _, HT3.out⟩
        case measure => simp [intOf]; omega
    · have hk1 : ¬ (k : Int) < (D.runs.length : Int) := by omega
      obtain ⟨zb, p0, p1, p2, p3, p4, p5, p6, p7, p8⟩ := HB.out _ g
      have HR2 : Hid (R = R2) := by
        have : (D.runs.any fun r => decide (12 < r.legs.length)) = false := by
          rw [List.any_eq_false]
          intro x hx
          obtain ⟨i, hi, rfl⟩ := List.getElem_of_mem hx
          have := HT.out i hi (by omega)
          simpa using this
        show _ = _; rw [HE.out, this]; rfl
      clear HE HT
      by_cases hE : E = 0
      rotate_left
      · have tE : (E != 0) = true := bneT hE
        have HF : Hid (R = E) := by show _ = _; rw [HR2.out, HE2.out, if_pos hE]
        clear HE2 hE HR2
        go_wp2_with (first | (go_at_call 24; (with_reducible refine (HST.out _ gw).mono ?_); rintro e w2 ⟨rfl, g2⟩; obtain ⟨yb, r0, r1, r2, r3, r4, r5, r6, r7, r8⟩ := HB.out _ (g.trans g2); obtain ⟨yd, e0, e1, e2⟩ := HDX.out _ (g.trans g2); have G2 := gw.trans g2) | fail)
        (go_ret; exact ⟨ret_int HF.out.symm, G2⟩)
      have tE : (E != 0) = false := bneF hE
      subst hE
      cases b2
      · have HF : Hid (R = 1) := by show _ = _; rw [HR2.out, HE2.out]; rfl
        clear HE2 HR2
        go_wp2_with (first | (go_at_call 24; (with_reducible refine (HST.out _ gw).mono ?_); rintro e w2 ⟨rfl, g2⟩; obtain ⟨yb, r0, r1, r2, r3, r4, r5, r6, r7, r8⟩ := HB.out _ (g.trans g2); obtain ⟨yd, e0, e1, e2⟩ := HDX.out _ (g.trans g2); have G2 := gw.trans g2) | (go_at_call 37; (with_reducible refine (HI.out _).mono ?_); rintro e w3 ⟨rfl, hq⟩; obtain rfl := hq.symm) | fail)
        (go_ret; exact ⟨ret_int HF.out.symm, G2⟩)
      have HR3 : Hid (R = if D.runs.all (runB P D.st.length) = false then 1 else if twiceB (D.runs.map (·.nm)) then 4 else 0) := by show _ = _; rw [HR2.out, HE2.out]; rfl
      clear HE2 HR2
      go_wp2_with (first | (go_at_call 24; (with_reducible refine (HST.out _ gw).mono ?_); rintro e w2 ⟨rfl, g2⟩; obtain ⟨yb, r0, r1, r2, r3, r4, r5, r6, r7, r8⟩ := HB.out _ (g.trans g2); obtain ⟨yd, e0, e1, e2⟩ := HDX.out _ (g.trans g2); have G2 := gw.trans g2) | (go_at_call 37; (with_reducible refine (HI.out _).mono ?_); rintro e w3 ⟨rfl, hq⟩; obtain rfl := hq.symm) | fail)
      have GB := g.trans g2
      clear HI HST
      clear p0 p1 p2 p3 p4 p5 p6 p7 p8 r0 r1 r2 r3 r4 r5 r6 r7 r8 d0 d1 d2 e0 e1 e2
      go_loopw [44] (fun y wr => ∃ k : Nat, y = .int .i64 k ∧ k ≤ D.runs.length ∧ Gr ((w.alloc (.cells #[.slice a1 P.es.length c1, .slice a2 P.js.length c2, .slice a3 P.ss.length c3, .slice a4 P.ls.length c4, .int .i64 P.top, .int .i64 P.brake, .int .i64 P.margin, .int .i64 P.throw, .bool P.hard] 27)).alloc (.cells #[.int .i64 D.beg, .slice s1 D.st.length k1, .slice s2 D.runs.length k2] 31)) wr ∧ Hid (∀ i (hi : i < D.runs.length), i < k → runB P D.st.length D.runs[i] = true)) (fun y _ => D.runs.length - (intOf y).toNat)
      case atStart => exact ⟨0, rfl, Nat.zero_le _, GB, fun i hi h => by omega⟩
      case round =>
        clear hk hk1 hlt g gw zd zb yd yb GB
        obtain ⟨k, rfl, hk, g, HT⟩ := hrel
        have gw := g0.trans g
        obtain ⟨zd, d0, d1, d2⟩ := HDX.out _ g
        by_cases hlt : k < D.runs.length
        · have hk1 : (k : Int) < (D.runs.length : Int) := by omega
          obtain ⟨zb, p0, p1, p2, p3, p4, p5, p6, p7, p8⟩ := HB.out _ g
          obtain ⟨bb, o, la, lc, hs, z, y0, y1, y2, y3, y4, hl⟩ := (HRN.out.gr gw).at k hlt
          subst hs
          have HN := Lib.hid (fun w' => HNM.out k hlt w')
          have HA := Lib.hid (fun w' => within30_any D.runs[k].st 0 ((D.st.length : Int) - 1) w')
          have HF2 := Lib.hid (fun w' => within30_any D.runs[k].fr 0 ((P.ss.length : Int) - 1) w')
          have HLF := Lib.hid (fun w' => within30_any D.runs[k].lf 0 4000 w')
          have HLG := Lib.hid (fun (w' : World) (g' : Gr wr w') => refLegs_any _ _ P D.runs[k].legs w' (HPI.out.gr (gw.trans g')) (hl.gr g'))
          have hQ : runB P D.st.length D.runs[k] = (nmB D.runs[k].nm && winB D.runs[k].st 0 ((D.st.length : Int) - 1) && winB D.runs[k].fr 0 ((P.ss.length : Int) - 1) && winB D.runs[k].lf 0 4000 && legsB P 0 D.runs[k].legs) := rfl
          have HY : Hid (runB P D.st.length D.runs[k] = false → R = 1) := fun h => by rw [HR3.out, allR_bad hlt h]; rfl
          have HT2 : Hid (runB P D.st.length D.runs[k] = true → ∀ i (hi : i < D.runs.length), i < k + 1 → runB P D.st.length D.runs[i] = true) := fun h i hi hik => by
            by_cases e : i = k
            · subst e; exact h
            · exact HT.out i hi (by omega)
          rw [hQ] at HY HT2
          clear HT hQ hl
          generalize nmB D.runs[k].nm = q1 at HN HY HT2
          generalize winB D.runs[k].st 0 ((D.st.length : Int) - 1) = q2 at HA HY HT2
          generalize winB D.runs[k].fr 0 ((P.ss.length : Int) - 1) = q3 at HF2 HY HT2
          generalize winB D.runs[k].lf 0 4000 = q4 at HLF HY HT2
          generalize legsB P 0 D.runs[k].legs = q5 at HLG HY HT2
          generalize D.runs[k].nm = nm at y0 HN
          generalize D.runs[k].st = st at y1 HA
          generalize D.runs[k].fr = fr at y2 HF2
          generalize D.runs[k].lf = lf at y3 HLF
          generalize D.runs[k].legs = lg at y4 HLG
          have zd3 : w.heap.size + 1 < wr.heap.size + 1 := by omega
          have zb3 : w.heap.size < wr.heap.size + 1 := by omega
          have gA : Gr wr (wr.alloc (.cells #[.string nm, .int .i64 st, .int .i64 fr, .int .i64 lf, .slice la lg.length lc] 51)) := (Gr.refl _).alloc _
          cases q1
          · have HF := Lib.hid (HY.out rfl)
            clear HY HT2
            go_wp2_with (first | (go_at_call 38; (with_reducible refine (HN.out _).mono ?_); rintro e w3 ⟨rfl, hq⟩; obtain rfl := hq.symm) | fail)
            (go_ret; exact ⟨ret_int HF.out.symm, gw.trans gA⟩)
          cases q2
          · have HF := Lib.hid (HY.out rfl)
            clear HY HT2
            go_wp2_with (first | (go_at_call 38; (with_reducible refine (HN.out _).mono ?_); rintro e w3 ⟨rfl, hq⟩; obtain rfl := hq.symm) | (go_at_call 37; (with_reducible refine (HA.out _).mono ?_); rintro e w3 ⟨rfl, hq⟩; obtain rfl := hq.symm) | fail)
            (go_ret; exact ⟨ret_int HF.out.symm, gw.trans gA⟩)
          cases q3
          · have HF := Lib.hid (HY.out rfl)
            clear HY HT2
            go_wp2_with (first | (go_at_call 38; (with_reducible refine (HN.out _).mono ?_); rintro e w3 ⟨rfl, hq⟩; obtain rfl := hq.symm) | (go_at_call 37; (with_reducible refine (HA.out _).mono ?_); rintro e w3 ⟨rfl, hq⟩; obtain rfl := hq.symm) | (go_at_call 37; (with_reducible refine (HF2.out _).mono ?_); rintro e w3 ⟨rfl, hq⟩; obtain rfl := hq.symm) | fail)
            (go_ret; exact ⟨ret_int HF.out.symm, gw.trans gA⟩)
          cases q4
          · have HF := Lib.hid (HY.out rfl)
            clear HY HT2
            go_wp2_with (first | (go_at_call 38; (with_reducible refine (HN.out _).mono ?_); rintro e w3 ⟨rfl, hq⟩; obtain rfl := hq.symm) | (go_at_call 37; (with_reducible refine (HA.out _).mono ?_); rintro e w3 ⟨rfl, hq⟩; obtain rfl := hq.symm) | (go_at_call 37; (with_reducible refine (HF2.out _).mono ?_); rintro e w3 ⟨rfl, hq⟩; obtain rfl := hq.symm) | (go_at_call 37; (with_reducible refine (HLF.out _).mono ?_); rintro e w3 ⟨rfl, hq⟩; obtain rfl := hq.symm) | fail)
            (go_ret; exact ⟨ret_int HF.out.symm, gw.trans gA⟩)
          cases q5
          · have HF := Lib.hid (HY.out rfl)
            clear HY HT2
            go_wp2_with (first | (go_at_call 38; (with_reducible refine (HN.out _).mono ?_); rintro e w3 ⟨rfl, hq⟩; obtain rfl := hq.symm) | (go_at_call 37; (with_reducible refine (HA.out _).mono ?_); rintro e w3 ⟨rfl, hq⟩; obtain rfl := hq.symm) | (go_at_call 37; (with_reducible refine (HF2.out _).mono ?_); rintro e w3 ⟨rfl, hq⟩; obtain rfl := hq.symm) | (go_at_call 37; (with_reducible refine (HLF.out _).mono ?_); rintro e w3 ⟨rfl, hq⟩; obtain rfl := hq.symm) | (go_at_call 39; (with_reducible refine (HLG.out _ gA).mono ?_); rintro e w4 ⟨rfl, g4⟩) | fail)
            (go_ret; exact ⟨ret_int HF.out.symm, (gw.trans gA).trans g4⟩)
          · have HT3 := Lib.hid (HT2.out rfl)
            clear HY HT2
            go_wp2_with (first | (go_at_call 38; (with_reducible refine (HN.out _).mono ?_); rintro e w3 ⟨rfl, hq⟩; obtain rfl := hq.symm) | (go_at_call 37; (with_reducible refine (HA.out _).mono ?_); rintro e w3 ⟨rfl, hq⟩; obtain rfl := hq.symm) | (go_at_call 37; (with_reducible refine (HF2.out _).mono ?_); rintro e w3 ⟨rfl, hq⟩; obtain rfl := hq.symm) | (go_at_call 37; (with_reducible refine (HLF.out _).mono ?_); rintro e w3 ⟨rfl, hq⟩; obtain rfl := hq.symm) | (go_at_call 39; (with_reducible refine (HLG.out _ gA).mono ?_); rintro e w4 ⟨rfl, g4⟩) | fail)
            go_roundw
            case rel => exact ⟨k + 1, by go_num, hlt, (g.trans gA).trans g4, HT3.out⟩
            case measure => simp [intOf]; omega
        · have hk1 : ¬ (k : Int) < (D.runs.length : Int) := by omega
          have HR4 : Hid (R = if twiceB (D.runs.map (·.nm)) then 4 else 0) := by
            show _ = _
            rw [HR3.out, allR_good fun i hi => HT.out i hi (by omega)]; rfl
          clear HR3 HT
          go_wp2_with fail
          go_loopw [89] (fun y wr => ∃ k : Nat, y = .int .i64 k ∧ k ≤ D.runs.length ∧ Gr ((w.alloc (.cells #[.slice a1 P.es.length c1, .slice a2 P.js.length c2, .slice a3 P.ss.length c3, .slice a4 P.ls.length c4, .int .i64 P.top, .int .i64 P.brake, .int .i64 P.margin, .int .i64 P.throw, .bool P.hard] 27)).alloc (.cells #[.int .i64 D.beg, .slice s1 D.st.length k1, .slice s2 D.runs.length k2] 31)) wr ∧ Hid (∀ i j (hi : i < D.runs.length) (hj : j < i), i < k → D.runs[j].nm ≠ D.runs[i].nm)) (fun y _ => D.runs.length - (intOf y).toNat)
          case atStart => exact ⟨0, rfl, Nat.zero_le _, g, fun i j hi hj h => by omega⟩
          case round =>
            obtain ⟨k, rfl, hk, g, HT⟩ := hrel
            have gw := g0.trans g
            obtain ⟨zd, d0, d1, d2⟩ := HDX.out _ g
            by_cases hlt : k < D.runs.length
            · have hk1 : (k : Int) < (D.runs.length : Int) := by omega
              obtain ⟨bb, o, la, lc, hs, z, y0, y1, y2, y3, y4, -⟩ := (HRN.out.gr gw).at k hlt
              subst hs
              have HY : Hid (∀ j (hj : j < k), D.runs[j].nm = D.runs[k].nm → R = 4) := fun j hj h => by rw [HR4.out, twiceR_yes hlt hj h]; rfl
              have HT2 : Hid ((∀ j (hj : j < k), D.runs[j].nm ≠ D.runs[k].nm) → ∀ i j (hi : i < D.runs.length) (hj : j < i), i < k + 1 → D.runs[j].nm ≠ D.runs[i].nm) := fun h i j hi hj hik => by
                by_cases e : i = k
                · subst e; exact h j hj
                · exact HT.out i j hi hj (by omega)
              have hsl := HSL.out k (by omega)
              clear HT
              generalize D.runs[k].nm = nm at y0 HY HT2
              generalize D.runs[k].st = st at y1
              generalize D.runs[k].fr = fr at y2
              generalize D.runs[k].lf = lf at y3
              generalize D.runs[k].legs.length = ln at y4
              have zd3 : w.heap.size + 1 < wr.heap.size + 1 := by omega
              have hz : wr.heap.size < (wr.alloc (.cells #[.string nm, .int .i64 st, .int .i64 fr, .int .i64 lf, .slice la ln lc] 51)).heap.size := by simp
              have gA : Gr wr (wr.alloc (.cells #[.string nm, .int .i64 st, .int .i64 fr, .int .i64 lf, .slice la ln lc] 51)) := (Gr.refl _).alloc _
              have N0 : Hid ((wr.alloc (.cells #[.string nm, .int .i64 st, .int .i64 fr, .int .i64 lf, .slice la ln lc] 51)).cell? ⟨wr.heap.size, 0, none⟩ = some (.string nm)) := by show _ = _; rw [World.cell?_alloc_mark]; rfl
              go_wp2_with fail
              clear hsl d0 d1 d2 y0 y1 y2 y3 y4
              go_loopw [99] (fun y wi => ∃ m : Nat, y = .int .i64 m ∧ m ≤ k ∧ Gr (wr.alloc (.cells #[.string nm, .int .i64 st, .int .i64 fr, .int .i64 lf, .slice la ln lc] 51)) wi ∧ Hid (∀ j (hj : j < m) (hjk : j < D.runs.length), D.runs[j].nm ≠ nm)) (fun y _ => k - (intOf y).toNat)
              case atStart => exact ⟨0, rfl, Nat.zero_le _, Gr.refl _, fun j hj => by omega⟩
              case round =>
                obtain ⟨m, rfl, hmk, gi, HM⟩ := hrel
                have n0 := (gi.cell _ _ hz).trans N0.out
                have zi := Nat.lt_of_lt_of_le hz gi.size
                have GI := (gw.trans gA).trans gi
                by_cases hml : m < k
                · have hm1 : (m : Int) < (k : Int) := by omega
                  have hm2 : m < D.runs.length := by omega
                  have hm3' : (m : Int) < (D.runs.length : Int) := by omega
                  obtain ⟨b2, o2, la2, lc2, hs2, z2, x0, x1, x2, x3, x4, -⟩ := (HRN.out.gr GI).at m hm2
                  simp only [Option.some.injEq, Addr.mk.injEq, and_true] at hs2
                  obtain ⟨rfl, rfl⟩ := hs2
                  have HYm := Lib.hid (HY.out m hml)
                  have HMm : Hid (D.runs[m].nm ≠ nm → ∀ j (hj : j < m + 1) (hjk : j < D.runs.length), D.runs[j].nm ≠ nm) := fun h j hj hjk => by
                    by_cases e : j = m
                    · subst e; exact h
                    · exact HM.out j (by omega) hjk
                  clear HM
                  generalize D.runs[m].nm = nm2 at x0 HYm HMm
                  generalize D.runs[m].st = st2 at x1
                  generalize D.runs[m].fr = fr2 at x2
                  generalize D.runs[m].lf = lf2 at x3
                  generalize D.runs[m].legs.length = ln2 at x4
                  by_cases hn : nm2 = nm
                  · have HF := Lib.hid (HYm.out hn)
                    subst hn
                    have tn : (nm2.toList == nm2.toList) = true := by simp
                    go_wp2_with fail
                    (go_ret; exact ⟨ret_int HF.out.symm, GI.alloc _⟩)
                  · have tn := str_ne (fun e => hn e.symm)
                    have HM2 := Lib.hid (HMm.out hn)
                    clear hn
                    go_wp2_with fail
                    go_roundw
                    case rel => exact ⟨m + 1, by go_num, hml, gi.alloc _, HM2.out⟩
                    case measure => simp [intOf]; omega
                · have hm1 : ¬ (m : Int) < (k : Int) := by omega
                  have HT3 := Lib.hid (HT2.out fun j hj => HM.out j (by omega) (by omega))
                  go_wp2_with fail
                  go_roundw
                  case rel => exact ⟨k + 1, by go_num, hlt, (g.trans gA).trans gi, HT3.out⟩
                  case measure => simp [intOf]; omega
            · have hk1 : ¬ (k : Int) < (D.runs.length : Int) := by omega
              have HF : Hid (R = 0) := by
                show _ = _
                rw [HR4.out, twiceR_no fun i j hi hj => HT.out i j hi hj (by omega)]; rfl
              go_wp2_with fail
              (go_ret; exact ⟨ret_int HF.out.symm, gw⟩)
end Go.Proofs.YtgjnlgcdpbilfaaGreatDoor
namespace Go.Proofs.YtgjnlgcdpbilfaaGreatDoor
open Go.ChangeShapes Go.WideShapes Go.ChangeAt Go.RowKit Go.Maps
set_option linter.unusedVariables false
set_option linter.unusedSimpArgs false
theorem chkD_mk {P : Pln} {D : Dgm} (h1 : D.runs.length ≤ 8) (h2 : ∀ r ∈ D.runs, r.legs.length ≤ 12) (h3 : checkS P.top P.brake D.st = 0) (h4 : 0 ≤ D.beg ∧ D.beg ≤ 86399) (h5 : ∀ r ∈ D.runs, runB P D.st.length r = true) (h6 : twiceB (D.runs.map (·.nm)) = false) : chkD P D = 0 := by
  unfold chkD longD
  have e1 : (decide (8 < D.runs.length) || D.runs.any fun r => decide (12 < r.legs.length)) = false := by
    rw [Bool.or_eq_false_iff]
    refine ⟨by simpa using h1, ?_⟩
    rw [List.any_eq_false]
    intro r hr
    have := h2 r hr
    simp; omega
  have e4 : winB D.beg 0 86399 = true := (winB_iff _ _ _).2 h4
  have e5 : D.runs.all (runB P D.st.length) = true := List.all_eq_true.2 h5
  rw [e1, if_neg (by simp), if_neg (by rw [h3]; simp), e4, if_neg (by simp), e5, if_neg (by simp), h6]
  rfl
def Leg.add (l : Leg) (b : Int) : Leg := { l with at_ := l.at_ + b }
def Rn.add (r : Rn) (b : Int) : Rn := { r with legs := r.legs.map (·.add b) }
def addD (D : Dgm) (b : Int) : Dgm := { D with runs := D.runs.map (·.add b) }
theorem lastL_max : ∀ (L : List Leg) (a b : Int), lastL (max a b) L = max a (lastL b L)
  | [], a, b => rfl
  | l :: t, a, b => by
    show lastL (max (max a b) l.at_) t = max a (lastL (max b l.at_) t)
    rw [← lastL_max t a (max b l.at_)]
    congr 1; omega
theorem lastR_max : ∀ (L : List Rn) (a b : Int), lastR (max a b) L = max a (lastR b L)
  | [], a, b => rfl
  | r :: t, a, b => by
    show lastR (lastL (max a b) r.legs) t = max a (lastR (lastL b r.legs) t)
    rw [lastL_max, lastR_max t]
theorem lastL_add (b : Int) : ∀ (L : List Leg) (n : Int), lastL (n + b) (L.map (·.add b)) = lastL n L + b
  | [], n => rfl
  | l :: t, n => by
    show lastL (max (n + b) (l.at_ + b)) (t.map _) = lastL (max n l.at_) t + b
    rw [← lastL_add b t]; congr 1; omega
theorem lastR_add (b : Int) : ∀ (L : List Rn) (n : Int), lastR (n + b) (L.map (·.add b)) = lastR n L + b
  | [], n => rfl
  | r :: t, n => by
    show lastR (lastL (n + b) (r.legs.map _)) (t.map _) = lastR (lastL n r.legs) t + b
    rw [lastL_add, lastR_add b t]
theorem lastL_mem : ∀ (L : List Leg) (n : Int), ∀ l ∈ L, l.at_ ≤ lastL n L
  | [], n, l, h => by cases h
  | x :: t, n, l, h => by
    rcases List.mem_cons.1 h with rfl | h
    · have := lastL_ge t (max n l.at_)
      show l.at_ ≤ lastL (max n l.at_) t
      omega
    · exact lastL_mem t _ l h
theorem lastR_mem : ∀ (L : List Rn) (n : Int), ∀ r ∈ L, ∀ l ∈ r.legs, l.at_ ≤ lastR n L
  | [], n, r, h, _, _ => by cases h
  | x :: t, n, r, h, l, hl => by
    rcases List.mem_cons.1 h with rfl | h
    · have := lastR_ge t (lastL n r.legs)
      have := lastL_mem r.legs n l hl
      show l.at_ ≤ lastR (lastL n r.legs) t
      omega
    · exact lastR_mem t _ r h l hl
theorem addD_last {P : Pln} {D : Dgm} (h : chkD P D = 0) {b : Int} (hb : 0 ≤ b) (hs : ∃ r ∈ D.runs, r.legs ≠ []) : lastD (addD D b) = lastD D + b := by
  obtain ⟨h1, h2, h3, h4, h5, h6⟩ := chkD_ok h
  obtain ⟨r, hr, hl⟩ := hs
  obtain ⟨l, hl⟩ := List.exists_mem_of_ne_nil _ hl
  have h0 := (legs_parts (Int.le_refl 0) (run_parts (h5 r hr)).2.2.2.2 l hl).2.1
  have hm := lastR_mem (D.runs.map (·.add b)) 0 (r.add b) (List.mem_map_of_mem hr) (l.add b) (List.mem_map_of_mem hl)
  have e := lastR_add b D.runs 0
  have e2 := lastR_max (D.runs.map (·.add b)) b 0
  unfold lastD addD
  dsimp only
  rw [show max b 0 = 0 + b from by omega, e] at e2
  have : (l.add b).at_ = l.at_ + b := rfl
  omega
theorem legsB_add {P : Pln} {b : Int} : ∀ (L : List Leg) (a c : Int), c ≤ a + b → 0 ≤ b → 0 ≤ a → 0 ≤ c → legsB P a L = true → (∀ l ∈ L, l.at_ + b ≤ 2000) → legsB P c (L.map (·.add b)) = true
  | [], a, c, _, _, _, _, _, _ => rfl
  | l :: t, a, c, hc, hb, ha, hc0, h, hm => by
    rw [legsB_cons, Bool.and_eq_true, Bool.and_eq_true] at h
    obtain ⟨⟨h1, h2⟩, h3⟩ := h
    have hw := (winB_iff _ _ _).1 h1
    have := hm l (by simp)
    show legsB P c (l.add b :: t.map _) = true
    rw [legsB_cons]
    have e1 : winB (l.add b).at_ c 2000 = true := (winB_iff _ _ _).2 (by show c ≤ l.at_ + b ∧ l.at_ + b ≤ 2000; omega)
    have e2 : legTo P (l.add b) = true := h2
    rw [e1, e2, legsB_add t l.at_ (l.add b).at_ (by show l.at_ + b ≤ l.at_ + b; omega) hb (by omega) (by show 0 ≤ l.at_ + b; omega) h3 (fun x hx => hm x (List.mem_cons_of_mem _ hx))]
    rfl
theorem addD_chk {P : Pln} {D : Dgm} (h : chkD P D = 0) {b : Int} (hb : 0 ≤ b) (hl : lastD D + b ≤ 2000) : chkD P (addD D b) = 0 := by
  obtain ⟨h1, h2, h3, h4, h5, h6⟩ := chkD_ok h
  refine chkD_mk (by unfold addD; simpa using h1) (fun r hr => ?_) h3 h4 (fun r hr => ?_) ?_
  · obtain ⟨q, hq, rfl⟩ := List.mem_map.1 hr
    have := h2 q hq
    unfold Rn.add; simpa using this
  · obtain ⟨q, hq, rfl⟩ := List.mem_map.1 hr
    have h7 := h5 q hq
    have hp := run_parts h7
    unfold runB at h7 ⊢
    rw [Bool.and_eq_true] at h7
    rw [Bool.and_eq_true]
    refine ⟨h7.1, ?_⟩
    exact legsB_add q.legs 0 0 (by omega) hb (by omega) (by omega) h7.2 fun l hl2 => by
      have := lastR_mem D.runs 0 q hq l hl2
      unfold lastD at hl
      omega
  · have e : (addD D b).runs.map (·.nm) = D.runs.map (·.nm) := by
      unfold addD
      simp [Rn.add]
    rw [e]; exact h6
theorem addD_rows {P : Pln} (D : Dgm) (b : Int) : (rowsD P (addD D b)).length = (rowsD P D).length := by
  have key : ∀ (L : List Rn) (E F : Dgm), ((L.map (·.add b)).flatMap (rowsR P E)).length = (L.flatMap (rowsR P F)).length := by
    intro L E F
    induction L with
    | nil => rfl
    | cons r t ih =>
      rw [List.map_cons, List.flatMap_cons, List.flatMap_cons, List.length_append, List.length_append, ih]
      unfold rowsR Rn.add
      simp
  unfold rowsD
  rw [List.length_cons, List.length_cons, List.length_append, List.length_append]
  have := key D.runs (addD D b) D
  show (List.map lineS D.st).length + _ + 1 = _
  unfold addD at this ⊢
  dsimp only at this ⊢
  rw [this]
end Go.Proofs.YtgjnlgcdpbilfaaGreatDoor
namespace Go.Proofs.YtgjnlgcdpbilfaaGreatDoor
open Go.ChangeShapes Go.WideShapes Go.ChangeAt Go.RowKit Go.Maps
set_option linter.unusedVariables false
set_option linter.unusedSimpArgs false
theorem runCs_at (A : List (Rn × Value)) (i j : Nat) (hi : i < A.length) (hj : j < 5) : (runCs A)[i * 5 + j]? = some (A[i].1.c A[i].2 j) := by
  unfold runCs
  rw [flat_get (fun x : Rn × Value => x.1.cs x.2) 5 (fun _ => rfl) A i j hi hj]
  match j, hj with
  | 0, _ => rfl
  | 1, _ => rfl
  | 2, _ => rfl
  | 3, _ => rfl
  | 4, _ => rfl
theorem runCs_ext {A : List (Rn × Value)} {X : List Value} (hl : X.length = A.length * 5) (h : ∀ i j (hi : i < A.length), j < 5 → X[i * 5 + j]? = some (A[i].1.c A[i].2 j)) : X = runCs A := by
  refine List.ext_getElem? fun q => ?_
  by_cases hq : q < A.length * 5
  · have hi : q / 5 < A.length := by omega
    have hj : q % 5 < 5 := by omega
    have e : q = q / 5 * 5 + q % 5 := by omega
    rw [e, h _ _ hi hj, runCs_at A _ _ hi hj]
  · rw [List.getElem?_eq_none (by omega), List.getElem?_eq_none (by rw [runCs_len]; omega)]
def prs (R : List Rn) (S : Nat → Value) : List (Rn × Value) := (List.range R.length).map fun i => (R.getD i default, S i)
theorem prs_len (R : List Rn) (S : Nat → Value) : (prs R S).length = R.length := by unfold prs; simp
theorem prs_at (R : List Rn) (S : Nat → Value) (i : Nat) (hi : i < (prs R S).length) : (prs R S)[i] = (R.getD i default, S i) := by unfold prs; simp
theorem prs_fst (R : List Rn) (S : Nat → Value) : (prs R S).map Prod.fst = R := by
  refine List.ext_getElem (by simp [prs_len]) fun i h1 h2 => ?_
  rw [List.getElem_map, prs_at]
  exact getD_at R i h2
theorem rowL_prs (R : List Rn) (S : Nat → Value) : rowL 5 R.length (fun i j => (R.getD i default).c (S i) j) = runCs (prs R S) := by
  refine runCs_ext (by rw [rowL_len, prs_len]) fun i j hi hj => ?_
  rw [rowL_get (by rw [prs_len] at hi; exact hi) hj, prs_at]
theorem rnc_one (R : List Rn) (S : Nat → Value) (hS : ∀ i, (S i).oneCell' = true) (i j : Nat) : ((R.getD i default).c (S i) j).oneCell' = true := by
  unfold Rn.c
  split
  · rfl
  split
  · rfl
  split
  · rfl
  split
  · rfl
  · exact hS i
def setLegs (A : List (Rn × Value)) (k : Nat) (l : List Leg) (v : Value) : List (Rn × Value) := A.set k ({ (A.getD k (default, .bool false)).1 with legs := l }, v)
theorem setLegs_len (A : List (Rn × Value)) (k : Nat) (l : List Leg) (v : Value) : (setLegs A k l v).length = A.length := by unfold setLegs; simp
theorem setLegs_at (A : List (Rn × Value)) (k : Nat) (l : List Leg) (v : Value) (i : Nat) (hi : i < (setLegs A k l v).length) : (setLegs A k l v)[i] = if i = k then ({ (A[i]'(by rw [setLegs_len] at hi; exact hi)).1 with legs := l }, v) else A[i]'(by rw [setLegs_len] at hi; exact hi) := by
  have hi' : i < A.length := by rw [setLegs_len] at hi; exact hi
  simp only [setLegs]
  rw [List.getElem_set]
  by_cases h : k = i
  · subst h
    rw [if_pos rfl, if_pos rfl, List.getD_eq_getElem?_getD, List.getElem?_eq_getElem hi']
    rfl
  · rw [if_neg h, if_neg (Ne.symm h)]
theorem runCs_legs (A : List (Rn × Value)) (k : Nat) (hk : k < A.length) (l : List Leg) (v : Value) : (runCs A).set (k * 5 + 4) v = runCs (setLegs A k l v) := by
  refine runCs_ext (by rw [List.length_set, runCs_len, setLegs_len]) fun i j hi hj => ?_
  have hi' : i < A.length := by rw [setLegs_len] at hi; exact hi
  rw [setLegs_at]
  rw [List.getElem?_set]
  by_cases h : i = k
  · subst h
    rw [if_pos rfl]
    by_cases h4 : j = 4
    · subst h4
      rw [if_pos rfl, if_pos (by rw [runCs_len]; omega)]
      rfl
    · rw [if_neg (by omega), runCs_at A i j hi' hj]
      have : j = 0 ∨ j = 1 ∨ j = 2 ∨ j = 3 := by omega
      rcases this with rfl | rfl | rfl | rfl <;> rfl
  · rw [if_neg h, if_neg (by omega), runCs_at A i j hi' hj]
theorem OwnRn.runs {B : Nat} {w : World} {v : Value} {A : List (Rn × Value)} (h : OwnRn B w v A) (hl : A.length ≤ maxLen) (hx : ∀ i (hi : i < A.length), IsLegs w A[i].2 A[i].1.legs) : IsRuns w v (A.map Prod.fst) := by
  refine ⟨⟨fun i => (A.map Prod.snd).getD i (.slice none 0 0), ?_, fun i hi => ?_⟩, own_capok h⟩
  · rw [List.length_map]
    refine row_of_own h hl fun i j hi hj => ?_
    rw [runCs_at A i j hi hj, runs_getD A i hi]
    dsimp only
    rw [getD_in _ _ i (by simpa using hi), List.getElem_map]
  · have hi' : i < A.length := by simpa using hi
    rw [runs_getD A i hi']
    dsimp only
    rw [getD_in _ _ i (by simpa using hi'), List.getElem_map]
    exact hx i hi'
theorem OwnRn.cell {B g c : Nat} {w : World} {A : List (Rn × Value)} (h : OwnRn B w (.slice (some ⟨g, 0, none⟩) A.length c) A) (i j : Nat) (hi : i < A.length) (hj : j < 5) : w.cell? ⟨g, i * 5 + j, none⟩ = some (A[i].1.c A[i].2 j) := by
  rw [World.ownsRow.cellAt h _ (by omega), runCs_at A i j hi hj]
theorem OwnRn.put {B g c : Nat} {w : World} {A : List (Rn × Value)} (h : OwnRn B w (.slice (some ⟨g, 0, none⟩) A.length c) A) (k : Nat) (hk : k < A.length) (l : List Leg) (v : Value) : OwnRn B (w.setCell ⟨g, k * 5 + 4, none⟩ v) (.slice (some ⟨g, 0, none⟩) A.length c) (setLegs A k l v) := by
  have := (World.ownsRow.stored h (k * 5 + 4) v).1
  rw [runCs_legs A k hk l v] at this
  unfold OwnRn
  rw [setLegs_len]
  exact this
theorem IsRow.set {w : World} {a : Option Addr} {n m c sz : Nat} {C : Nat → Nat → Value} (h : IsRow w (.slice a m c) sz n C) (p : Addr) (hp : 0 < n → ∀ q, a = some q → q.block ≠ p.block) (u : Value) : IsRow (w.setCell p u) (.slice a m c) sz n C := by
  obtain ⟨a', c', e, hm, hx⟩ := h
  cases e
  refine ⟨a, c, rfl, hm, ?_⟩
  rcases hx with hx | ⟨b, o, rfl, hb, hc⟩
  · exact .inl hx
  · by_cases h0 : n = 0
    · exact .inl h0
    · refine .inr ⟨b, o, rfl, by simpa using hb, fun i j hi hj => ?_⟩
      have hne := hp (by omega) _ rfl
      rw [World.cell?_setCell_other _ _ _ _ (by rintro rfl; exact hne rfl)]
      exact hc i j hi hj
def LegAt (g M : Nat) (w : World) (v : Value) (L : List Leg) : Prop := IsLegs w v L ∧ ∀ a n c, v = .slice (some a) n c → 0 < n → a.block ≠ g ∧ a.block < M
theorem LegAt.set {g M : Nat} {w : World} {v : Value} {L : List Leg} (h : LegAt g M w v L) (p : Addr) (hp : p.block = g ∨ M ≤ p.block) (u : Value) : LegAt g M (w.setCell p u) v L := by
  obtain ⟨⟨h1, h2⟩, h3⟩ := h
  refine ⟨⟨?_, h2⟩, h3⟩
  have h1' := h1
  obtain ⟨a, c, e, hm, hx⟩ := h1'
  subst e
  refine IsRow.set h1 p (fun hn q hq => ?_) u
  subst hq
  obtain ⟨h4, h5⟩ := h3 q _ _ rfl hn
  intro e
  rcases hp with hp | hp
  · exact h4 (e.trans hp)
  · rw [← e] at hp; exact absurd h5 (Nat.not_lt.2 hp)
theorem LegAt.gr {g M : Nat} {w w' : World} {v : Value} {L : List Leg} (h : LegAt g M w v L) (k : Gr w w') : LegAt g M w' v L := ⟨h.1.gr k, h.2⟩
theorem LegAt.le {g M M' : Nat} {w : World} {v : Value} {L : List Leg} (h : LegAt g M w v L) (hM : M ≤ M') : LegAt g M' w v L := ⟨h.1, fun a n c e hn => ⟨(h.2 a n c e hn).1, by have := (h.2 a n c e hn).2; omega⟩⟩
theorem IsLegs.take {w : World} {a : Option Addr} {n c : Nat} {l : List Leg} (h : IsLegs w (.slice a n c) l) (k : Nat) (hk : k ≤ l.length) : IsLegs w (.slice a k c) (l.take k) := by
  obtain ⟨⟨a', c', e, hm, hx⟩, h3⟩ := h
  cases e
  have hl : (l.take k).length = k := by rw [List.length_take]; omega
  have hg : ∀ i, i < k → (l.take k).getD i default = l.getD i default := fun i hi => by
    rw [List.getD_eq_getElem?_getD, List.getD_eq_getElem?_getD, List.getElem?_take, if_pos hi]
  refine ⟨⟨a, c, by rw [hl], by rw [hl]; omega, ?_⟩, fun a' n' c' e => by cases e; have := h3 _ _ _ rfl; omega⟩
  rcases hx with hx | ⟨b, o, rfl, hb, hc⟩
  · exact .inl (by rw [hl]; omega)
  · refine .inr ⟨b, o, rfl, hb, fun i j hi hj => ?_⟩
    rw [hl] at hi
    show _ = some (((l.take k).getD i default).c j)
    rw [hg i hi]; exact hc i j (by omega) hj
theorem IsLegs.low {w : World} {a : Addr} {n c : Nat} {l : List Leg} (h : IsLegs w (.slice (some a) n c) l) (hn : 0 < n) : a.block < w.heap.size := by
  obtain ⟨⟨a', c', e, hm, hx⟩, -⟩ := h
  cases e
  rcases hx with hx | ⟨b, o, e, hb, -⟩
  · omega
  · cases e; exact hb
theorem IsRuns.rows {w : World} {v : Value} {l : List Rn} (h : IsRuns w v l) : ∃ S : Nat → Value, IsRow w v 5 l.length (fun i j => (l.getD i default).c (S i) j) ∧ (∀ i, i < l.length → IsLegs w (S i) (l.getD i default).legs) ∧ ∀ i, (S i).oneCell' = true := by
  obtain ⟨⟨S, ⟨a, c, rfl, hm, hx⟩, h2⟩, -⟩ := h
  refine ⟨fun i => if i < l.length then S i else .slice none 0 0, ⟨a, c, rfl, hm, ?_⟩, fun i hi => ?_, fun i => ?_⟩
  · rcases hx with hx | ⟨b, o, rfl, hb, hc⟩
    · exact .inl hx
    · refine .inr ⟨b, o, rfl, hb, fun i j hi hj => ?_⟩
      rw [hc i j hi hj]
      dsimp only
      rw [if_pos hi]
  · dsimp only
    rw [if_pos hi]
    exact h2 i hi
  · dsimp only
    by_cases hi : i < l.length
    · rw [if_pos hi]
      obtain ⟨a', c', e, -⟩ := (h2 i hi).form
      rw [e]; rfl
    · rw [if_neg hi]; rfl
end Go.Proofs.YtgjnlgcdpbilfaaGreatDoor
namespace Go.Proofs.YtgjnlgcdpbilfaaGreatDoor
open Go.Lib
set_option maxRecDepth 100000
theorem pow_type : (Tryz.prog.globals[1]?).map (·.type) = some 161 := by kernel_rfl
def laidRows : List (String × DataW Unit) := [("math/bits.deBruijn32tab", Rows.laid_math_bits_deBruijn32tab), ("math/bits.deBruijn64tab", Rows.laid_math_bits_deBruijn64tab), ("internal/strconv.uint64pow10", Rows.laid_internal_strconv_uint64pow10), ("unicode/utf8.acceptRanges", Rows.laid_unicode_utf8_acceptRanges), ("unicode/utf8.first", Rows.laid_unicode_utf8_first)]
theorem laidRows_plain (w : World) : laidMetH Tryz.prog laidRows w = laidMet Tryz.prog laidRows w := MakeChecks.laidMetH_plain _ _ _ (by kernel_rfl)
theorem tabs_of {w : World} (hL : laidMetH Tryz.prog laidRows w) (hsh : w.ShapedOpen Tryz.prog) : Tabs w := by
  rw [laidRows_plain] at hL
  have h3 := laidMet.tail (laidMet.tail hL)
  exact ⟨Lib.tabIs_of_head pow_named pow_type Tryz.underlying161 Tryz.underlying150 (by kernel_rfl) (by kernel_rfl) h3, hsh⟩
theorem laid_witness (os : Os) (args : Array Value) : laidMetH Tryz.prog laidRows ((World.laidAll Tryz.prog os laidRows).forCall (fun _ _ => 0) ⟨#[], args, []⟩).memory := by
  rw [laidRows_plain]
  exact laidMet_laidAll _ (by kernel_rfl) (by kernel_rfl)
theorem laid_shaped (os : Os) (args : Array Value) : ((World.laidAll Tryz.prog os laidRows).forCall (fun _ _ => 0) ⟨#[], args, []⟩).Shaped Tryz.prog :=
  World.shaped_of_ZipB (by kernel_rfl) (by kernel_rfl)
end Go.Proofs.YtgjnlgcdpbilfaaGreatDoor
