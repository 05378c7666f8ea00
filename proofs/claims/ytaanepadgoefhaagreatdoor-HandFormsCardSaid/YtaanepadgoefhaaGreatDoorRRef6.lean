/- the reference's Sees. -/
import Derived.Test.YtaanepadgoefhaaGreatDoorRows
import Derived.Test.YtaanepadgoefhaaGreatDoorRRef5
import Derived.Test.YtaanepadgoefhaaGreatDoorRSee
import Derived.Test.YtaanepadgoefhaaGreatDoorRFinP
import Derived.Deep.Cut
namespace Go.Proofs.YtaanepadgoefhaaGreatDoor
open Go.ChangeShapes Go.WideShapes Go.ChangeAt Go.RowKit Go.Maps
set_option linter.unusedVariables false
set_option linter.unusedSimpArgs false
theorem eleAt_len (P : Pln) (i : Int) : (eleAt P i).l = lenP P i := by
  unfold eleAt lenP
  by_cases h0 : 0 ≤ i
  · by_cases h1 : i < P.es.length
    · rw [if_pos h0, if_pos ⟨h0, h1⟩]
    · rw [if_pos h0, if_neg (by omega), List.getD_eq_getElem?_getD, List.getElem?_eq_none (by omega)]; rfl
  · rw [if_neg h0, if_neg (by omega)]; rfl
/-- in a fine plan who goes on goes on into something that has a length -/
theorem step_len {P : Pln} (hf : chk P = 0) (pos : List Int) (x : Prt) (h : (stepP P pos x).2 = 0) : 1 ≤ (eleAt P (stepP P pos x).1.e).l := by
  unfold stepP at h ⊢
  cases hn : nextL P.js x with
  | none => rw [hn] at h; cases h
  | some y =>
    rw [hn] at h
    dsimp only at h ⊢
    by_cases h4 : (eleAt P y.e).k = 4
    · rw [if_pos h4] at h; cases h
    · rw [if_neg h4] at h ⊢
      cases ht : throughL (outsK (eleAt P y.e).k y.x) (liesP pos y.e) with
      | none => rw [ht] at h; cases h
      | some o =>
        dsimp only
        have hj := (fine_parts hf).2.1
        unfold joinedB at hj
        simp only [Bool.and_eq_true, List.all_eq_true] at hj
        have hp := hj.1.1 y (nextL_mem _ _ _ hn)
        unfold hasP at hp
        simp only [Bool.and_eq_true, decide_eq_true_eq] at hp
        obtain ⟨⟨⟨p0, p1⟩, -⟩, -⟩ := hp
        have hlt : y.e.toNat < P.es.length := by omega
        have he : eleAt P y.e = P.es[y.e.toNat] := by unfold eleAt; rw [if_pos p0, getD_at _ _ hlt]
        have := fine_ele hf _ (List.getElem_mem hlt)
        rw [he] at h4 ⊢
        exact this.2.2.2.2.1 h4
set_option maxRecDepth 100000 in
set_option maxHeartbeats 8000000 in
theorem refSees_any (v u lv bv : Value) (P : Pln) (pos L : List Int) (B : Bdy) (w : World) (hP : IsPln w v P) (hk : PlnOk P) (hf : chk P = 0) (hv : IsVals w u (pos.map (Value.int .i64))) (hu : IsVals w lv (L.map (Value.int .i64))) (hB : IsBdy w bv B) (hT : ∀ x ∈ B.trail, PrtOk x)
    (hm1 : (B.mode = 1 ∨ B.mode = 2) → B.trail ≠ [] ∧ 0 ≤ B.left) (hm2 : ¬ (B.mode = 1 ∨ B.mode = 2) → B.mode = 4 ∨ B.trail = []) :
    Calls Tryz.prog 18 #[v, u, lv, bv] w fun e w' => e = .returned (.int .i64 (seesP P pos L B)) ∧ Gr w w' := by
  have HPI := Lib.hid hP
  obtain ⟨a1, c1, a2, c2, a3, c3, a4, c4, rfl, -⟩ := hP
  have HU := Lib.hid hu
  obtain ⟨ua, uc, rfl, hum, -⟩ := hu
  rw [List.length_map] at HU hum ⊢
  unfold maxLen at hum
  obtain ⟨a, c, rfl, h1⟩ := hB
  have htm := IsRow.len h1
  unfold maxLen at htm
  have hgW : Gr w ((w.alloc (.cells #[.slice a1 P.es.length c1, .slice a2 P.js.length c2, .slice a3 P.ss.length c3, .slice a4 P.ls.length c4, .int .i64 P.top, .int .i64 P.brake, .int .i64 P.margin, .int .i64 P.throw, .bool P.hard] 27)).alloc (.cells #[.int .i64 B.mode, .slice a B.trail.length c, .int .i64 B.left, .int .i64 B.over, .int .i64 B.v] 33)) := ((Gr.refl _).alloc _).alloc _
  have HPB : Hid (∀ w', Gr ((w.alloc (.cells #[.slice a1 P.es.length c1, .slice a2 P.js.length c2, .slice a3 P.ss.length c3, .slice a4 P.ls.length c4, .int .i64 P.top, .int .i64 P.brake, .int .i64 P.margin, .int .i64 P.throw, .bool P.hard] 27)).alloc (.cells #[.int .i64 B.mode, .slice a B.trail.length c, .int .i64 B.left, .int .i64 B.over, .int .i64 B.v] 33)) w' → PBox w' w.heap.size P (.slice a1 P.es.length c1) (.slice a2 P.js.length c2) (.slice a3 P.ss.length c3) (.slice a4 P.ls.length c4)) := fun w' g => (PBox.new w P _ _ _ _).gr (((Gr.refl _).alloc _).trans g)
  unfold plnV bdyV
  by_cases hmm : B.mode = 1 ∨ B.mode = 2
  · obtain ⟨hne, hl0⟩ := hm1 hmm
    have hlen : 0 < B.trail.length := List.length_pos_iff.2 hne
    have hll : B.trail.length - 1 < B.trail.length := by omega
    obtain ⟨bb, o, hs, z, y0, y1⟩ := h1.at (B.trail.length - 1) hll
    subst hs
    have hq : B.trail.getLast? = some B.trail[B.trail.length - 1] := by rw [List.getLast?_eq_getElem?, List.getElem?_eq_getElem hll]
    have hqk := hT _ (List.getElem_mem hll)
    have hm4 : B.mode ≠ 4 := by omega
    have HR : Hid (seesP P pos L B = if 0 < B.over then 4000 else seesL P pos L 4000 B.trail[B.trail.length - 1] (max B.left 0)) := by show _ = _; unfold seesP; rw [hq]; dsimp only; rw [if_neg hm4]
    generalize seesP P pos L B = R at HR ⊢
    generalize B.trail[B.trail.length - 1] = q at y0 y1 HR hqk
    obtain ⟨qe, qx⟩ := q
    dsimp only at y0 y1
    have yy0 : (((w.alloc (.cells #[.slice a1 P.es.length c1, .slice a2 P.js.length c2, .slice a3 P.ss.length c3, .slice a4 P.ls.length c4, .int .i64 P.top, .int .i64 P.brake, .int .i64 P.margin, .int .i64 P.throw, .bool P.hard] 27)).alloc (.cells #[.int .i64 B.mode, .slice (some ⟨bb, o, none⟩) B.trail.length c, .int .i64 B.left, .int .i64 B.over, .int .i64 B.v] 33))).cell? ⟨bb, o + (B.trail.length - 1) * 2, none⟩ = some (.int .i64 qe) := (hgW.cell _ _ z).trans y0
    have yy1 : (((w.alloc (.cells #[.slice a1 P.es.length c1, .slice a2 P.js.length c2, .slice a3 P.ss.length c3, .slice a4 P.ls.length c4, .int .i64 P.top, .int .i64 P.brake, .int .i64 P.margin, .int .i64 P.throw, .bool P.hard] 27)).alloc (.cells #[.int .i64 B.mode, .slice (some ⟨bb, o, none⟩) B.trail.length c, .int .i64 B.left, .int .i64 B.over, .int .i64 B.v] 33))).cell? ⟨bb, o + (B.trail.length - 1) * 2 + 1, none⟩ = some (.int .i64 qx) := (hgW.cell _ _ z).trans y1
    have tm : (B.mode != 1) = false ∨ ((B.mode != 1) = true ∧ (B.mode != 2) = false) := by
      rcases hmm with h | h
      · exact .inl (by simpa using h)
      · exact .inr ⟨by simp [h], by simpa using h⟩
    by_cases ho : 0 < B.over
    · have HR0 : Hid (R = 4000) := by show R = 4000; rw [HR.out, if_pos ho]
      clear HPI hm1 hm2 hmm hm4 hT h1
      rcases tm with tm | ⟨tm1, tm2⟩
      all_goals
        go_enter Tryz.func18, Tryz.ntmps18
        go_wp2_with fail
        go_ret
        exact ⟨ret_int HR0.out.symm, hgW⟩
    have HR0 : Hid (seesL P pos L 4000 ⟨qe, qx⟩ B.left = R) := by show _ = _; rw [HR.out, if_neg ho, show max B.left 0 = B.left from by omega]
    have hhb : w.heap.size ≤ w.heap.size + 1 + 1 := by omega
    have hhW : (((w.alloc (.cells #[.slice a1 P.es.length c1, .slice a2 P.js.length c2, .slice a3 P.ss.length c3, .slice a4 P.ls.length c4, .int .i64 P.top, .int .i64 P.brake, .int .i64 P.margin, .int .i64 P.throw, .bool P.hard] 27)).alloc (.cells #[.int .i64 B.mode, .slice (some ⟨bb, o, none⟩) B.trail.length c, .int .i64 B.left, .int .i64 B.over, .int .i64 B.v] 33))).heap.size ≤ w.heap.size + 1 + 1 := by simp
    have HRD00 := Lib.hid (fun (x : Prt) (w' : World) (g : Gr w w') => refReads_any _ P x w' (HPI.out.gr g))
    have HST00 := Lib.hid (fun (x : Prt) (w' : World) (g : Gr w w') => refStep_any _ u P pos x w' (HPI.out.gr g) (hv.gr g))
    have HLN00 := Lib.hid (fun (m : Int) (w' : World) (g : Gr w w') => length_any _ P m w' (HPI.out.gr g))
    have HPS00 := Lib.hid (fun (k : Nat) (w' : World) (g : Gr w w') => refPasses_any _ L k w' (HU.out.gr g))
    unfold plnV at HRD00 HST00 HLN00
    clear HPI hm1 hm2 hmm hm4 hT h1 HR hne
    rcases tm with tm | ⟨tm1, tm2⟩
    all_goals
      go_enter Tryz.func18, Tryz.ntmps18
      go_wp2_with fail
      generalize hW : (((w.alloc (.cells #[.slice a1 P.es.length c1, .slice a2 P.js.length c2, .slice a3 P.ss.length c3, .slice a4 P.ls.length c4, .int .i64 P.top, .int .i64 P.brake, .int .i64 P.margin, .int .i64 P.throw, .bool P.hard] 27)).alloc (.cells #[.int .i64 B.mode, .slice (some ⟨bb, o, none⟩) B.trail.length c, .int .i64 B.left, .int .i64 B.over, .int .i64 B.v] 33))).alloc (.cells #[.int .i64 qe, .int .i64 qx] 68) = W at *
      have HS0 : Hid (SeeW w W (w.heap.size + 1 + 1) ⟨qe, qx⟩) := by
        subst hW
        exact ⟨hgW.alloc _, by simp, by go_simp, by go_simp, by go_simp, by go_simp⟩
      have HGW : Hid (Gr ((w.alloc (.cells #[.slice a1 P.es.length c1, .slice a2 P.js.length c2, .slice a3 P.ss.length c3, .slice a4 P.ls.length c4, .int .i64 P.top, .int .i64 P.brake, .int .i64 P.margin, .int .i64 P.throw, .bool P.hard] 27)).alloc (.cells #[.int .i64 B.mode, .slice (some ⟨bb, o, none⟩) B.trail.length c, .int .i64 B.left, .int .i64 B.over, .int .i64 B.v] 33)) W) := by subst hW; exact (Gr.refl _).alloc _
      clear hW y0 y1 yy0 yy1 ho z
      go_loopw [10] (fun x wr => SeeR P pos L R w (w.heap.size + 1 + 1) x wr ∧ Gr ((w.alloc (.cells #[.slice a1 P.es.length c1, .slice a2 P.js.length c2, .slice a3 P.ss.length c3, .slice a4 P.ls.length c4, .int .i64 P.top, .int .i64 P.brake, .int .i64 P.margin, .int .i64 P.throw, .bool P.hard] 27)).alloc (.cells #[.int .i64 B.mode, .slice (some ⟨bb, o, none⟩) B.trail.length c, .int .i64 B.left, .int .i64 B.over, .int .i64 B.v] 33)) wr) (fun x _ => (4000 - intOf x).toNat)
      case atStart => exact ⟨⟨4000, ⟨qe, qx⟩, B.left, rfl, HR0, by omega, hl0, hqk, HS0.out⟩, HGW.out⟩
      case round =>
        clear HS0 HR0 hqk HGW
        obtain ⟨⟨n, h, left, rfl, HS, hn, hl0', hok, hS⟩, gW⟩ := hrel
        by_cases hlt : left < 4000
        · obtain ⟨n, rfl⟩ : ∃ m, n = m + 1 := ⟨n - 1, by omega⟩
          obtain ⟨he, hx⟩ := h
          have g0 := hS.gr
          have HE : Hid (R = if stopsB P L ⟨he, hx⟩ then left else
              if (stepP P pos ⟨he, hx⟩).2 = 0 then seesL P pos L n (stepP P pos ⟨he, hx⟩).1 (left + max (eleAt P (stepP P pos ⟨he, hx⟩).1.e).l 1)
              else if (stepP P pos ⟨he, hx⟩).2 = 2 then 4000 else left) := by show _ = _; rw [← HS.out]; exact seesL_succ P pos L n _ left hlt
          have HRD0 : Hid (∀ w', Gr w w' → Calls Tryz.prog 51 #[(.agg #[.slice a1 P.es.length c1, .slice a2 P.js.length c2, .slice a3 P.ss.length c3, .slice a4 P.ls.length c4, .int .i64 P.top, .int .i64 P.brake, .int .i64 P.margin, .int .i64 P.throw, .bool P.hard]), .agg #[.int .i64 he, .int .i64 hx]] w' fun e w'' => e = .returned (.int .i64 (readsN P.ss ⟨he, hx⟩)) ∧ Gr w' w'') := fun w' g => HRD00.out ⟨he, hx⟩ w' g
          have HST0 : Hid (∀ w', Gr w w' → Calls Tryz.prog 53 #[(.agg #[.slice a1 P.es.length c1, .slice a2 P.js.length c2, .slice a3 P.ss.length c3, .slice a4 P.ls.length c4, .int .i64 P.top, .int .i64 P.brake, .int .i64 P.margin, .int .i64 P.throw, .bool P.hard]), u, .agg #[.int .i64 he, .int .i64 hx]] w' fun e w'' => e = .returned (stpR (stepP P pos ⟨he, hx⟩)) ∧ Gr w' w'') := fun w' g => HST00.out ⟨he, hx⟩ w' g
          have HL1 := Lib.hid (step_len hf pos ⟨he, hx⟩)
          have hok2 := stepP_ok hk pos ⟨he, hx⟩
          have HSW := Lib.hid (fun (w' : World) (g : Gr wr w') => hS.step g)
          obtain ⟨zb0, p0, p1, p2, p3, p4, p5, p6, p7, p8⟩ := HPB.out _ gW
          obtain ⟨-, hlt', x0, x1, -, -⟩ := hS
          have HRS : Hid (readsN P.ss ⟨he, hx⟩ = match readsL P.ss ⟨he, hx⟩ with | some k => (k : Int) | none => -1) := rfl
          have HSB : Hid (stopsB P L ⟨he, hx⟩ = match readsL P.ss ⟨he, hx⟩ with | none => false | some i => !passP L i) := rfl
          generalize readsN P.ss ⟨he, hx⟩ = s at HRD0 HRS
          generalize stopsB P L ⟨he, hx⟩ = sb at HE HSB
          generalize stepP P pos ⟨he, hx⟩ = r at HE HST0 hok2 HL1
          obtain ⟨⟨ye, yx⟩, q⟩ := r
          dsimp only at HE hok2 HL1
          have HLN1 : Hid (∀ w', Gr w w' → Calls Tryz.prog 43 #[(.agg #[.slice a1 P.es.length c1, .slice a2 P.js.length c2, .slice a3 P.ss.length c3, .slice a4 P.ls.length c4, .int .i64 P.top, .int .i64 P.brake, .int .i64 P.margin, .int .i64 P.throw, .bool P.hard]), .int .i64 ye] w' fun e w'' => e = .returned (.int .i64 (eleAt P ye).l) ∧ Gr w' w'') := fun w' g => by have := HLN00.out ye w' g; rw [← eleAt_len] at this; exact this
          have hly := (fine_len hf ye).1
          generalize (eleAt P ye).l = ly at HE HLN1 hly HL1
          have HST1 : Hid (∀ w', Gr w w' → Calls Tryz.prog 53 #[(.agg #[.slice a1 P.es.length c1, .slice a2 P.js.length c2, .slice a3 P.ss.length c3, .slice a4 P.ls.length c4, .int .i64 P.top, .int .i64 P.brake, .int .i64 P.margin, .int .i64 P.throw, .bool P.hard]), u, .agg #[.int .i64 he, .int .i64 hx]] w' fun e w'' => e = .returned (.tuple #[.agg #[.int .i64 ye, .int .i64 yx], .int .i64 q]) ∧ Gr w' w'') := HST0.out
          clear HST0 HS
          cases hr : readsL P.ss ⟨he, hx⟩ with
          | none =>
            rw [hr] at HRS HSB
            dsimp only at HRS HSB
            obtain rfl := HRS.out
            obtain rfl := HSB.out
            have HRD := HRD0
            clear HRD0 HRS HSB hr
            by_cases q0 : q = 0
            · have HQ : Hid (seesL P pos L n ⟨ye, yx⟩ (left + max ly 1) = R) := by show _ = _; rw [HE.out, if_neg (by simp), if_pos q0]
              have hly1 : 1 ≤ ly := HL1.out q0
              have hmx : max ly 1 = ly := by omega
              rw [hmx] at HQ
              clear hmx
              subst q0
              clear HE HL1
              go_wp2_with (first | (go_at_call 51; (with_reducible refine (HRD.out _ g0).mono ?_); rintro e w3 ⟨rfl, g3⟩; have gw3 := g0.trans g3; have gW3 := gW.trans g3; obtain ⟨-, hz3, c03, c13, -, -⟩ := HSW.out _ g3; obtain ⟨zb3, d0, d1, d2, d3, d4, d5, d6, d7, d8⟩ := HPB.out _ gW3) | (go_at_call 52; (with_reducible refine (HPS.out _ gw3).mono ?_); rintro e wq ⟨rfl, hwq⟩; obtain rfl := hwq.symm) | (go_at_call 53; (with_reducible refine (HST1.out _ gw3).mono ?_); rintro e w4 ⟨rfl, g4⟩; have gw4 := gw3.trans g4; have gW4 := gW3.trans g4; obtain ⟨zb4, k0, k1, k2, k3, k4, k5, k6, k7, k8⟩ := HPB.out _ gW4; obtain ⟨-, hz4, h40, h41, i40, i41⟩ := HSW.out _ (g3.trans g4); have hS4 := (HSW.out _ (g3.trans g4)); have hSf := (hS4.put hhb ye yx).step ((Gr.refl _).alloc (.cells #[.int .i64 ye, .int .i64 yx] 68)); have gWf := ((gW4.setCell (p := ⟨w.heap.size + 1 + 1, 0, none⟩) hhW (.int .i64 ye)).setCell (p := ⟨w.heap.size + 1 + 1, 1, none⟩) hhW (.int .i64 yx)).alloc (.cells #[.int .i64 ye, .int .i64 yx] 68)) | (go_at_call 43; (with_reducible refine (HLN1.out _ ?_).mono ?_); (exact hSf.gr); rintro e w5 ⟨rfl, g5⟩) | fail)
              go_roundw
              case rel => exact ⟨⟨n, ⟨ye, yx⟩, left + ly, by first | rfl | exact congrArg (Value.int .i64) (by omega), HQ, by omega, by omega, hok2, (hSf.step g5)⟩, gWf.trans g5⟩
              case measure => simp [intOf]; omega
            by_cases q2 : q = 2
            · have HQ : Hid (R = 4000) := by show _ = _; rw [HE.out, if_neg (by simp), if_neg q0, if_pos q2]
              subst q2
              clear HE HL1
              go_wp2_with (first | (go_at_call 51; (with_reducible refine (HRD.out _ g0).mono ?_); rintro e w3 ⟨rfl, g3⟩; have gw3 := g0.trans g3; have gW3 := gW.trans g3; obtain ⟨-, hz3, c03, c13, -, -⟩ := HSW.out _ g3; obtain ⟨zb3, d0, d1, d2, d3, d4, d5, d6, d7, d8⟩ := HPB.out _ gW3) | (go_at_call 52; (with_reducible refine (HPS.out _ gw3).mono ?_); rintro e wq ⟨rfl, hwq⟩; obtain rfl := hwq.symm) | (go_at_call 53; (with_reducible refine (HST1.out _ gw3).mono ?_); rintro e w4 ⟨rfl, g4⟩; have gw4 := gw3.trans g4; have gW4 := gW3.trans g4; obtain ⟨zb4, k0, k1, k2, k3, k4, k5, k6, k7, k8⟩ := HPB.out _ gW4; obtain ⟨-, hz4, h40, h41, i40, i41⟩ := HSW.out _ (g3.trans g4); have hS4 := (HSW.out _ (g3.trans g4)); have hSf := (hS4.put hhb ye yx).step ((Gr.refl _).alloc (.cells #[.int .i64 ye, .int .i64 yx] 68)); have gWf := ((gW4.setCell (p := ⟨w.heap.size + 1 + 1, 0, none⟩) hhW (.int .i64 ye)).setCell (p := ⟨w.heap.size + 1 + 1, 1, none⟩) hhW (.int .i64 yx)).alloc (.cells #[.int .i64 ye, .int .i64 yx] 68)) | fail)
              go_ret
              exact ⟨ret_int HQ.out.symm, gw4.alloc _⟩
            have HQ : Hid (R = left) := by show _ = _; rw [HE.out, if_neg (by simp), if_neg q0, if_neg q2]
            have t0 : (q != 0) = true := by simpa using q0
            have t2 : (q == 2) = false := by simpa using q2
            clear q0 q2 HE HL1
            go_wp2_with (first | (go_at_call 51; (with_reducible refine (HRD.out _ g0).mono ?_); rintro e w3 ⟨rfl, g3⟩; have gw3 := g0.trans g3; have gW3 := gW.trans g3; obtain ⟨-, hz3, c03, c13, -, -⟩ := HSW.out _ g3; obtain ⟨zb3, d0, d1, d2, d3, d4, d5, d6, d7, d8⟩ := HPB.out _ gW3) | (go_at_call 52; (with_reducible refine (HPS.out _ gw3).mono ?_); rintro e wq ⟨rfl, hwq⟩; obtain rfl := hwq.symm) | (go_at_call 53; (with_reducible refine (HST1.out _ gw3).mono ?_); rintro e w4 ⟨rfl, g4⟩; have gw4 := gw3.trans g4; have gW4 := gW3.trans g4; obtain ⟨zb4, k0, k1, k2, k3, k4, k5, k6, k7, k8⟩ := HPB.out _ gW4; obtain ⟨-, hz4, h40, h41, i40, i41⟩ := HSW.out _ (g3.trans g4); have hS4 := (HSW.out _ (g3.trans g4)); have hSf := (hS4.put hhb ye yx).step ((Gr.refl _).alloc (.cells #[.int .i64 ye, .int .i64 yx] 68)); have gWf := ((gW4.setCell (p := ⟨w.heap.size + 1 + 1, 0, none⟩) hhW (.int .i64 ye)).setCell (p := ⟨w.heap.size + 1 + 1, 1, none⟩) hhW (.int .i64 yx)).alloc (.cells #[.int .i64 ye, .int .i64 yx] 68)) | fail)
            go_ret
            exact ⟨ret_int HQ.out.symm, gw4.alloc _⟩
          | some i =>
            rw [hr] at HRS HSB
            dsimp only at HRS HSB
            obtain rfl := HRS.out
            have HRD := HRD0
            have HPS0 := Lib.hid (HPS00.out i)
            clear HRD0 HRS hr
            cases hp : passP L i
            · rw [hp] at HSB HPS0
              have HPS : Hid (∀ w', Gr w w' → Calls Tryz.prog 52 #[.slice ua L.length uc, .int .i64 i] w' fun e w'' => e = .returned (.bool false) ∧ w'' = w') := HPS0.out
              obtain rfl : sb = true := HSB.out
              have HQ : Hid (R = left) := HE.out
              clear HSB HE hp HPS0 HL1
              go_wp2_with (first | (go_at_call 51; (with_reducible refine (HRD.out _ g0).mono ?_); rintro e w3 ⟨rfl, g3⟩; have gw3 := g0.trans g3; have gW3 := gW.trans g3; obtain ⟨-, hz3, c03, c13, -, -⟩ := HSW.out _ g3; obtain ⟨zb3, d0, d1, d2, d3, d4, d5, d6, d7, d8⟩ := HPB.out _ gW3) | (go_at_call 52; (with_reducible refine (HPS.out _ gw3).mono ?_); rintro e wq ⟨rfl, hwq⟩; obtain rfl := hwq.symm) | fail)
              go_ret
              exact ⟨ret_int HQ.out.symm, gw3⟩
            · rw [hp] at HSB HPS0
              have HPS : Hid (∀ w', Gr w w' → Calls Tryz.prog 52 #[.slice ua L.length uc, .int .i64 i] w' fun e w'' => e = .returned (.bool true) ∧ w'' = w') := HPS0.out
              obtain rfl : sb = false := HSB.out
              clear HSB hp HPS0
              by_cases q0 : q = 0
              · have HQ : Hid (seesL P pos L n ⟨ye, yx⟩ (left + max ly 1) = R) := by show _ = _; rw [HE.out, if_neg (by simp), if_pos q0]
                have hly1 : 1 ≤ ly := HL1.out q0
                have hmx : max ly 1 = ly := by omega
                rw [hmx] at HQ
                clear hmx
                subst q0
                clear HE HL1
                go_wp2_with (first | (go_at_call 51; (with_reducible refine (HRD.out _ g0).mono ?_); rintro e w3 ⟨rfl, g3⟩; have gw3 := g0.trans g3; have gW3 := gW.trans g3; obtain ⟨-, hz3, c03, c13, -, -⟩ := HSW.out _ g3; obtain ⟨zb3, d0, d1, d2, d3, d4, d5, d6, d7, d8⟩ := HPB.out _ gW3) | (go_at_call 52; (with_reducible refine (HPS.out _ gw3).mono ?_); rintro e wq ⟨rfl, hwq⟩; obtain rfl := hwq.symm) | (go_at_call 53; (with_reducible refine (HST1.out _ gw3).mono ?_); rintro e w4 ⟨rfl, g4⟩; have gw4 := gw3.trans g4; have gW4 := gW3.trans g4; obtain ⟨zb4, k0, k1, k2, k3, k4, k5, k6, k7, k8⟩ := HPB.out _ gW4; obtain ⟨-, hz4, h40, h41, i40, i41⟩ := HSW.out _ (g3.trans g4); have hS4 := (HSW.out _ (g3.trans g4)); have hSf := (hS4.put hhb ye yx).step ((Gr.refl _).alloc (.cells #[.int .i64 ye, .int .i64 yx] 68)); have gWf := ((gW4.setCell (p := ⟨w.heap.size + 1 + 1, 0, none⟩) hhW (.int .i64 ye)).setCell (p := ⟨w.heap.size + 1 + 1, 1, none⟩) hhW (.int .i64 yx)).alloc (.cells #[.int .i64 ye, .int .i64 yx] 68)) | (go_at_call 43; (with_reducible refine (HLN1.out _ ?_).mono ?_); (exact hSf.gr); rintro e w5 ⟨rfl, g5⟩) | fail)
                go_roundw
                case rel => exact ⟨⟨n, ⟨ye, yx⟩, left + ly, by first | rfl | exact congrArg (Value.int .i64) (by omega), HQ, by omega, by omega, hok2, (hSf.step g5)⟩, gWf.trans g5⟩
                case measure => simp [intOf]; omega
              by_cases q2 : q = 2
              · have HQ : Hid (R = 4000) := by show _ = _; rw [HE.out, if_neg (by simp), if_neg q0, if_pos q2]
                subst q2
                clear HE HL1
                go_wp2_with (first | (go_at_call 51; (with_reducible refine (HRD.out _ g0).mono ?_); rintro e w3 ⟨rfl, g3⟩; have gw3 := g0.trans g3; have gW3 := gW.trans g3; obtain ⟨-, hz3, c03, c13, -, -⟩ := HSW.out _ g3; obtain ⟨zb3, d0, d1, d2, d3, d4, d5, d6, d7, d8⟩ := HPB.out _ gW3) | (go_at_call 52; (with_reducible refine (HPS.out _ gw3).mono ?_); rintro e wq ⟨rfl, hwq⟩; obtain rfl := hwq.symm) | (go_at_call 53; (with_reducible refine (HST1.out _ gw3).mono ?_); rintro e w4 ⟨rfl, g4⟩; have gw4 := gw3.trans g4; have gW4 := gW3.trans g4; obtain ⟨zb4, k0, k1, k2, k3, k4, k5, k6, k7, k8⟩ := HPB.out _ gW4; obtain ⟨-, hz4, h40, h41, i40, i41⟩ := HSW.out _ (g3.trans g4); have hS4 := (HSW.out _ (g3.trans g4)); have hSf := (hS4.put hhb ye yx).step ((Gr.refl _).alloc (.cells #[.int .i64 ye, .int .i64 yx] 68)); have gWf := ((gW4.setCell (p := ⟨w.heap.size + 1 + 1, 0, none⟩) hhW (.int .i64 ye)).setCell (p := ⟨w.heap.size + 1 + 1, 1, none⟩) hhW (.int .i64 yx)).alloc (.cells #[.int .i64 ye, .int .i64 yx] 68)) | fail)
                go_ret
                exact ⟨ret_int HQ.out.symm, gw4.alloc _⟩
              have HQ : Hid (R = left) := by show _ = _; rw [HE.out, if_neg (by simp), if_neg q0, if_neg q2]
              have t0 : (q != 0) = true := by simpa using q0
              have t2 : (q == 2) = false := by simpa using q2
              clear q0 q2 HE HL1
              go_wp2_with (first | (go_at_call 51; (with_reducible refine (HRD.out _ g0).mono ?_); rintro e w3 ⟨rfl, g3⟩; have gw3 := g0.trans g3; have gW3 := gW.trans g3; obtain ⟨-, hz3, c03, c13, -, -⟩ := HSW.out _ g3; obtain ⟨zb3, d0, d1, d2, d3, d4, d5, d6, d7, d8⟩ := HPB.out _ gW3) | (go_at_call 52; (with_reducible refine (HPS.out _ gw3).mono ?_); rintro e wq ⟨rfl, hwq⟩; obtain rfl := hwq.symm) | (go_at_call 53; (with_reducible refine (HST1.out _ gw3).mono ?_); rintro e w4 ⟨rfl, g4⟩; have gw4 := gw3.trans g4; have gW4 := gW3.trans g4; obtain ⟨zb4, k0, k1, k2, k3, k4, k5, k6, k7, k8⟩ := HPB.out _ gW4; obtain ⟨-, hz4, h40, h41, i40, i41⟩ := HSW.out _ (g3.trans g4); have hS4 := (HSW.out _ (g3.trans g4)); have hSf := (hS4.put hhb ye yx).step ((Gr.refl _).alloc (.cells #[.int .i64 ye, .int .i64 yx] 68)); have gWf := ((gW4.setCell (p := ⟨w.heap.size + 1 + 1, 0, none⟩) hhW (.int .i64 ye)).setCell (p := ⟨w.heap.size + 1 + 1, 1, none⟩) hhW (.int .i64 yx)).alloc (.cells #[.int .i64 ye, .int .i64 yx] 68)) | fail)
              go_ret
              exact ⟨ret_int HQ.out.symm, gw4.alloc _⟩
        · have HF : Hid (R = 4000) := by show _ = _; rw [← HS.out]; exact seesL_far P pos L n h left (by omega)
          have g0 := hS.gr
          go_wp2_with fail
          go_ret
          exact ⟨ret_int HF.out.symm, g0⟩
  · have HR : Hid (seesP P pos L B = 0) := by
      show _ = _
      unfold seesP
      rcases hm2 hmm with h | h
      · cases B.trail.getLast? with
        | none => rfl
        | some q => dsimp only; rw [if_pos h]
      · rw [h]; rfl
    have tm1 : (B.mode != 1) = true := by simp; omega
    have tm2 : (B.mode != 2) = true := by simp; omega
    clear HPI hm1 hm2 hmm hT h1
    go_enter Tryz.func18, Tryz.ntmps18
    go_wp2_with fail
    go_ret
    exact ⟨ret_int HR.out.symm, hgW⟩
end Go.Proofs.YtaanepadgoefhaaGreatDoor
