/- hand.Sees. -/
import Derived.Test.YtaanepadgoefhaaGreatDoorRows
import Derived.Test.YtaanepadgoefhaaGreatDoorRSeeP
import Derived.Test.YtaanepadgoefhaaGreatDoorB1
import Derived.Deep.Cut
import Derived.Deep.DrawnRows
namespace Go.Proofs.YtaanepadgoefhaaGreatDoor
open Go.ChangeShapes Go.WideShapes Go.ChangeAt Go.RowKit Go.Maps
set_option linter.unusedVariables false
set_option linter.unusedSimpArgs false
attribute [local go_sem ↓] Go.wp_at_zero Go.wp_at_succ
/-- what the walk of Sees keeps: the heading h in block hb -/
structure SeeW (w0 w : World) (hb : Nat) (h : Prt) : Prop where
  gr : Gr w0 w
  lt : hb < w.heap.size
  c0 : w.cell? ⟨hb, 0, none⟩ = some (.int .i64 h.e)
  c1 : w.cell? ⟨hb, 1, none⟩ = some (.int .i64 h.x)
  f0 : w.frozen? ⟨hb, 0, none⟩ = false
  f1 : w.frozen? ⟨hb, 1, none⟩ = false
theorem SeeW.step {w0 w w' : World} {hb : Nat} {h : Prt} (k : SeeW w0 w hb h) (g : Gr w w') : SeeW w0 w' hb h :=
  ⟨k.gr.trans g, Nat.lt_of_lt_of_le k.lt g.size, (g.cell _ _ k.lt).trans k.c0, (g.cell _ _ k.lt).trans k.c1, (g.frozen _ _ k.lt).trans k.f0, (g.frozen _ _ k.lt).trans k.f1⟩
theorem SeeW.put {w0 w : World} {hb : Nat} {h : Prt} (k : SeeW w0 w hb h) (h0 : w0.heap.size ≤ hb) (e x : Int) : SeeW w0 ((w.setCell ⟨hb, 0, none⟩ (.int .i64 e)).setCell ⟨hb, 1, none⟩ (.int .i64 x)) hb ⟨e, x⟩ :=
  ⟨(k.gr.setCell h0 _).setCell h0 _, by simpa using k.lt,
    (World.cell?_setCell_other _ _ _ _ (by simp)).trans (World.cell?_setCell_same _ _ _ k.c0),
    World.cell?_setCell_same _ _ _ ((World.cell?_setCell_other _ _ _ _ (by simp)).trans k.c1),
    by simpa using k.f0, by simpa using k.f1⟩
def SeeR (P : Pln) (pos L : List Int) (R : Int) (w : World) (hb : Nat) (x : Value) (wr : World) : Prop :=
  ∃ (n : Nat) (h : Prt) (left : Int), x = .int .i64 left ∧ Hid (seesL P pos L n h left = R) ∧ 4000 ≤ left + n ∧ 0 ≤ left ∧ PrtOk h ∧ SeeW w wr hb h
set_option maxRecDepth 100000 in
set_option maxHeartbeats 8000000 in
theorem sees_any (b : Nat) (P : Pln) (v u bv : Value) (pos L : List Int) (B : Bdy) (w : World) (hN : NetIs w b P) (hv : IsVals w v (pos.map (Value.int .i64))) (hu : IsVals w u (L.map (Value.int .i64))) (hB : IsBdy w bv B) (hk : PlnOk P) (hT : ∀ x ∈ B.trail, PrtOk x) (hl : ∀ m, (eleAt P m).l ≤ 4000) :
    Calls Tryz.prog 17 #[.pointer (some ⟨b, 0, none⟩), v, u, bv] w fun e w' => e = .returned (.int .i64 (seesP P pos L B)) ∧ Gr w w' := by
  have HU := Lib.hid hu
  obtain ⟨ua, uc, rfl, hum, -⟩ := hu
  rw [List.length_map] at HU hum ⊢
  unfold maxLen at hum
  obtain ⟨a, c, rfl, h1⟩ := hB
  have HH : Hid (∀ w', Gr w w' → Calls Tryz.prog 46 #[.agg #[.int .i64 B.mode, .slice a B.trail.length c, .int .i64 B.left, .int .i64 B.over, .int .i64 B.v]] w' fun e w'' => e = .returned (prtR B.trail.getLast?) ∧ Gr w' w'') := fun w' g => head_any _ B w' ⟨a, c, rfl, h1.gr g⟩
  have hw0 : Gr w (w.alloc (.cells #[.int .i64 B.mode, .slice a B.trail.length c, .int .i64 B.left, .int .i64 B.over, .int .i64 B.v] 33)) := (Gr.refl _).alloc _
  have HBX : Hid (∀ w', Gr (w.alloc (.cells #[.int .i64 B.mode, .slice a B.trail.length c, .int .i64 B.left, .int .i64 B.over, .int .i64 B.v] 33)) w' → w.heap.size < w'.heap.size ∧ w'.cell? ⟨w.heap.size, 0, none⟩ = some (.int .i64 B.mode) ∧ w'.cell? ⟨w.heap.size, 2, none⟩ = some (.int .i64 B.left) ∧ w'.cell? ⟨w.heap.size, 3, none⟩ = some (.int .i64 B.over)) := by
    intro w' g
    have hz : w.heap.size < ((w.alloc (.cells #[.int .i64 B.mode, .slice a B.trail.length c, .int .i64 B.left, .int .i64 B.over, .int .i64 B.v] 33))).heap.size := by simp
    exact ⟨Nat.lt_of_lt_of_le hz g.size, (g.cell _ _ hz).trans (by rw [World.cell?_alloc_mark]; rfl), (g.cell _ _ hz).trans (by rw [World.cell?_alloc_mark]; rfl), (g.cell _ _ hz).trans (by rw [World.cell?_alloc_mark]; rfl)⟩
  unfold bdyV
  clear h1
  cases hq : B.trail.getLast? with
  | none =>
    have HR : Hid (seesP P pos L B = 0) := by show seesP P pos L B = 0; unfold seesP; rw [hq]
    have HH1 : Hid (∀ w', Gr w w' → Calls Tryz.prog 46 #[.agg #[.int .i64 B.mode, .slice a B.trail.length c, .int .i64 B.left, .int .i64 B.over, .int .i64 B.v]] w' fun e w'' => e = .returned (.tuple #[.agg #[.int .i64 0, .int .i64 0], .bool false]) ∧ Gr w' w'') := fun w' g => by have := HH.out w' g; rw [hq] at this; exact this
    clear hq HH
    go_enter Tryz.func17, Tryz.ntmps17
    go_wp2_with (first | (go_at_call 46; (with_reducible refine (HH1.out _ hw0).mono ?_); rintro e w1 ⟨rfl, g1⟩) | fail)
    go_ret
    exact ⟨ret_int HR.out.symm, (hw0.trans g1).alloc _⟩
  | some q =>
    have hqm : q ∈ B.trail := List.mem_of_getLast? hq
    have hqk := hT q hqm
    have HR : Hid (seesP P pos L B = if B.mode = 4 then 0 else if 0 < B.over then 4000 else seesL P pos L 4000 q (max B.left 0)) := by show _ = _; unfold seesP; rw [hq]
    obtain ⟨qe, qx⟩ := q
    have HH1 : Hid (∀ w', Gr w w' → Calls Tryz.prog 46 #[.agg #[.int .i64 B.mode, .slice a B.trail.length c, .int .i64 B.left, .int .i64 B.over, .int .i64 B.v]] w' fun e w'' => e = .returned (.tuple #[.agg #[.int .i64 qe, .int .i64 qx], .bool true]) ∧ Gr w' w'') := fun w' g => by have := HH.out w' g; rw [hq] at this; exact this
    clear hq HH hqm
    generalize seesP P pos L B = R at HR ⊢
    by_cases hm : B.mode = 4
    · have hm' : (B.mode == 4) = true := by simpa using hm
      have HR0 : Hid (R = 0) := by show R = 0; rw [HR.out, if_pos hm]
      clear hm
      go_enter Tryz.func17, Tryz.ntmps17
      go_wp2_with (first | (go_at_call 46; (with_reducible refine (HH1.out _ hw0).mono ?_); rintro e w1 ⟨rfl, g1⟩; obtain ⟨hzb, b0, b2, b3⟩ := HBX.out _ ((g1.alloc (.cells #[.int .i64 qe, .int .i64 qx] 68)))) | fail)
      go_ret
      exact ⟨ret_int HR0.out.symm, (hw0.trans g1).alloc _⟩
    have hm' : (B.mode == 4) = false := by simpa using hm
    by_cases ho : 0 < B.over
    · have HR0 : Hid (R = 4000) := by show R = 4000; rw [HR.out, if_neg hm, if_pos ho]
      clear hm
      go_enter Tryz.func17, Tryz.ntmps17
      go_wp2_with (first | (go_at_call 46; (with_reducible refine (HH1.out _ hw0).mono ?_); rintro e w1 ⟨rfl, g1⟩; obtain ⟨hzb, b0, b2, b3⟩ := HBX.out _ ((g1.alloc (.cells #[.int .i64 qe, .int .i64 qx] 68)))) | fail)
      go_ret
      exact ⟨ret_int HR0.out.symm, (hw0.trans g1).alloc _⟩
    have HR0 : Hid (seesL P pos L 4000 ⟨qe, qx⟩ (max B.left 0) = R) := by show _ = _; rw [HR.out, if_neg hm, if_neg ho]
    clear hm HR
    go_enter Tryz.func17, Tryz.ntmps17
    go_upto_region 6 with (first | (go_at_call 46; (with_reducible refine (HH1.out _ hw0).mono ?_); rintro e w1 ⟨rfl, g1⟩; obtain ⟨hzb, b0, b2, b3⟩ := HBX.out _ ((g1.alloc (.cells #[.int .i64 qe, .int .i64 qx] 68)))) | fail)
    generalize hW : w1.alloc (.cells #[.int .i64 qe, .int .i64 qx] 68) = W at *
    have HS0 : Hid (SeeW w W w1.heap.size ⟨qe, qx⟩) := by
      subst hW
      exact ⟨(hw0.trans g1).alloc _, by simp, by rw [World.cell?_alloc_mark]; rfl, by rw [World.cell?_alloc_mark]; rfl, by simp, by simp⟩
    have hhb : w.heap.size ≤ w1.heap.size := (hw0.trans g1).size
    generalize w1.heap.size = hb at HS0 hhb ⊢
    go_cut [11] from 12 (fun x wc => Hid (x = .int .i64 (max B.left 0)) ∧ wc = W)
    case first =>
      go_wp2_with fail
      all_goals
        go_meet
        case rel => exact ⟨by (first | rfl | exact congrArg (Value.int .i64) (show (0 : Int) = max B.left 0 by omega) | exact congrArg (Value.int .i64) (show B.left = max B.left 0 by omega)), rfl⟩
    case rest =>
      obtain ⟨hx0, rfl⟩ := hcut
      obtain rfl := hx0.out
      clear hx0
      clear hW g1 hzb b0 b2 b3 HBX HH1 hw0 ho hm'
      go_wp2_with fail
      go_loopw [11] (fun x wr => SeeR P pos L R w hb x wr) (fun x _ => (4000 - intOf x).toNat)
      case atStart => exact ⟨4000, ⟨qe, qx⟩, max B.left 0, rfl, HR0, by omega, by omega, hqk, HS0.out⟩
      case round =>
        clear HS0 HR0 hqk
        obtain ⟨n, h, left, rfl, HS, hn, hl0, hok, hS⟩ := hrel
        by_cases hlt : left < 4000
        · obtain ⟨n, rfl⟩ : ∃ m, n = m + 1 := ⟨n - 1, by omega⟩
          obtain ⟨he, hx⟩ := h
          have g0 := hS.gr
          have HE : Hid (R = if stopsB P L ⟨he, hx⟩ then left else
              if (stepP P pos ⟨he, hx⟩).2 = 0 then seesL P pos L n (stepP P pos ⟨he, hx⟩).1 (left + max (eleAt P (stepP P pos ⟨he, hx⟩).1.e).l 1)
              else if (stepP P pos ⟨he, hx⟩).2 = 2 then 4000 else left) := by show _ = _; rw [← HS.out]; exact seesL_succ P pos L n _ left hlt
          have HRD0 : Hid (∀ w', Gr w w' → Calls Tryz.prog 47 #[.pointer (some ⟨b, 0, none⟩), .agg #[.int .i64 he, .int .i64 hx]] w' fun e w'' => e = .returned (.int .i64 (readsN P.ss ⟨he, hx⟩)) ∧ Gr w' w'') := fun w' g => netReads_any b P ⟨he, hx⟩ w' (hN.gr g) hok
          have HST0 : Hid (∀ w', Gr w w' → Calls Tryz.prog 49 #[.pointer (some ⟨b, 0, none⟩), v, .agg #[.int .i64 he, .int .i64 hx]] w' fun e w'' => e = .returned (stpR (stepP P pos ⟨he, hx⟩)) ∧ Gr w' w'') := fun w' g => step_any b P v pos ⟨he, hx⟩ w' (hN.gr g) (hv.gr g) hok
          have hok2 := stepP_ok hk pos ⟨he, hx⟩
          have HSW := Lib.hid (fun (w' : World) (g : Gr wr w') => hS.step g)
          obtain ⟨-, hlt', c0, c1, -, -⟩ := hS
          have HRS : Hid (readsN P.ss ⟨he, hx⟩ = match readsL P.ss ⟨he, hx⟩ with | some k => (k : Int) | none => -1) := rfl
          have HSB : Hid (stopsB P L ⟨he, hx⟩ = match readsL P.ss ⟨he, hx⟩ with | none => false | some i => !passP L i) := rfl
          generalize readsN P.ss ⟨he, hx⟩ = s at HRD0 HRS
          generalize stopsB P L ⟨he, hx⟩ = sb at HE HSB
          generalize stepP P pos ⟨he, hx⟩ = r at HE HST0 hok2
          obtain ⟨⟨ye, yx⟩, q⟩ := r
          dsimp only at HE hok2
          have HLN1 : Hid (∀ w', Gr w w' → Calls Tryz.prog 50 #[.pointer (some ⟨b, 0, none⟩), .int .i64 ye] w' fun e w'' => e = .returned (.int .i64 (eleAt P ye).l) ∧ Gr w' w'') := fun w' g => netLength_any b P ye w' (hN.gr g)
          have hly := hl ye
          generalize (eleAt P ye).l = ly at HE HLN1 hly
          have HST1 : Hid (∀ w', Gr w w' → Calls Tryz.prog 49 #[.pointer (some ⟨b, 0, none⟩), v, .agg #[.int .i64 he, .int .i64 hx]] w' fun e w'' => e = .returned (.tuple #[.agg #[.int .i64 ye, .int .i64 yx], .int .i64 q]) ∧ Gr w' w'') := HST0.out
          clear HST0 HS
          cases hr : readsL P.ss ⟨he, hx⟩ with
          | none =>
            rw [hr] at HRS HSB
            dsimp only at HRS HSB
            obtain rfl := HRS.out
            obtain rfl := HSB.out
            have HRD := HRD0
            clear HRD0 HRS HSB hr
            by_cases q0 : q = 0
            · have HQ : Hid (seesL P pos L n ⟨ye, yx⟩ (left + max ly 1) = R) := by show _ = _; rw [HE.out, if_neg (by simp), if_pos q0]
              subst q0
              clear HE
              go_upto_region 17 with (first | (go_at_call 47; (with_reducible refine (HRD.out _ g0).mono ?_); rintro e w3 ⟨rfl, g3⟩; have gw3 := g0.trans g3; obtain ⟨-, hz3, c03, c13, -, -⟩ := HSW.out _ g3) | (go_at_call 48; (with_reducible refine (HPS.out _).mono ?_); rintro e wq ⟨rfl, hwq⟩; obtain rfl := hwq.symm) | (go_at_call 49; (with_reducible refine (HST1.out _ gw3).mono ?_); rintro e w4 ⟨rfl, g4⟩; have gw4 := gw3.trans g4) | fail)
              have g34 : Gr wr ((w4.alloc (.cells #[.int .i64 ye, .int .i64 yx] 68))).drew := ((g3.trans g4).alloc _).drew
              have HNC : Hid (∀ w', Gr ((w4.alloc (.cells #[.int .i64 ye, .int .i64 yx] 68))).drew w' → w'.cell? ⟨w4.heap.size, 0, none⟩ = some (.int .i64 ye) ∧ w'.cell? ⟨w4.heap.size, 1, none⟩ = some (.int .i64 yx)) := by
                intro w' g
                have hz : w4.heap.size < (((w4.alloc (.cells #[.int .i64 ye, .int .i64 yx] 68))).drew).heap.size := by simp
                exact ⟨(g.cell _ _ hz).trans (by simp), (g.cell _ _ hz).trans (by simp)⟩
              go_region_with (first | (go_at_call 50; (with_reducible refine (HLN1.out _ ?_).mono ?_); (exact (gw4.alloc _).drew); rintro e w5 ⟨rfl, g5⟩; obtain ⟨-, hz5, k0, k1, f0, f1⟩ := HSW.out _ (g34.trans g5); obtain ⟨n0, n1⟩ := HNC.out _ g5) | fail)
              all_goals (try go_simp)
              all_goals go_wp2_with fail
              all_goals
                go_roundw
                case rel => exact ⟨n, ⟨ye, yx⟩, left + max ly 1, congrArg (Value.int .i64) (by rw [IntWalk.i64_in _ (by omega)] <;> omega), HQ, by omega, by omega, hok2, (HSW.out _ (g34.trans g5)).put hhb ye yx⟩
                case measure => (simp only [intOf]; rw [IntWalk.i64_in _ (by omega)]; omega)
            by_cases q2 : q = 2
            · have HQ : Hid (R = 4000) := by show _ = _; rw [HE.out, if_neg (by simp), if_neg q0, if_pos q2]
              subst q2
              clear HE
              go_wp2_with (first | (go_at_call 47; (with_reducible refine (HRD.out _ g0).mono ?_); rintro e w3 ⟨rfl, g3⟩; have gw3 := g0.trans g3; obtain ⟨-, hz3, c03, c13, -, -⟩ := HSW.out _ g3) | (go_at_call 48; (with_reducible refine (HPS.out _).mono ?_); rintro e wq ⟨rfl, hwq⟩; obtain rfl := hwq.symm) | (go_at_call 49; (with_reducible refine (HST1.out _ gw3).mono ?_); rintro e w4 ⟨rfl, g4⟩; have gw4 := gw3.trans g4) | fail)
              go_ret
              exact ⟨ret_int HQ.out.symm, gw4.alloc _⟩
            have HQ : Hid (R = left) := by show _ = _; rw [HE.out, if_neg (by simp), if_neg q0, if_neg q2]
            have t0 : (q == 0) = false := by simpa using q0
            have t2 : (q == 2) = false := by simpa using q2
            clear q0 q2 HE
            go_wp2_with (first | (go_at_call 47; (with_reducible refine (HRD.out _ g0).mono ?_); rintro e w3 ⟨rfl, g3⟩; have gw3 := g0.trans g3; obtain ⟨-, hz3, c03, c13, -, -⟩ := HSW.out _ g3) | (go_at_call 48; (with_reducible refine (HPS.out _).mono ?_); rintro e wq ⟨rfl, hwq⟩; obtain rfl := hwq.symm) | (go_at_call 49; (with_reducible refine (HST1.out _ gw3).mono ?_); rintro e w4 ⟨rfl, g4⟩; have gw4 := gw3.trans g4) | fail)
            go_ret
            exact ⟨ret_int HQ.out.symm, gw4.alloc _⟩
          | some i =>
            rw [hr] at HRS HSB
            dsimp only at HRS HSB
            obtain rfl := HRS.out
            have HRD := HRD0
            clear HRD0 HRS hr
            by_cases hi : i < L.length
            · have hi1 : (i : Int) < (L.length : Int) := by omega
              obtain ⟨bb, o, hs, z, y0⟩ := ints_at HU.out i hi
              subst hs
              have HP : Hid (passP L i = decide (L[i] = 1 ∨ L[i] = 2)) := by show _ = _; unfold passP; rw [dif_pos hi]
              generalize L[i] = lm at y0 HP
              have HLC := Lib.hid (fun (w' : World) (g : Gr w w') => (g.cell _ _ z).trans y0)
              clear y0 z
              by_cases hp : lm = 1 ∨ lm = 2
              · have HPS : Hid (∀ w', Calls Tryz.prog 48 #[.int .i64 lm] w' fun e w'' => e = .returned (.bool true) ∧ w'' = w') := fun w' => by have := passes_any lm w'; rw [decide_eq_true hp] at this; exact this
                obtain rfl : sb = false := by rw [HSB.out, HP.out, decide_eq_true hp]; rfl
                clear HSB HP hp
                by_cases q0 : q = 0
                · have HQ : Hid (seesL P pos L n ⟨ye, yx⟩ (left + max ly 1) = R) := by show _ = _; rw [HE.out, if_neg (by simp), if_pos q0]
                  subst q0
                  clear HE
                  go_upto_region 17 with (first | (go_at_call 47; (with_reducible refine (HRD.out _ g0).mono ?_); rintro e w3 ⟨rfl, g3⟩; have gw3 := g0.trans g3; obtain ⟨-, hz3, c03, c13, -, -⟩ := HSW.out _ g3; have y3 := HLC.out _ gw3) | (go_at_call 48; (with_reducible refine (HPS.out _).mono ?_); rintro e wq ⟨rfl, hwq⟩; obtain rfl := hwq.symm) | (go_at_call 49; (with_reducible refine (HST1.out _ gw3).mono ?_); rintro e w4 ⟨rfl, g4⟩; have gw4 := gw3.trans g4) | fail)
                  have g34 : Gr wr ((w4.alloc (.cells #[.int .i64 ye, .int .i64 yx] 68))).drew := ((g3.trans g4).alloc _).drew
                  have HNC : Hid (∀ w', Gr ((w4.alloc (.cells #[.int .i64 ye, .int .i64 yx] 68))).drew w' → w'.cell? ⟨w4.heap.size, 0, none⟩ = some (.int .i64 ye) ∧ w'.cell? ⟨w4.heap.size, 1, none⟩ = some (.int .i64 yx)) := by
                    intro w' g
                    have hz : w4.heap.size < (((w4.alloc (.cells #[.int .i64 ye, .int .i64 yx] 68))).drew).heap.size := by simp
                    exact ⟨(g.cell _ _ hz).trans (by simp), (g.cell _ _ hz).trans (by simp)⟩
                  go_region_with (first | (go_at_call 50; (with_reducible refine (HLN1.out _ ?_).mono ?_); (exact (gw4.alloc _).drew); rintro e w5 ⟨rfl, g5⟩; obtain ⟨-, hz5, k0, k1, f0, f1⟩ := HSW.out _ (g34.trans g5); obtain ⟨n0, n1⟩ := HNC.out _ g5) | fail)
                  all_goals (try go_simp)
                  all_goals go_wp2_with fail
                  all_goals
                    go_roundw
                    case rel => exact ⟨n, ⟨ye, yx⟩, left + max ly 1, congrArg (Value.int .i64) (by rw [IntWalk.i64_in _ (by omega)] <;> omega), HQ, by omega, by omega, hok2, (HSW.out _ (g34.trans g5)).put hhb ye yx⟩
                    case measure => (simp only [intOf]; rw [IntWalk.i64_in _ (by omega)]; omega)
                by_cases q2 : q = 2
                · have HQ : Hid (R = 4000) := by show _ = _; rw [HE.out, if_neg (by simp), if_neg q0, if_pos q2]
                  subst q2
                  clear HE
                  go_wp2_with (first | (go_at_call 47; (with_reducible refine (HRD.out _ g0).mono ?_); rintro e w3 ⟨rfl, g3⟩; have gw3 := g0.trans g3; obtain ⟨-, hz3, c03, c13, -, -⟩ := HSW.out _ g3; have y3 := HLC.out _ gw3) | (go_at_call 48; (with_reducible refine (HPS.out _).mono ?_); rintro e wq ⟨rfl, hwq⟩; obtain rfl := hwq.symm) | (go_at_call 49; (with_reducible refine (HST1.out _ gw3).mono ?_); rintro e w4 ⟨rfl, g4⟩; have gw4 := gw3.trans g4) | fail)
                  go_ret
                  exact ⟨ret_int HQ.out.symm, gw4.alloc _⟩
                have HQ : Hid (R = left) := by show _ = _; rw [HE.out, if_neg (by simp), if_neg q0, if_neg q2]
                have t0 : (q == 0) = false := by simpa using q0
                have t2 : (q == 2) = false := by simpa using q2
                clear q0 q2 HE
                go_wp2_with (first | (go_at_call 47; (with_reducible refine (HRD.out _ g0).mono ?_); rintro e w3 ⟨rfl, g3⟩; have gw3 := g0.trans g3; obtain ⟨-, hz3, c03, c13, -, -⟩ := HSW.out _ g3; have y3 := HLC.out _ gw3) | (go_at_call 48; (with_reducible refine (HPS.out _).mono ?_); rintro e wq ⟨rfl, hwq⟩; obtain rfl := hwq.symm) | (go_at_call 49; (with_reducible refine (HST1.out _ gw3).mono ?_); rintro e w4 ⟨rfl, g4⟩; have gw4 := gw3.trans g4) | fail)
                go_ret
                exact ⟨ret_int HQ.out.symm, gw4.alloc _⟩
              · have HPS : Hid (∀ w', Calls Tryz.prog 48 #[.int .i64 lm] w' fun e w'' => e = .returned (.bool false) ∧ w'' = w') := fun w' => by have := passes_any lm w'; rw [decide_eq_false hp] at this; exact this
                obtain rfl : sb = true := by rw [HSB.out, HP.out, decide_eq_false hp]; rfl
                clear HSB HP hp
                have HQ : Hid (R = left) := HE.out
                clear HE
                go_wp2_with (first | (go_at_call 47; (with_reducible refine (HRD.out _ g0).mono ?_); rintro e w3 ⟨rfl, g3⟩; have gw3 := g0.trans g3; obtain ⟨-, hz3, c03, c13, -, -⟩ := HSW.out _ g3; have y3 := HLC.out _ gw3) | (go_at_call 48; (with_reducible refine (HPS.out _).mono ?_); rintro e wq ⟨rfl, hwq⟩; obtain rfl := hwq.symm) | fail)
                go_ret
                exact ⟨ret_int HQ.out.symm, gw3⟩
            · have hi1 : ¬ (i : Int) < (L.length : Int) := by omega
              have HP : passP L i = false := by unfold passP; rw [dif_neg hi]
              obtain rfl : sb = true := by rw [HSB.out, HP]; rfl
              clear HSB HP
              have HQ : Hid (R = left) := HE.out
              clear HE
              go_wp2_with (first | (go_at_call 47; (with_reducible refine (HRD.out _ g0).mono ?_); rintro e w3 ⟨rfl, g3⟩; have gw3 := g0.trans g3; obtain ⟨-, hz3, c03, c13, -, -⟩ := HSW.out _ g3) | fail)
              go_ret
              exact ⟨ret_int HQ.out.symm, gw3⟩
        · have HF : Hid (R = 4000) := by show _ = _; rw [← HS.out]; exact seesL_far P pos L n h left (by omega)
          have g0 := hS.gr
          go_wp2_with fail
          go_ret
          exact ⟨ret_int HF.out.symm, g0⟩
end Go.Proofs.YtaanepadgoefhaaGreatDoor
