/- Pla3: plan.joined.
Pla4: plan.signals.
Pla5: plan.row. -/
import Derived.Test.YtaanepadgoefhaaGreatDoorRows
import Derived.Test.YtaanepadgoefhaaGreatDoorB4
import Derived.Test.YtaanepadgoefhaaGreatDoorB6
import Derived.Deep.RegionHeld3
import Derived.Deep.AppendLies
import Derived.Test.YtaanepadgoefhaaGreatDoorB5
namespace Go.Proofs.YtaanepadgoefhaaGreatDoor
open Go.ChangeShapes Go.WideShapes Go.ChangeAt Go.RowKit Go.Maps
set_option linter.unusedVariables false
set_option linter.unusedSimpArgs false
/-- what joined returns -/
def RetJ (w : World) (P : Pln) (e : Ending) (w' : World) : Prop :=
  ∃ m, e = .returned (.tuple #[m, .bool (joinedB P)]) ∧ Gr w w' ∧ (joinedB P = true → ∃ b n f, m = .map (some b) ∧ w.heap.size ≤ b ∧ MapIs Tryz.prog 68 w' b n f ∧ FnL P.js f)
theorem RetJ.no {w w' : World} {P : Pln} (h : joinedB P = false) (g : Gr w w') : RetJ w P (.returned (.tuple #[.map none, .bool false])) w' :=
  ⟨_, by rw [h], g, fun h' => by rw [h] at h'; cases h'⟩
theorem RetJ.yes {w w' : World} {P : Pln} {b n : Nat} {f : Value → Option Value} (h : joinedB P = true) (g : Gr w w') (hb : w.heap.size ≤ b) (hm : MapIs Tryz.prog 68 w' b n f) (hf : FnL P.js f) : RetJ w P (.returned (.tuple #[.map (some b), .bool true])) w' :=
  ⟨_, by rw [h], g, fun _ => ⟨b, n, f, rfl, hb, hm, hf⟩⟩
set_option maxRecDepth 100000 in
set_option maxHeartbeats 1000000 in
theorem joined_any (v : Value) (P : Pln) (w : World) (hP : IsPln w v P) (hk : PlnOk P) (hn : P.js.length ≤ 1000) :
    Calls Tryz.prog 122 #[v] w (RetJ w P) := by
  obtain ⟨a1, c1, a2, c2, a3, c3, a4, c4, rfl, h1, h2, h3, h4⟩ := hP
  have m1 := IsRow.len h1
  unfold maxLen at m1
  have hmm := @run_makeMap Tryz.prog
  have H1 := Lib.hid h1
  have H2 := Lib.hid h2
  have HPv := Lib.hid (fun (w' : World) (g : Gr w w') => IsPln.mk (w' := w') h1 h2 h3 h4 g)
  have HB := Lib.hid (bxW_box w P (.slice a1 P.es.length c1) (.slice a2 P.js.length c2) (.slice a3 P.ss.length c3) (.slice a4 P.ls.length c4))
  have hw0 := bxW_gr w P (.slice a1 P.es.length c1) (.slice a2 P.js.length c2) (.slice a3 P.ss.length c3) (.slice a4 P.ls.length c4)
  have hsz : (bxW w P (.slice a1 P.es.length c1) (.slice a2 P.js.length c2) (.slice a3 P.ss.length c3) (.slice a4 P.ls.length c4)).heap.size = w.heap.size + 1 := by unfold bxW; simp
  obtain ⟨wb, hwb⟩ : ∃ wb, wb = bxW w P (.slice a1 P.es.length c1) (.slice a2 P.js.length c2) (.slice a3 P.ss.length c3) (.slice a4 P.ls.length c4) := ⟨_, rfl⟩
  rw [← hwb] at HB hw0 hsz
  have HSZ := Lib.hid hsz
  have hm0 : MapIs Tryz.prog 68 (wb.alloc (.map #[] 0)) (w.heap.size + 1) 0 (fun _ => none) := by rw [← hsz]; exact MapIs.made _ _ _
  have HM0 := Lib.hid hm0
  unfold plnV
  have HWB := Lib.hid hwb
  have HKJ := Lib.hid hk.js
  clear h1 h2 h3 h4 hwb hk hsz hm0
  go_enter Tryz.func122, Tryz.ntmps122
  go_wp2_with fail
  rw [show (w.alloc (.cells #[.slice a1 P.es.length c1, .slice a2 P.js.length c2, .slice a3 P.ss.length c3, .slice a4 P.ls.length c4, .int .i64 P.top, .int .i64 P.brake, .int .i64 P.margin, .int .i64 P.throw, .bool P.hard] 27)) = wb from HWB.out.symm]
  clear HWB hmm
  go_loopw [19] (fun x wr => ∃ (k n : Nat) (f : Value → Option Value), x = .int .i64 k ∧ k ≤ P.js.length ∧ n ≤ 2 * k ∧ Gr wb wr ∧ MapIs Tryz.prog 68 wr (w.heap.size + 1) n f ∧ Hid (FnL (P.js.take k) f) ∧ Hid (okL P (P.js.take k))) (fun x _ => P.js.length - (intOf x).toNat)
  case atStart => exact ⟨0, 0, _, rfl, Nat.zero_le _, Nat.zero_le _, (Gr.refl _).alloc _, HM0.out, FnL.nil, okL_nil P⟩
  case round =>
    obtain ⟨k, n, f, rfl, hk, hn2, g, hm, HF, HOK⟩ := hrel
    have HM := Lib.hid hm
    clear hm
    have hB := HB.out.gr g
    have hwr : Gr w wr := hw0.trans g
    by_cases hlt : k < P.js.length
    · obtain ⟨b, o, hsome, zs, y0, y1, y2, y3⟩ := (H2.out.gr hwr).at k hlt
      have HX0 := Lib.hid (fun wx (h : Gr wr wx) => hB.gr h)
      subst hsome
      obtain ⟨zb, b0, b1, b2, b3, b4, b5, b6, b7, b8⟩ := hB
      have zbb1 : w.heap.size < wr.heap.size + 1 := by omega
      have zbb2 : w.heap.size < wr.heap.size + 1 + 1 := by omega
      have hk1 : (k : Int) < (P.js.length : Int) := by omega
      have HRD := Lib.hid (okL_round k hlt HOK.out)
      have HKJk := HKJ.out _ (List.getElem_mem hlt)
      have HTK := Lib.hid (take_snoc' P.js k hlt)
      have HSA := Lib.hid (fun x => nextL_isSome (P.js.take k) x)
      obtain ⟨q, hq⟩ : ∃ q, q = P.js[k] := ⟨_, rfl⟩
      rw [← hq] at y0 y1 y2 y3 HRD HKJk HTK
      clear hq
      obtain ⟨⟨ae, ax⟩, ⟨be, bx⟩⟩ := q
      dsimp only at y0 y1 y2 y3 HRD HKJk
      have HPKA : Hid (PrtOk ⟨ae, ax⟩) := ⟨HKJk.1, HKJk.2.1⟩
      have HPKB : Hid (PrtOk ⟨be, bx⟩) := ⟨HKJk.2.2.1, HKJk.2.2.2⟩
      clear HKJk
      have hwp : Gr w (wr.alloc (.cells #[.int .i64 ae, .int .i64 ax, .int .i64 be, .int .i64 bx] 110)) := hwr.alloc _
      have hz : Gr (wr.alloc (.cells #[.int .i64 ae, .int .i64 ax, .int .i64 be, .int .i64 bx] 110)) (wr.alloc (.cells #[.int .i64 ae, .int .i64 ax, .int .i64 be, .int .i64 bx] 110)) := Gr.refl _
      have HX : Hid (∀ wx, Gr (wr.alloc (.cells #[.int .i64 ae, .int .i64 ax, .int .i64 be, .int .i64 bx] 110)) wx → PBox wx w.heap.size P _ _ _ _ ∧ wx.cell? ⟨wr.heap.size, 0, none⟩ = some (.int .i64 ae) ∧ wx.cell? ⟨wr.heap.size, 1, none⟩ = some (.int .i64 ax) ∧ wx.cell? ⟨wr.heap.size, 2, none⟩ = some (.int .i64 be) ∧ wx.cell? ⟨wr.heap.size, 3, none⟩ = some (.int .i64 bx) ∧ wr.heap.size < wx.heap.size) := fun wx h =>
        ⟨HX0.out wx (((Gr.refl wr).alloc _).trans h), (h.cell _ _ (by simp)).trans (by rw [World.cell?_alloc_mark]; rfl), (h.cell _ _ (by simp)).trans (by rw [World.cell?_alloc_mark]; rfl), (h.cell _ _ (by simp)).trans (by rw [World.cell?_alloc_mark]; rfl), (h.cell _ _ (by simp)).trans (by rw [World.cell?_alloc_mark]; rfl), Nat.lt_of_lt_of_le (by simp) h.size⟩
      have HPA := Lib.hid (fun (v' : Value) (w' : World) (h : IsPln w' v' P) => port_any v' P ⟨ae, ax⟩ w' h)
      have HPB := Lib.hid (fun (v' : Value) (w' : World) (h : IsPln w' v' P) => port_any v' P ⟨be, bx⟩ w' h)
      unfold Prt.v at HPA HPB
      dsimp only at HPA HPB
      generalize hha : hasP P ⟨ae, ax⟩ = ha at *
      generalize hhb : hasP P ⟨be, bx⟩ = hb at *
      clear hha hhb
      have HL1 := Lib.hid (fun wx (h : Gr wr wx) y (hn : nextL (P.js.take k) ⟨ae, ax⟩ = some y) => next_look_some (HM.out.gr h) HF.out HPKA.out hn)
      have HL1n := Lib.hid (fun wx (h : Gr wr wx) (hn : nextL (P.js.take k) ⟨ae, ax⟩ = none) => next_look_none (HM.out.gr h) HF.out HPKA.out hn)
      have HL2 := Lib.hid (fun wx (h : Gr wr wx) y (hn : nextL (P.js.take k) ⟨be, bx⟩ = some y) => next_look_some (HM.out.gr h) HF.out HPKB.out hn)
      have HL2n := Lib.hid (fun wx (h : Gr wr wx) (hn : nextL (P.js.take k) ⟨be, bx⟩ = none) => next_look_none (HM.out.gr h) HF.out HPKB.out hn)
      dsimp only at HL1 HL1n HL2 HL2n
      have G1 := prt_guard .eql
      rcases hA : nextL (P.js.take k) ⟨ae, ax⟩ with _ | ⟨p1, p2⟩
      rotate_left
      · have HR : Hid (joinedB P = false) := HRD.out.2 fun h => by
          have := HSA.out ⟨ae, ax⟩
          rw [hA] at this
          exact h.1 (of_decide_eq_true this.symm)
        have l1 := HL1.out _ ((Gr.refl wr).alloc (.cells #[.int .i64 ae, .int .i64 ax, .int .i64 be, .int .i64 bx] 110)) _ hA
        dsimp only at l1
        rcases hBb : nextL (P.js.take k) ⟨be, bx⟩ with _ | ⟨q1, q2⟩
        · have l2 := HL2n.out _ (((Gr.refl wr).alloc (.cells #[.int .i64 ae, .int .i64 ax, .int .i64 be, .int .i64 bx] 110)).alloc (.cells #[.int .i64 p1, .int .i64 p2] 68)) hBb
          clear hA hBb
          (go_wp2_with (first | (go_at_call 143; (with_reducible refine (HPA.out _ _ (HPv.out _ (hwp.trans ?hzz))).mono ?_); (case hzz => first | exact hz | exact hz.alloc _ | exact (hz.alloc _).alloc _); rintro e w5 ⟨rfl, h5⟩; replace hz := (show Gr (wr.alloc (.cells #[.int .i64 ae, .int .i64 ax, .int .i64 be, .int .i64 bx] 110)) w5 from (by first | exact hz.trans h5 | exact (hz.alloc _).trans h5 | exact ((hz.alloc _).alloc _).trans h5)); obtain ⟨⟨zb5, d05, d15, d25, d35, d45, d55, d65, d75, d85⟩, e05, e15, e25, e35, z5⟩ := HX.out _ hz) | (go_at_call 143; (with_reducible refine (HPB.out _ _ (HPv.out _ (hwp.trans ?hzz))).mono ?_); (case hzz => first | exact hz | exact hz.alloc _ | exact (hz.alloc _).alloc _); rintro e w6 ⟨rfl, h6⟩; replace hz := (show Gr (wr.alloc (.cells #[.int .i64 ae, .int .i64 ax, .int .i64 be, .int .i64 bx] 110)) w6 from (by first | exact hz.trans h6 | exact (hz.alloc _).trans h6 | exact ((hz.alloc _).alloc _).trans h6)); obtain ⟨⟨zb6, d06, d16, d26, d36, d46, d56, d66, d76, d86⟩, e06, e16, e26, e36, z6⟩ := HX.out _ hz)); go_ret2; exact RetJ.no HR.out (by first | exact hwp.trans hz | exact hwp.trans ((hz.alloc _).alloc _)))
        · have l2 := HL2.out _ (((Gr.refl wr).alloc (.cells #[.int .i64 ae, .int .i64 ax, .int .i64 be, .int .i64 bx] 110)).alloc (.cells #[.int .i64 p1, .int .i64 p2] 68)) _ hBb
          dsimp only at l2
          clear hA hBb
          (go_wp2_with (first | (go_at_call 143; (with_reducible refine (HPA.out _ _ (HPv.out _ (hwp.trans ?hzz))).mono ?_); (case hzz => first | exact hz | exact hz.alloc _ | exact (hz.alloc _).alloc _); rintro e w5 ⟨rfl, h5⟩; replace hz := (show Gr (wr.alloc (.cells #[.int .i64 ae, .int .i64 ax, .int .i64 be, .int .i64 bx] 110)) w5 from (by first | exact hz.trans h5 | exact (hz.alloc _).trans h5 | exact ((hz.alloc _).alloc _).trans h5)); obtain ⟨⟨zb5, d05, d15, d25, d35, d45, d55, d65, d75, d85⟩, e05, e15, e25, e35, z5⟩ := HX.out _ hz) | (go_at_call 143; (with_reducible refine (HPB.out _ _ (HPv.out _ (hwp.trans ?hzz))).mono ?_); (case hzz => first | exact hz | exact hz.alloc _ | exact (hz.alloc _).alloc _); rintro e w6 ⟨rfl, h6⟩; replace hz := (show Gr (wr.alloc (.cells #[.int .i64 ae, .int .i64 ax, .int .i64 be, .int .i64 bx] 110)) w6 from (by first | exact hz.trans h6 | exact (hz.alloc _).trans h6 | exact ((hz.alloc _).alloc _).trans h6)); obtain ⟨⟨zb6, d06, d16, d26, d36, d46, d56, d66, d76, d86⟩, e06, e16, e26, e36, z6⟩ := HX.out _ hz)); go_ret2; exact RetJ.no HR.out (by first | exact hwp.trans hz | exact hwp.trans ((hz.alloc _).alloc _)))
      have l1 := HL1n.out _ ((Gr.refl wr).alloc (.cells #[.int .i64 ae, .int .i64 ax, .int .i64 be, .int .i64 bx] 110)) hA
      rcases hBb : nextL (P.js.take k) ⟨be, bx⟩ with _ | ⟨q1, q2⟩
      rotate_left
      · have HR : Hid (joinedB P = false) := HRD.out.2 fun h => by
          have := HSA.out ⟨be, bx⟩
          rw [hBb] at this
          exact h.2.1 (of_decide_eq_true this.symm)
        have l2 := HL2.out _ (((Gr.refl wr).alloc (.cells #[.int .i64 ae, .int .i64 ax, .int .i64 be, .int .i64 bx] 110)).alloc (.cells #[.int .i64 0, .int .i64 0] 68)) _ hBb
        dsimp only at l2
        clear hA hBb
        (go_wp2_with (first | (go_at_call 143; (with_reducible refine (HPA.out _ _ (HPv.out _ (hwp.trans ?hzz))).mono ?_); (case hzz => first | exact hz | exact hz.alloc _ | exact (hz.alloc _).alloc _); rintro e w5 ⟨rfl, h5⟩; replace hz := (show Gr (wr.alloc (.cells #[.int .i64 ae, .int .i64 ax, .int .i64 be, .int .i64 bx] 110)) w5 from (by first | exact hz.trans h5 | exact (hz.alloc _).trans h5 | exact ((hz.alloc _).alloc _).trans h5)); obtain ⟨⟨zb5, d05, d15, d25, d35, d45, d55, d65, d75, d85⟩, e05, e15, e25, e35, z5⟩ := HX.out _ hz) | (go_at_call 143; (with_reducible refine (HPB.out _ _ (HPv.out _ (hwp.trans ?hzz))).mono ?_); (case hzz => first | exact hz | exact hz.alloc _ | exact (hz.alloc _).alloc _); rintro e w6 ⟨rfl, h6⟩; replace hz := (show Gr (wr.alloc (.cells #[.int .i64 ae, .int .i64 ax, .int .i64 be, .int .i64 bx] 110)) w6 from (by first | exact hz.trans h6 | exact (hz.alloc _).trans h6 | exact ((hz.alloc _).alloc _).trans h6)); obtain ⟨⟨zb6, d06, d16, d26, d36, d46, d56, d66, d76, d86⟩, e06, e16, e26, e36, z6⟩ := HX.out _ hz)); go_ret2; exact RetJ.no HR.out (by first | exact hwp.trans hz | exact hwp.trans ((hz.alloc _).alloc _)))
      have l2 := HL2n.out _ (((Gr.refl wr).alloc (.cells #[.int .i64 ae, .int .i64 ax, .int .i64 be, .int .i64 bx] 110)).alloc (.cells #[.int .i64 0, .int .i64 0] 68)) hBb
      have HNA : Hid ((⟨ae, ax⟩ : Prt) ∉ portsL (P.js.take k)) := fun h => by
        have := HSA.out ⟨ae, ax⟩
        rw [hA, decide_eq_true h] at this; cases this
      have HNB : Hid ((⟨be, bx⟩ : Prt) ∉ portsL (P.js.take k)) := fun h => by
        have := HSA.out ⟨be, bx⟩
        rw [hBb, decide_eq_true h] at this; cases this
      clear hA hBb
      by_cases hab : (⟨ae, ax⟩ : Prt) = ⟨be, bx⟩
      · have HR : Hid (joinedB P = false) := HRD.out.2 fun h => h.2.2.1 hab
        have E1 : ∀ w, (binOp .eql 68 (.agg #[.int .i64 ae, .int .i64 ax]) (.agg #[.int .i64 be, .int .i64 bx])).run Tryz.prog w = .ok (.bool true) w := fun w => by rw [prt_eql, decide_eq_true hab]
        clear hab
        (go_wp2_with (first | (go_at_call 143; (with_reducible refine (HPA.out _ _ (HPv.out _ (hwp.trans ?hzz))).mono ?_); (case hzz => first | exact hz | exact hz.alloc _ | exact (hz.alloc _).alloc _); rintro e w5 ⟨rfl, h5⟩; replace hz := (show Gr (wr.alloc (.cells #[.int .i64 ae, .int .i64 ax, .int .i64 be, .int .i64 bx] 110)) w5 from (by first | exact hz.trans h5 | exact (hz.alloc _).trans h5 | exact ((hz.alloc _).alloc _).trans h5)); obtain ⟨⟨zb5, d05, d15, d25, d35, d45, d55, d65, d75, d85⟩, e05, e15, e25, e35, z5⟩ := HX.out _ hz) | (go_at_call 143; (with_reducible refine (HPB.out _ _ (HPv.out _ (hwp.trans ?hzz))).mono ?_); (case hzz => first | exact hz | exact hz.alloc _ | exact (hz.alloc _).alloc _); rintro e w6 ⟨rfl, h6⟩; replace hz := (show Gr (wr.alloc (.cells #[.int .i64 ae, .int .i64 ax, .int .i64 be, .int .i64 bx] 110)) w6 from (by first | exact hz.trans h6 | exact (hz.alloc _).trans h6 | exact ((hz.alloc _).alloc _).trans h6)); obtain ⟨⟨zb6, d06, d16, d26, d36, d46, d56, d66, d76, d86⟩, e06, e16, e26, e36, z6⟩ := HX.out _ hz)); go_ret2; exact RetJ.no HR.out (by first | exact hwp.trans hz | exact hwp.trans ((hz.alloc _).alloc _)))
      have E1 : ∀ w, (binOp .eql 68 (.agg #[.int .i64 ae, .int .i64 ax]) (.agg #[.int .i64 be, .int .i64 bx])).run Tryz.prog w = .ok (.bool false) w := fun w => by rw [prt_eql, decide_eq_false hab]
      have HAB := Lib.hid hab
      clear hab
      cases ha
      · have HR : Hid (joinedB P = false) := HRD.out.2 fun h => by cases h.2.2.2.1
        (go_wp2_with (first | (go_at_call 143; (with_reducible refine (HPA.out _ _ (HPv.out _ (hwp.trans ?hzz))).mono ?_); (case hzz => first | exact hz | exact hz.alloc _ | exact (hz.alloc _).alloc _); rintro e w5 ⟨rfl, h5⟩; replace hz := (show Gr (wr.alloc (.cells #[.int .i64 ae, .int .i64 ax, .int .i64 be, .int .i64 bx] 110)) w5 from (by first | exact hz.trans h5 | exact (hz.alloc _).trans h5 | exact ((hz.alloc _).alloc _).trans h5)); obtain ⟨⟨zb5, d05, d15, d25, d35, d45, d55, d65, d75, d85⟩, e05, e15, e25, e35, z5⟩ := HX.out _ hz) | (go_at_call 143; (with_reducible refine (HPB.out _ _ (HPv.out _ (hwp.trans ?hzz))).mono ?_); (case hzz => first | exact hz | exact hz.alloc _ | exact (hz.alloc _).alloc _); rintro e w6 ⟨rfl, h6⟩; replace hz := (show Gr (wr.alloc (.cells #[.int .i64 ae, .int .i64 ax, .int .i64 be, .int .i64 bx] 110)) w6 from (by first | exact hz.trans h6 | exact (hz.alloc _).trans h6 | exact ((hz.alloc _).alloc _).trans h6)); obtain ⟨⟨zb6, d06, d16, d26, d36, d46, d56, d66, d76, d86⟩, e06, e16, e26, e36, z6⟩ := HX.out _ hz)); go_ret2; exact RetJ.no HR.out (by first | exact hwp.trans hz | exact hwp.trans ((hz.alloc _).alloc _)))
      cases hb
      · have HR : Hid (joinedB P = false) := HRD.out.2 fun h => by cases h.2.2.2.2
        (go_wp2_with (first | (go_at_call 143; (with_reducible refine (HPA.out _ _ (HPv.out _ (hwp.trans ?hzz))).mono ?_); (case hzz => first | exact hz | exact hz.alloc _ | exact (hz.alloc _).alloc _); rintro e w5 ⟨rfl, h5⟩; replace hz := (show Gr (wr.alloc (.cells #[.int .i64 ae, .int .i64 ax, .int .i64 be, .int .i64 bx] 110)) w5 from (by first | exact hz.trans h5 | exact (hz.alloc _).trans h5 | exact ((hz.alloc _).alloc _).trans h5)); obtain ⟨⟨zb5, d05, d15, d25, d35, d45, d55, d65, d75, d85⟩, e05, e15, e25, e35, z5⟩ := HX.out _ hz) | (go_at_call 143; (with_reducible refine (HPB.out _ _ (HPv.out _ (hwp.trans ?hzz))).mono ?_); (case hzz => first | exact hz | exact hz.alloc _ | exact (hz.alloc _).alloc _); rintro e w6 ⟨rfl, h6⟩; replace hz := (show Gr (wr.alloc (.cells #[.int .i64 ae, .int .i64 ax, .int .i64 be, .int .i64 bx] 110)) w6 from (by first | exact hz.trans h6 | exact (hz.alloc _).trans h6 | exact ((hz.alloc _).alloc _).trans h6)); obtain ⟨⟨zb6, d06, d16, d26, d36, d46, d56, d66, d76, d86⟩, e06, e16, e26, e36, z6⟩ := HX.out _ hz)); go_ret2; exact RetJ.no HR.out (by first | exact hwp.trans hz | exact hwp.trans ((hz.alloc _).alloc _)))
      have HOK2 := Lib.hid (HRD.out.1 ⟨HNA.out, HNB.out, HAB.out, by trivial, by trivial⟩)
      have HF2 : Hid (FnL (P.js.take (k + 1)) (put (put f (Prt.v ⟨ae, ax⟩) (Prt.v ⟨be, bx⟩)) (Prt.v ⟨be, bx⟩) (Prt.v ⟨ae, ax⟩))) := by
        unfold Hid
        rw [HTK.out]
        exact FnL.two HF.out ⟨⟨ae, ax⟩, ⟨be, bx⟩⟩ HNA.out HNB.out HAB.out
      obtain ⟨kla, hka⟩ := prt_key ⟨ae, ax⟩ HPKA.out.1 HPKA.out.2
      obtain ⟨klb, hkb⟩ := prt_key ⟨be, bx⟩ HPKB.out.1 HPKB.out.2
      have HKA := Lib.hid hka
      have HKB := Lib.hid hkb
      clear hka hkb HL1 HL1n HL2 HL2n HRD HF HOK HSA
      go_wp2_with (first | (go_at_call 143; (with_reducible refine (HPA.out _ _ (HPv.out _ (hwp.trans ?hzz))).mono ?_); (case hzz => first | exact hz | exact hz.alloc _ | exact (hz.alloc _).alloc _); rintro e w5 ⟨rfl, h5⟩; replace hz := (show Gr (wr.alloc (.cells #[.int .i64 ae, .int .i64 ax, .int .i64 be, .int .i64 bx] 110)) w5 from (by first | exact hz.trans h5 | exact (hz.alloc _).trans h5 | exact ((hz.alloc _).alloc _).trans h5)); obtain ⟨⟨zb5, d05, d15, d25, d35, d45, d55, d65, d75, d85⟩, e05, e15, e25, e35, z5⟩ := HX.out _ hz) | (go_at_call 143; (with_reducible refine (HPB.out _ _ (HPv.out _ (hwp.trans ?hzz))).mono ?_); (case hzz => first | exact hz | exact hz.alloc _ | exact (hz.alloc _).alloc _); rintro e w6 ⟨rfl, h6⟩; replace hz := (show Gr (wr.alloc (.cells #[.int .i64 ae, .int .i64 ax, .int .i64 be, .int .i64 bx] 110)) w6 from (by first | exact hz.trans h6 | exact (hz.alloc _).trans h6 | exact ((hz.alloc _).alloc _).trans h6)); obtain ⟨⟨zb6, d06, d16, d26, d36, d46, d56, d66, d76, d86⟩, e06, e16, e26, e36, z6⟩ := HX.out _ hz))
      have HZ := Lib.hid hz
      have HN0 : Hid (n < maxLen) := by unfold Hid maxLen; omega
      have HN1 : Hid (n + 1 < maxLen) := by unfold Hid maxLen; omega
      have hblt := HM.out.lt
      have HKP : Hid (∀ (wx wy : World), (wx.cell? ⟨wr.heap.size, 0, none⟩ = some (.int .i64 ae) ∧ wx.cell? ⟨wr.heap.size, 1, none⟩ = some (.int .i64 ax) ∧ wx.cell? ⟨wr.heap.size, 2, none⟩ = some (.int .i64 be) ∧ wx.cell? ⟨wr.heap.size, 2 + 1, none⟩ = some (.int .i64 bx) ∧ wr.heap.size < wx.heap.size) → wx.grownBy wy (some (w.heap.size + 1)) → (wy.cell? ⟨wr.heap.size, 0, none⟩ = some (.int .i64 ae) ∧ wy.cell? ⟨wr.heap.size, 1, none⟩ = some (.int .i64 ax) ∧ wy.cell? ⟨wr.heap.size, 2, none⟩ = some (.int .i64 be) ∧ wy.cell? ⟨wr.heap.size, 2 + 1, none⟩ = some (.int .i64 bx) ∧ wr.heap.size < wy.heap.size)) := fun wx wy h hg =>
        have hne : ∀ j, some (⟨wr.heap.size, j, none⟩ : Addr).block ≠ some (w.heap.size + 1) := fun j e => by simp at e; omega
        ⟨(hg.cell_far _ h.2.2.2.2 (hne 0)).trans h.1, (hg.cell_far _ h.2.2.2.2 (hne 1)).trans h.2.1, (hg.cell_far _ h.2.2.2.2 (hne 2)).trans h.2.2.1, (hg.cell_far _ h.2.2.2.2 (hne 3)).trans h.2.2.2.1, Nat.lt_of_lt_of_le h.2.2.2.2 hg.size⟩
      obtain ⟨w7, hr7, hm7, hg7⟩ := (HM.out.gr (((Gr.refl wr).alloc _).trans HZ.out).drew).update prt_keyed Tryz.underlying122 HN0.out (val := Prt.v ⟨be, bx⟩) HKA.out
      obtain ⟨w8, hr8, hm8, hg8⟩ := hm7.update prt_keyed Tryz.underlying122 HN1.out (val := Prt.v ⟨ae, ax⟩) HKB.out
      have r7 : (Instr.mapUpdate 122 (.map (some (w.heap.size + 1))) (.agg #[.int .i64 ae, .int .i64 ax]) (.agg #[.int .i64 be, .int .i64 bx])).run Tryz.prog w6.drew = .ok () w7 := hr7
      have r8 : (Instr.mapUpdate 122 (.map (some (w.heap.size + 1))) (.agg #[.int .i64 be, .int .i64 bx]) (.agg #[.int .i64 ae, .int .i64 ax])).run Tryz.prog w7 = .ok () w8 := hr8
      clear hr7 hr8
      have HM8 := Lib.hid hm8
      clear hm7 hm8
      go_region_held3 (fun w' => w'.cell? ⟨wr.heap.size, 0, none⟩ = some (.int .i64 ae) ∧ w'.cell? ⟨wr.heap.size, 1, none⟩ = some (.int .i64 ax) ∧ w'.cell? ⟨wr.heap.size, 2, none⟩ = some (.int .i64 be) ∧ w'.cell? ⟨wr.heap.size, 2 + 1, none⟩ = some (.int .i64 bx) ∧ wr.heap.size < w'.heap.size) (first | exact ⟨e06, e16, e26, e36, z6⟩ | exact HKP.out _ _ (by assumption) hg8 | exact HKP.out _ _ (by assumption) hg7) (fail)
      have g8 : Gr wb w8 := Gr.grownM (Gr.grownM ((g.alloc _).trans hz).drew hg7 (by have := HSZ.out; omega)) hg8 (by have := HSZ.out; omega)
      go_wp2
      go_roundw
      case rel => exact ⟨k + 1, n + 1 + 1, _, by go_num, by omega, by omega, g8, HM8.out, HF2.out, HOK2.out⟩
      case measure => simp [intOf]; omega
    · have hl : P.js.take k = P.js := List.take_of_length_le (by omega)
      rw [hl] at HF HOK
      have HJ := Lib.hid (joinedB_yes HOK.out)
      obtain ⟨zb, b0, b1, b2, b3, b4, b5, b6, b7, b8⟩ := hB
      go_wp2_with fail
      clear zb b0 b1 b2 b3 b4 b5 b6 b7 b8 hlt hl
      have HB2 := Lib.hid (HB.out.gr g)
      obtain ⟨wc, hwc⟩ : ∃ wc, wc = wr := ⟨_, rfl⟩
      subst hwc
      have hwc : Gr w wc := hwr
      clear hwr g
      go_loopw [11, 76] (fun _ x wr => ∃ k : Nat, x = .int .i64 k ∧ k ≤ P.es.length ∧ Gr wc wr ∧ Hid (∀ j (hj : j < P.es.length), j < k → P.es[j].k = 4 → offGate P ⟨j, 0⟩ = true)) (fun _ x _ => P.es.length - (intOf x).toNat)
      case atStart => exact ⟨0, rfl, Nat.zero_le _, Gr.refl _, fun j _ h => by omega⟩
      case round =>
        obtain ⟨k, rfl, hk, g, HA⟩ := hrel
        have hwr : Gr w wr := hwc.trans g
        obtain ⟨zb, b0, b1, b2, b3, b4, b5, b6, b7, b8⟩ := HB2.out.gr g
        by_cases hlt : k < P.es.length
        · obtain ⟨b, o, hsome, zs, y0, y1, y2⟩ := (H1.out.gr hwr).at k hlt
          subst hsome
          have hk1 : (k : Int) < (P.es.length : Int) := by omega
          have HNO := Lib.hid (@gatesB_no P k hlt)
          have HA' : Hid ((P.es[k].k = 4 → offGate P ⟨k, 0⟩ = true) → ∀ j (hj : j < P.es.length), j < k + 1 → P.es[j].k = 4 → offGate P ⟨j, 0⟩ = true) := by
            intro h j hj hjk
            by_cases e : j = k
            · subst e; exact h
            · exact HA.out j hj (by omega)
          have HPK : Hid (PrtOk ⟨(k : Int), 0⟩) := ⟨show I64 (k : Int) from WalkArith.wf_i64 (by omega), show I64 (0 : Int) from WalkArith.wf_i64 (by omega)⟩
          clear HA
          obtain ⟨q, hq⟩ : ∃ q, q = P.es[k] := ⟨_, rfl⟩
          rw [← hq] at y0 y1 y2 HNO HA'
          clear hq
          obtain ⟨qn, qk, ql⟩ := q
          dsimp only at y0 y1 y2 HNO HA'
          by_cases hqk : qk = 4
          · have t1 := bneF hqk
            rcases hnx : nextL P.js ⟨(k : Int), 0⟩ with _ | ⟨ye, yx⟩
            · have HR : Hid (joinedB P = false) := by unfold Hid; rw [HJ.out]; exact HNO.out hqk (offGate_none hnx)
              have l1 := next_look_none (HM.out.gr (g.alloc (.cells #[.string qn, .int .i64 qk, .int .i64 ql] 103))) HF.out HPK.out hnx
              dsimp only at l1
              clear hqk hnx HNO HA'
              go_wp2
              go_ret2
              exact RetJ.no HR.out ((hwr.alloc _).alloc _)
            · have hbd := next_bd HOK.out.2 hnx
              obtain ⟨hb1, hb2, -, -⟩ := hbd
              dsimp only at hb1 hb2
              obtain ⟨m, rfl⟩ := Int.eq_ofNat_of_zero_le hb1
              have hml : m < P.es.length := by omega
              obtain ⟨b', o', hsome', zs', -, y1', -⟩ := (H1.out.gr hwr).at m hml
              simp only [Option.some.injEq, Addr.mk.injEq, and_true] at hsome'
              obtain ⟨rfl, rfl⟩ := hsome'
              have HOG := Lib.hid (offGate_some hnx)
              have HKD := Lib.hid (kindP_in P m hml)
              have l1 := next_look_some (HM.out.gr (g.alloc (.cells #[.string qn, .int .i64 qk, .int .i64 ql] 103))) HF.out HPK.out hnx
              dsimp only at l1 HOG
              rw [HKD.out] at HOG
              generalize P.es[m].k = kk at *
              clear hnx HKD
              by_cases hkk : kk = 4
              · have t2 := beqT hkk
                have HR : Hid (joinedB P = false) := by unfold Hid; rw [HJ.out]; exact HNO.out hqk (by rw [HOG.out, hkk]; rfl)
                clear hqk HNO HA' hkk
                go_wp2
                go_ret2
                exact RetJ.no HR.out ((hwr.alloc _).alloc _)
              · have t2 := beqF hkk
                have HA2 := Lib.hid (HA'.out fun _ => by rw [HOG.out]; simp [hkk])
                clear hqk HNO HA' hkk
                go_wp2
                go_roundw
                case rel => exact ⟨k + 1, by go_num, by omega, (g.alloc _).alloc _, HA2.out⟩
                case measure => simp [intOf]; omega
          · have t1 := bneT hqk
            have HA2 := Lib.hid (HA'.out fun h => absurd h hqk)
            clear HA' hqk HNO
            go_wp2
            go_roundw
            case rel => exact ⟨k + 1, by go_num, by omega, g.alloc _, HA2.out⟩
            case measure => simp [intOf]; omega
        · have HR : Hid (joinedB P = true) := by unfold Hid; rw [HJ.out]; exact gatesB_yes fun j hj h => HA.out j hj (by omega) h
          clear HA
          go_wp2
          go_ret2
          exact RetJ.yes HR.out hwr (by omega) (HM.out.gr g) HF.out
end Go.Proofs.YtaanepadgoefhaaGreatDoor
namespace Go.Proofs.YtaanepadgoefhaaGreatDoor
open Go.ChangeShapes Go.WideShapes Go.ChangeAt Go.RowKit Go.Maps
set_option linter.unusedVariables false
set_option linter.unusedSimpArgs false
/-- a set of ports -/
def SeenP (l : List Prt) (f : Value → Option Value) : Prop := ∀ x : Prt, (x ∈ l → f x.v = some (.bool true)) ∧ (x ∉ l → f x.v = none)
theorem SeenP.nil : SeenP [] (fun _ => none) := fun x => ⟨fun h => (List.not_mem_nil h).elim, fun _ => rfl⟩
theorem SeenP.put {l : List Prt} {f : Value → Option Value} (h : SeenP l f) (x : Prt) : SeenP (l ++ [x]) (put f x.v (.bool true)) := by
  intro y
  by_cases e : y = x
  · subst e; rw [put_self]; simp
  · rw [put_else _ (fun h => e (prtv_inj h))]
    have h1 := h y
    simp only [List.mem_append, List.mem_singleton, e, or_false]
    exact h1
theorem seen_yes {w : World} {b n : Nat} {f : Value → Option Value} {l : List Prt} {x : Prt} (h : MapIs Tryz.prog 68 w b n f) (hf : SeenP l f) (hx : PrtOk x) (hn : x ∈ l) :
    (Instr.lookup 172 (.map (some b)) (.agg #[.int .i64 x.e, .int .i64 x.x]) false).run Tryz.prog w = .ok (.bool true) w := by
  obtain ⟨kl, hk⟩ := prt_key x hx.1 hx.2
  have := h.lookup prt_keyed Tryz.underlying172 (bool_zero w) hk
  rw [(hf x).1 hn] at this
  exact this
theorem seen_no {w : World} {b n : Nat} {f : Value → Option Value} {l : List Prt} {x : Prt} (h : MapIs Tryz.prog 68 w b n f) (hf : SeenP l f) (hx : PrtOk x) (hn : x ∉ l) :
    (Instr.lookup 172 (.map (some b)) (.agg #[.int .i64 x.e, .int .i64 x.x]) false).run Tryz.prog w = .ok (.bool false) w := by
  obtain ⟨kl, hk⟩ := prt_key x hx.1 hx.2
  have := h.lookup prt_keyed Tryz.underlying172 (bool_zero w) hk
  rw [(hf x).2 hn] at this
  exact this
theorem readsL_none_iff : ∀ (l : List Sg) (x : Prt), readsL l x = none ↔ x ∉ l.map (·.at_)
  | [], x => by simp [readsL]
  | s :: t, x => by
    have ih := readsL_none_iff t x
    unfold readsL
    by_cases h : s.at_ = x
    · rw [if_pos h]; subst h; simp
    · rw [if_neg h, Option.map_eq_none_iff, ih]
      have h' : ¬ x = s.at_ := fun e => h e.symm
      rw [List.map_cons, List.mem_cons]
      exact ⟨fun a b => b.elim h' a, fun a b => a (.inr b)⟩
theorem reads_neg (l : List Sg) (x : Prt) : readsN l x < 0 ↔ x ∉ l.map (·.at_) := by
  rw [← readsL_none_iff]
  unfold readsN
  cases readsL l x with
  | none => simp
  | some j => simp
theorem reads_first {l : List Sg} {k : Nat} (hk : k < l.length) : readsN l l[k].at_ = k ↔ l[k].at_ ∉ (l.take k).map (·.at_) := by
  constructor
  · intro h hm
    obtain ⟨s, hs, e⟩ := List.mem_map.1 hm
    obtain ⟨j, hj, rfl⟩ := List.mem_iff_getElem.1 hs
    have hjk : j < k := by simp at hj; omega
    rw [List.getElem_take] at e
    -- the first one that reads there is no later than j
    have hf : ∀ (l : List Sg) (x : Prt) (j : Nat) (hj : j < l.length), l[j].at_ = x → readsN l x ≤ j := by
      intro l
      induction l with
      | nil => intro x j hj; simp at hj
      | cons s t ih =>
        intro x j hj he
        unfold readsN readsL
        by_cases h0 : s.at_ = x
        · rw [if_pos h0]; simp
        · rw [if_neg h0]
          cases j with
          | zero => exact absurd (by simpa using he) h0
          | succ j =>
            have := ih x j (by simpa using hj) (by simpa using he)
            unfold readsN at this
            cases hr : readsL t x with
            | none => simp; omega
            | some m => rw [hr] at this; simp at this ⊢; omega
    have := hf l l[k].at_ j (by omega) e
    omega
  · intro h
    unfold readsN
    rw [readsL_go l _ k hk rfl fun i hi hik e => h (by rw [← e]; exact List.mem_map.2 ⟨l[i], List.mem_iff_getElem.2 ⟨i, by simp; omega, by rw [List.getElem_take]⟩, rfl⟩)]
set_option maxRecDepth 100000 in
set_option maxHeartbeats 1000000 in
theorem signals_any (v : Value) (P : Pln) (w : World) (b n : Nat) (f : Value → Option Value) (hP : IsPln w v P) (hk : PlnOk P) (hn : P.ss.length ≤ 1000) (hm : MapIs Tryz.prog 68 w b n f) (hf : FnL P.js f) (hok : okL P P.js) :
    Calls Tryz.prog 123 #[v, .map (some b)] w fun e w' => e = .returned (.bool (signalsB P)) ∧ Gr w w' := by
  obtain ⟨a1, c1, a2, c2, a3, c3, a4, c4, rfl, h1, h2, h3, h4⟩ := hP
  have m1 := IsRow.len h1
  unfold maxLen at m1
  have hmm := @run_makeMap Tryz.prog
  have H1 := Lib.hid h1
  have H3 := Lib.hid h3
  have HPv := Lib.hid (fun (w' : World) (g : Gr w w') => IsPln.mk (w' := w') h1 h2 h3 h4 g)
  have HB := Lib.hid (bxW_box w P (.slice a1 P.es.length c1) (.slice a2 P.js.length c2) (.slice a3 P.ss.length c3) (.slice a4 P.ls.length c4))
  have hw0 := bxW_gr w P (.slice a1 P.es.length c1) (.slice a2 P.js.length c2) (.slice a3 P.ss.length c3) (.slice a4 P.ls.length c4)
  have hsz : (bxW w P (.slice a1 P.es.length c1) (.slice a2 P.js.length c2) (.slice a3 P.ss.length c3) (.slice a4 P.ls.length c4)).heap.size = w.heap.size + 1 := by unfold bxW; simp
  obtain ⟨wb, hwb⟩ : ∃ wb, wb = bxW w P (.slice a1 P.es.length c1) (.slice a2 P.js.length c2) (.slice a3 P.ss.length c3) (.slice a4 P.ls.length c4) := ⟨_, rfl⟩
  rw [← hwb] at HB hw0 hsz
  have HSZ := Lib.hid hsz
  have hm0 : MapIs Tryz.prog 68 (wb.alloc (.map #[] 0)) (w.heap.size + 1) 0 (fun _ => none) := by rw [← hsz]; exact MapIs.made _ _ _
  have HM0 := Lib.hid hm0
  unfold plnV
  have HWB := Lib.hid hwb
  have HKS := Lib.hid hk.ss
  have HM := Lib.hid hm
  have HF := Lib.hid hf
  have HOK := Lib.hid hok
  clear h1 h2 h3 h4 hwb hk hsz hm0 hm hf hok
  go_enter Tryz.func123, Tryz.ntmps123
  go_wp2_with fail
  rw [show (w.alloc (.cells #[.slice a1 P.es.length c1, .slice a2 P.js.length c2, .slice a3 P.ss.length c3, .slice a4 P.ls.length c4, .int .i64 P.top, .int .i64 P.brake, .int .i64 P.margin, .int .i64 P.throw, .bool P.hard] 27)) = wb from HWB.out.symm]
  clear HWB hmm
  go_loopw [17] (fun x wr => ∃ (k n : Nat) (f : Value → Option Value), x = .int .i64 k ∧ k ≤ P.ss.length ∧ n ≤ k ∧ Gr wb wr ∧ MapIs Tryz.prog 68 wr (w.heap.size + 1) n f ∧ Hid (SeenP ((P.ss.take k).map (·.at_)) f) ∧ Hid (∀ j (hj : j < P.ss.length), j < k → sigB P j = true)) (fun x _ => P.ss.length - (intOf x).toNat)
  case atStart => exact ⟨0, 0, _, rfl, Nat.zero_le _, Nat.zero_le _, (Gr.refl _).alloc _, HM0.out, SeenP.nil, fun j _ h => by omega⟩
  case round =>
    obtain ⟨k, n1, f1, rfl, hk, hn1, g, hm1, HS, HA⟩ := hrel
    have HM1 := Lib.hid hm1
    clear hm1
    have hB := HB.out.gr g
    have hwr : Gr w wr := hw0.trans g
    by_cases hlt : k < P.ss.length
    · obtain ⟨bs, os, hsome, zs, y0, y1, y2, y3⟩ := (H3.out.gr hwr).at k hlt
      have HX0 := Lib.hid (fun wx (h : Gr wr wx) => hB.gr h)
      subst hsome
      obtain ⟨zb, b0, b1, b2, b3, b4, b5, b6, b7, b8⟩ := hB
      have hk1 : (k : Int) < (P.ss.length : Int) := by omega
      have HSB := Lib.hid (sigB_at P k hlt)
      have HNO := Lib.hid (@signalsB_no P k hlt)
      have HA' : Hid (sigB P k = true → ∀ j (hj : j < P.ss.length), j < k + 1 → sigB P j = true) := by
        intro h j hj hjk
        by_cases e : j = k
        · subst e; exact h
        · exact HA.out j hj (by omega)
      have HRF := Lib.hid (reads_first hlt)
      have HKk := HKS.out _ (List.getElem_mem hlt)
      have HTK := Lib.hid (map_take_snoc P.ss (·.at_) k hlt)
      clear HA
      obtain ⟨q, hq⟩ : ∃ q, q = P.ss[k] := ⟨_, rfl⟩
      rw [← hq] at y0 y1 y2 y3 HSB HRF HKk HTK
      clear hq
      obtain ⟨qn, ⟨qe, qx⟩, qa⟩ := q
      dsimp only at y0 y1 y2 y3 HSB HRF HKk HTK
      have HPK : Hid (PrtOk ⟨qe, qx⟩) := ⟨HKk.1, HKk.2.1⟩
      clear HKk
      have hwp : Gr w (wr.alloc (.cells #[.string qn, .int .i64 qe, .int .i64 qx, .bool qa] 105)) := hwr.alloc _
      have hgp : Gr wr (wr.alloc (.cells #[.string qn, .int .i64 qe, .int .i64 qx, .bool qa] 105)) := (Gr.refl wr).alloc _
      have HGP := Lib.hid hgp
      have HX : Hid (∀ wx, Gr (wr.alloc (.cells #[.string qn, .int .i64 qe, .int .i64 qx, .bool qa] 105)) wx → PBox wx w.heap.size P _ _ _ _ ∧ wx.cell? ⟨wr.heap.size, 0, none⟩ = some (.string qn) ∧ wx.cell? ⟨wr.heap.size, 1, none⟩ = some (.int .i64 qe) ∧ wx.cell? ⟨wr.heap.size, 2, none⟩ = some (.int .i64 qx) ∧ wx.cell? ⟨wr.heap.size, 3, none⟩ = some (.bool qa) ∧ wr.heap.size < wx.heap.size) := fun wx h =>
        ⟨HX0.out wx (((Gr.refl wr).alloc _).trans h), (h.cell _ _ (by simp)).trans (by rw [World.cell?_alloc_mark]; rfl), (h.cell _ _ (by simp)).trans (by rw [World.cell?_alloc_mark]; rfl), (h.cell _ _ (by simp)).trans (by rw [World.cell?_alloc_mark]; rfl), (h.cell _ _ (by simp)).trans (by rw [World.cell?_alloc_mark]; rfl), Nat.lt_of_lt_of_le (by simp) h.size⟩
      have HH := Lib.hid (fun (v' : Value) (w' : World) (h : IsPln w' v' P) => port_any v' P ⟨qe, qx⟩ w' h)
      have HON := Lib.hid (@offGate_none P ⟨qe, qx⟩)
      have HOS := Lib.hid (fun y => @offGate_some P ⟨qe, qx⟩ y)
      unfold Prt.v at HH
      dsimp only at HH HSB
      have HBD := Lib.hid (@hasP_bd P ⟨qe, qx⟩)
      dsimp only at HBD
      generalize hasP P ⟨qe, qx⟩ = hh at *
      generalize offGate P ⟨qe, qx⟩ = og at *
      cases hh
      · have HR := Lib.hid (HNO.out (by rw [HSB.out]; rfl))
        (go_wp2_with (go_at_call 143; (with_reducible refine (HH.out _ _ (HPv.out _ hwp)).mono ?_); rintro e w5 ⟨rfl, h5⟩; obtain ⟨⟨zb5, d05, d15, d25, d35, d45, d55, d65, d75, d85⟩, e05, e15, e25, e35, z5⟩ := HX.out _ h5; have zb6 : w.heap.size < w5.heap.size + 1 := (by omega); have z6 : wr.heap.size < w5.heap.size + 1 := (by omega)); go_ret; exact ⟨ret_bool HR.out.symm, (by first | exact hwp.trans h5 | exact (hwp.trans h5).alloc _)⟩)
      obtain ⟨hb1, hb2, -, -⟩ := HBD.out (by trivial)
      obtain ⟨m, rfl⟩ := Int.eq_ofNat_of_zero_le hb1
      have hml : m < P.es.length := by omega
      obtain ⟨be, oe, hsome, zse, -, x1, -⟩ := (H1.out.gr hwr).at m hml
      subst hsome
      have HKD := Lib.hid (kindP_in P m hml)
      rw [HKD.out] at HSB
      generalize P.es[m].k = kk at *
      have HE : Hid (∀ wx, Gr (wr.alloc (.cells #[.string qn, .int .i64 (m : Int), .int .i64 qx, .bool qa] 105)) wx → wx.cell? ⟨be, oe + m * 3 + 1, none⟩ = some (.int .i64 kk)) := fun wx h => ((HGP.out.trans h).cell _ _ zse).trans x1
      have hml1 : (m : Int) < (P.es.length : Int) := by omega
      by_cases hdup : (⟨m, qx⟩ : Prt) ∈ (P.ss.take k).map (·.at_)
      · have HR := Lib.hid (HNO.out (by
          rw [HSB.out]
          have : ¬ readsN P.ss ⟨m, qx⟩ = k := fun h => HRF.out.1 h hdup
          rw [decide_eq_false this]; simp))
        have HLD := Lib.hid (fun wx (h : Gr wr wx) => seen_yes (HM1.out.gr h) HS.out HPK.out hdup)
        dsimp only at HLD
        clear hdup
        go_wp2_with (((go_at_call 143; (with_reducible refine (HH.out _ _ (HPv.out _ hwp)).mono ?_); rintro e w5 ⟨rfl, h5⟩; obtain ⟨⟨zb5, d05, d15, d25, d35, d45, d55, d65, d75, d85⟩, e05, e15, e25, e35, z5⟩ := HX.out _ h5; have zb6 : w.heap.size < w5.heap.size + 1 := (by omega); have z6 : wr.heap.size < w5.heap.size + 1 := (by omega)); have la5 := HLD.out _ (HGP.out.trans h5)))
        go_ret
        exact ⟨ret_bool HR.out.symm, hwp.trans h5⟩
      have HLD := Lib.hid (fun wx (h : Gr wr wx) => seen_no (HM1.out.gr h) HS.out HPK.out hdup)
      dsimp only at HLD
      have HS1 : Hid (sigB P k = ((decide (kk = 1) || decide (kk = 4)) && og)) := by
        unfold Hid
        rw [HSB.out, decide_eq_true (HRF.out.2 hdup)]; simp
      have HSN : Hid (SeenP ((P.ss.take (k + 1)).map (·.at_)) (put f1 (Prt.v ⟨m, qx⟩) (.bool true))) := by
        unfold Hid
        rw [← HTK.out]
        exact HS.out.put _
      clear hdup HSB HRF HS
      rcases (show (kk ≠ 1 ∧ kk ≠ 4) ∨ kk = 1 ∨ kk = 4 from by omega) with ⟨n1', n4'⟩ | hk14
      · have HR := Lib.hid (HNO.out (by rw [HS1.out]; simp [n1', n4']))
        have t1 := bneT n1'
        have t2 := bneT n4'
        clear n1' n4'
        go_wp2_with (((go_at_call 143; (with_reducible refine (HH.out _ _ (HPv.out _ hwp)).mono ?_); rintro e w5 ⟨rfl, h5⟩; obtain ⟨⟨zb5, d05, d15, d25, d35, d45, d55, d65, d75, d85⟩, e05, e15, e25, e35, z5⟩ := HX.out _ h5; have zb6 : w.heap.size < w5.heap.size + 1 := (by omega); have z6 : wr.heap.size < w5.heap.size + 1 := (by omega)); have la5 := HLD.out _ (HGP.out.trans h5); have ce5 := HE.out _ h5))
        go_ret
        exact ⟨ret_bool HR.out.symm, hwp.trans h5⟩
      have hk2 : (kk = 1 ∧ (kk != 1) = false) ∨ (kk = 4 ∧ (kk != 1) = true ∧ (kk != 4) = false) := by
        rcases hk14 with e | e
        · left; exact ⟨e, bneF e⟩
        · right; exact ⟨e, bneT (by omega), bneF e⟩
      have HS2 : Hid (sigB P k = og) := by
        unfold Hid; rw [HS1.out]
        rcases hk14 with e | e <;> simp [e]
      clear HS1 hk14
      rcases hnx : nextL P.js ⟨m, qx⟩ with _ | ⟨ye, yx⟩
      · have HR := Lib.hid (HNO.out (by rw [HS2.out, HON.out hnx]))
        have HLN := Lib.hid (fun wx (h : Gr w wx) => next_look_none (HM.out.gr h) HF.out HPK.out hnx)
        dsimp only at HLN
        clear hnx
        rcases hk2 with ⟨-, t1⟩ | ⟨-, t1, t2⟩
        all_goals
          go_wp2_with (((go_at_call 143; (with_reducible refine (HH.out _ _ (HPv.out _ hwp)).mono ?_); rintro e w5 ⟨rfl, h5⟩; obtain ⟨⟨zb5, d05, d15, d25, d35, d45, d55, d65, d75, d85⟩, e05, e15, e25, e35, z5⟩ := HX.out _ h5; have zb6 : w.heap.size < w5.heap.size + 1 := (by omega); have z6 : wr.heap.size < w5.heap.size + 1 := (by omega)); have la5 := HLD.out _ (HGP.out.trans h5); have ce5 := HE.out _ h5; have ln5 := HLN.out _ (hwp.trans h5)))
          go_ret
          exact ⟨ret_bool HR.out.symm, (hwp.trans h5).alloc _⟩
      have HLN := Lib.hid (fun wx (h : Gr w wx) => next_look_some (HM.out.gr h) HF.out HPK.out hnx)
      have HOG := Lib.hid (HOS.out _ hnx)
      have hbd := next_bd HOK.out.2 hnx
      dsimp only at HLN HOG hbd
      obtain ⟨hb3, hb4, -, -⟩ := hbd
      obtain ⟨m2, rfl⟩ := Int.eq_ofNat_of_zero_le hb3
      have hml2 : m2 < P.es.length := by omega
      obtain ⟨be', oe', hsome', zse', -, x2, -⟩ := (H1.out.gr hwr).at m2 hml2
      simp only [Option.some.injEq, Addr.mk.injEq, and_true] at hsome'
      obtain ⟨rfl, rfl⟩ := hsome'
      rw [kindP_in P m2 hml2] at HOG
      generalize P.es[m2].k = ky at *
      have HE2 : Hid (∀ wx, Gr (wr.alloc (.cells #[.string qn, .int .i64 (m : Int), .int .i64 qx, .bool qa] 105)) wx → wx.cell? ⟨be, oe + m2 * 3 + 1, none⟩ = some (.int .i64 ky)) := fun wx h => ((HGP.out.trans h).cell _ _ zse').trans x2
      have hml3 : (m2 : Int) < (P.es.length : Int) := by omega
      have HBE : Hid (∀ wx, Gr (wr.alloc (.cells #[.string qn, .int .i64 (m : Int), .int .i64 qx, .bool qa] 105)) wx → be < wx.heap.size) := fun wx h => Nat.lt_of_lt_of_le zse (HGP.out.trans h).size
      clear hnx HOS HON
      by_cases hky : ky = 4
      · have HR := Lib.hid (HNO.out (by rw [HS2.out, HOG.out, hky]; rfl))
        have t3 := beqT hky
        clear hky
        rcases hk2 with ⟨-, t1⟩ | ⟨-, t1, t2⟩
        all_goals
          go_wp2_with (((go_at_call 143; (with_reducible refine (HH.out _ _ (HPv.out _ hwp)).mono ?_); rintro e w5 ⟨rfl, h5⟩; obtain ⟨⟨zb5, d05, d15, d25, d35, d45, d55, d65, d75, d85⟩, e05, e15, e25, e35, z5⟩ := HX.out _ h5; have zb6 : w.heap.size < w5.heap.size + 1 := (by omega); have z6 : wr.heap.size < w5.heap.size + 1 := (by omega)); have la5 := HLD.out _ (HGP.out.trans h5); have ce5 := HE.out _ h5; have ln5 := HLN.out _ (hwp.trans h5); have cy5 := HE2.out _ h5; have zz5 := HBE.out _ h5))
          go_ret
          exact ⟨ret_bool HR.out.symm, (hwp.trans h5).alloc _⟩
      have t3 := beqF hky
      have HG := Lib.hid (HA'.out (by rw [HS2.out, HOG.out]; simp [hky]))
      obtain ⟨klq, hkq⟩ := prt_key ⟨m, qx⟩ HPK.out.1 HPK.out.2
      have HKQ := Lib.hid hkq
      clear hky hkq
      rcases hk2 with ⟨-, t1⟩ | ⟨-, t1, t2⟩
      all_goals
        go_wp2_with (first | (((go_at_call 143; (with_reducible refine (HH.out _ _ (HPv.out _ hwp)).mono ?_); rintro e w5 ⟨rfl, h5⟩; obtain ⟨⟨zb5, d05, d15, d25, d35, d45, d55, d65, d75, d85⟩, e05, e15, e25, e35, z5⟩ := HX.out _ h5; have zb6 : w.heap.size < w5.heap.size + 1 := (by omega); have z6 : wr.heap.size < w5.heap.size + 1 := (by omega)); have la5 := HLD.out _ (HGP.out.trans h5); have ce5 := HE.out _ h5; have ln5 := HLN.out _ (hwp.trans h5); have cy5 := HE2.out _ h5; have zz5 := HBE.out _ h5)) | (at_mapUpdate; refine wpList_put _ rfl _ _ _ 172 rfl prt_keyed Tryz.underlying172 rfl (HM1.out.gr ((HGP.out.trans h5).alloc _)) (by unfold maxLen; omega) (Prt.v ⟨m, qx⟩) _ _ rfl rfl HKQ.out ?_; intro w7 hm7 hg7))
        have g8 : Gr wb w7 := Gr.grownM ((g.trans (HGP.out.trans h5)).alloc _) hg7 (by have := HSZ.out; omega)
        go_roundw
        case rel => exact ⟨k + 1, n1 + 1, _, by go_num, by omega, by omega, g8, hm7, HSN.out, HG.out⟩
        case measure => simp [intOf]; omega
    · have hl : P.ss.take k = P.ss := List.take_of_length_le (by omega)
      rw [hl] at HS
      have HY : Hid ((∀ k (hk : k < P.es.length), P.es[k].k = 4 → 0 ≤ readsN P.ss ⟨k, 0⟩) → signalsB P = true) := fun h => signalsB_yes (fun j hj => HA.out j hj (by omega)) h
      obtain ⟨zb, b0, b1, b2, b3, b4, b5, b6, b7, b8⟩ := hB
      go_wp2_with fail
      clear zb b0 b1 b2 b3 b4 b5 b6 b7 b8 hlt hl HA
      have HB2 := Lib.hid (HB.out.gr g)
      obtain ⟨wc, hwc⟩ : ∃ wc, wc = wr := ⟨_, rfl⟩
      subst hwc
      have hwc : Gr w wc := hwr
      clear hwr g
      go_loopw [11, 72] (fun _ x wr => ∃ k : Nat, x = .int .i64 k ∧ k ≤ P.es.length ∧ Gr wc wr ∧ Hid (∀ j (hj : j < P.es.length), j < k → P.es[j].k = 4 → 0 ≤ readsN P.ss ⟨j, 0⟩)) (fun _ x _ => P.es.length - (intOf x).toNat)
      case atStart => exact ⟨0, rfl, Nat.zero_le _, Gr.refl _, fun j _ h => by omega⟩
      case round =>
        obtain ⟨k, rfl, hk, g, HA⟩ := hrel
        have hwr : Gr w wr := hwc.trans g
        obtain ⟨zb, b0, b1, b2, b3, b4, b5, b6, b7, b8⟩ := HB2.out.gr g
        by_cases hlt : k < P.es.length
        · obtain ⟨bo, o, hsome, zs, y0, y1, y2⟩ := (H1.out.gr hwr).at k hlt
          subst hsome
          have hk1 : (k : Int) < (P.es.length : Int) := by omega
          have HNO := Lib.hid (@signalsB_gate P k hlt)
          have HA' : Hid ((P.es[k].k = 4 → 0 ≤ readsN P.ss ⟨k, 0⟩) → ∀ j (hj : j < P.es.length), j < k + 1 → P.es[j].k = 4 → 0 ≤ readsN P.ss ⟨j, 0⟩) := by
            intro h j hj hjk
            by_cases e : j = k
            · subst e; exact h
            · exact HA.out j hj (by omega)
          have HPK : Hid (PrtOk ⟨(k : Int), 0⟩) := ⟨show I64 (k : Int) from WalkArith.wf_i64 (by omega), show I64 (0 : Int) from WalkArith.wf_i64 (by omega)⟩
          have HRN := Lib.hid (reads_neg P.ss ⟨k, 0⟩)
          clear HA
          obtain ⟨q, hq⟩ : ∃ q, q = P.es[k] := ⟨_, rfl⟩
          rw [← hq] at y0 y1 y2 HNO HA'
          clear hq
          obtain ⟨qn, qk, ql⟩ := q
          dsimp only at y0 y1 y2 HNO HA'
          by_cases hqk : qk = 4
          · have t1 := beqT hqk
            by_cases hin : (⟨(k : Int), 0⟩ : Prt) ∈ P.ss.map (·.at_)
            · have l1 := seen_yes (HM1.out.gr (g.alloc (.cells #[.string qn, .int .i64 qk, .int .i64 ql] 103))) HS.out HPK.out hin
              have HA2 := Lib.hid (HA'.out fun _ => by
                by_cases h : readsN P.ss ⟨k, 0⟩ < 0
                · exact absurd hin (HRN.out.1 h)
                · omega)
              dsimp only at l1
              clear hin hqk HNO HA' HRN
              go_wp2
              go_roundw
              case rel => exact ⟨k + 1, by go_num, by omega, g.alloc _, HA2.out⟩
              case measure => simp [intOf]; omega
            · have l1 := seen_no (HM1.out.gr (g.alloc (.cells #[.string qn, .int .i64 qk, .int .i64 ql] 103))) HS.out HPK.out hin
              have HR := Lib.hid (HNO.out hqk (HRN.out.2 hin))
              dsimp only at l1
              clear hin hqk HNO HA' HRN
              go_wp2
              go_ret
              exact ⟨ret_bool HR.out.symm, hwr.alloc _⟩
          · have t1 := beqF hqk
            have HA2 := Lib.hid (HA'.out fun h => absurd h hqk)
            clear HA' hqk HNO HRN
            go_wp2
            go_roundw
            case rel => exact ⟨k + 1, by go_num, by omega, g.alloc _, HA2.out⟩
            case measure => simp [intOf]; omega
        · have HR := Lib.hid (HY.out fun j hj h => HA.out j hj (by omega) h)
          clear HA
          go_wp2
          go_ret
          exact ⟨ret_bool HR.out.symm, hwr⟩
end Go.Proofs.YtaanepadgoefhaaGreatDoor
namespace Go.Proofs.YtaanepadgoefhaaGreatDoor
open Go.ChangeShapes Go.WideShapes Go.ChangeAt Go.RowKit Go.Maps
set_option linter.unusedVariables false
set_option linter.unusedSimpArgs false
theorem rowB_few {P : Pln} {L : List Int} (h : L.length < 2) : rowB P L = true := by
  match L, h with
  | [], _ => rfl
  | [x], _ => rfl
set_option maxRecDepth 100000 in
set_option maxHeartbeats 1000000 in
theorem row_any (u : Value) (P : Pln) (L : List Int) (w : World) (b0 n : Nat) (f : Value → Option Value) (hu : IsVals w u (L.map (Value.int .i64))) (hL : ∀ x ∈ L, I64 x) (hm : MapIs Tryz.prog 68 w b0 n f) (hf : FnL P.js f) (hj : ∀ x ∈ portsL P.js, hasP P x = true) (hn : L.length ≤ 1000000) :
    Calls Tryz.prog 144 #[u, .map (some b0)] w fun e w' => e = .returned (.bool (rowB P L)) ∧ Gr w w' := by
  have hu' := hu
  obtain ⟨av, cv, rfl, -, -⟩ := hu'
  simp only [List.length_map] at hu ⊢
  have HU := Lib.hid hu
  have HM := Lib.hid hm
  have HF := Lib.hid hf
  have HL := Lib.hid hL
  have HJ := Lib.hid (fun x y => @next_bd P hj x y)
  clear hu hm hf hL hj
  by_cases h2 : L.length < 2
  · have HR := Lib.hid (rowB_few (P := P) h2)
    go_enter Tryz.func144, Tryz.ntmps144
    go_wp2
    go_ret
    exact ⟨ret_bool HR.out.symm, Gr.refl _⟩
  have h2' : 2 ≤ L.length := by omega
  have HRW := Lib.hid (rowB_two (P := P) h2')
  obtain ⟨b, o, hsome, zs, y0⟩ := ints_at HU.out 0 (by omega)
  obtain ⟨b', o', hsome', zs', y1⟩ := ints_at HU.out 1 (by omega)
  subst hsome
  simp only [Option.some.injEq, Addr.mk.injEq, and_true] at hsome'
  obtain ⟨rfl, rfl⟩ := hsome'
  have HLA := Lib.hid (HL.out _ (List.getElem_mem (show 0 < L.length by omega)))
  obtain ⟨A0, hA0⟩ : ∃ A0, A0 = L[0]'(by omega) := ⟨_, rfl⟩
  obtain ⟨A1, hA1⟩ : ∃ A1, A1 = L[1]'(by omega) := ⟨_, rfl⟩
  rw [← hA0] at HRW y0 HLA
  rw [← hA1] at HRW y1
  clear hA0 hA1
  go_enter Tryz.func144, Tryz.ntmps144
  go_wp2_with fail
  have Y0 : Hid (w.cell? ⟨b, o, none⟩ = some (.int .i64 A0)) := y0
  have Y1 := Lib.hid y1
  clear y0 y1
  go_loopw [5, 6, 7, 8] (fun x y _ _ wr => ∃ (O : Int) (k : Nat), x = .int .i64 O ∧ y = .int .i64 ((k : Int) - 1) ∧ k ≤ 2 ∧ Gr w wr ∧ Hid (StOut P A0 A1 k O)) (fun _ y _ _ _ => (intOf y + 1).toNat)
  case atStart => exact ⟨-1, 2, rfl, rfl, by omega, Gr.refl _, .inl ⟨rfl, rfl⟩⟩
  case round =>
    obtain ⟨O, k, rfl, rfl, hk, g, HO⟩ := hrel
    have zs2 := Nat.lt_of_lt_of_le zs g.size
    have y0 := (g.cell _ _ zs).trans Y0.out
    have y1 := (g.cell _ _ zs).trans Y1.out
    by_cases hk0 : 0 < k
    · have hk1 : ¬ (k : Int) - 1 < 0 := by omega
      have hpk : PrtOk ⟨A0, (k : Int) - 1⟩ := ⟨HLA.out, show I64 ((k : Int) - 1) from WalkArith.wf_i64 (by omega)⟩
      have hkk : ((k - 1 : Nat) : Int) - 1 = (k : Int) - 1 - 1 := by omega
      have HKK := Lib.hid hkk
      clear hkk
      rcases hnx : nextL P.js ⟨A0, (k : Int) - 1⟩ with _ | ⟨ye, yx⟩
      · have l1 := next_look_none (HM.out.gr g) HF.out hpk hnx
        have HO2 := Lib.hid (HO.out.no hk0 (joinsTo_none (b := A1) hnx))
        dsimp only at l1
        clear hnx hpk HO
        go_wp2_with fail
        go_quiet (fail)
        go_wp2
        go_roundw
        case rel => exact ⟨O, k - 1, rfl, by rw [HKK.out], by omega, by first | exact (g.alloc _).drewN _ | exact (g.drewN _).alloc _, HO2.out⟩
        case measure => simp [intOf]; omega
      · have l1 := next_look_some (HM.out.gr g) HF.out hpk hnx
        have HJN := Lib.hid (joinsTo_some (b := A1) hnx)
        dsimp only at l1 HJN
        clear hnx hpk
        by_cases hye : ye = A1
        · have t5 := beqT hye
          have HO2 := Lib.hid (HO.out.yes hk0 (by rw [HJN.out]; exact decide_eq_true hye))
          clear hye HO HJN
          go_wp2_with fail
          go_quiet (fail)
          go_wp2
          go_roundw
          case rel => exact ⟨(k : Int) - 1, k - 1, rfl, by rw [HKK.out], by omega, by first | exact (g.alloc _).drewN _ | exact (g.drewN _).alloc _, HO2.out⟩
          case measure => simp [intOf]; omega
        · have t5 := beqF hye
          have HO2 := Lib.hid (HO.out.no hk0 (by rw [HJN.out]; exact decide_eq_false hye))
          clear hye HO HJN
          go_wp2_with fail
          go_quiet (fail)
          go_wp2
          go_roundw
          case rel => exact ⟨O, k - 1, rfl, by rw [HKK.out], by omega, by first | exact (g.alloc _).drewN _ | exact (g.drewN _).alloc _, HO2.out⟩
          case measure => simp [intOf]; omega
    · have hO := HO.out.done hk0
      have hob := outOf_bd P A0 A1
      clear HO
      generalize outOf P A0 A1 = OO at *
      subst hO
      by_cases hneg : O < 0
      · have HR : Hid (rowB P L = false) := by unfold Hid; rw [HRW.out]; simp [hneg]
        go_wp2
        go_ret
        exact ⟨ret_bool HR.out.symm, g⟩
      have HR0 : Hid (rowB P L = chainB P L O) := by unfold Hid; rw [HRW.out]; simp [hneg]
      obtain ⟨hob1, hob2⟩ := hob
      clear HRW
      go_wp2_with fail
      clear y0 y1 Y0 Y1 zs2
      obtain ⟨wd, hwd⟩ : ∃ wd, wd = wr := ⟨_, rfl⟩
      subst hwd
      go_loopw [5, 9, 10, 11] (fun x y _ _ wr => ∃ (Q : Int) (j : Nat), x = .int .i64 Q ∧ y = .int .i64 ((j : Int) + 1) ∧ j + 1 ≤ L.length ∧ -2 ≤ Q ∧ Q ≤ 1 ∧ Gr w wr ∧ Hid (chainB P (L.drop j) Q = chainB P L O)) (fun _ y _ _ _ => L.length - (intOf y).toNat)
      case atStart => exact ⟨O, 0, rfl, rfl, by omega, by omega, by omega, g, rfl⟩
      case round =>
        obtain ⟨Q, j, rfl, rfl, hj1, hq1, hq2, g, HC⟩ := hrel
        by_cases hjl : j + 1 < L.length
        · obtain ⟨b', o', hsome', zs', y0⟩ := ints_at (HU.out.gr g) j (by omega)
          simp only [Option.some.injEq, Addr.mk.injEq, and_true] at hsome'
          obtain ⟨rfl, rfl⟩ := hsome'
          obtain ⟨b', o', hsome', zs2, y1⟩ := ints_at (HU.out.gr g) (j + 1) hjl
          simp only [Option.some.injEq, Addr.mk.injEq, and_true] at hsome'
          obtain ⟨rfl, rfl⟩ := hsome'
          have HCD := Lib.hid (fun q => chain_drop (P := P) hjl q)
          have HLX := Lib.hid (HL.out _ (List.getElem_mem (show j < L.length by omega)))
          obtain ⟨X, hX⟩ : ∃ X, X = L[j]'(by omega) := ⟨_, rfl⟩
          obtain ⟨Y, hY⟩ : ∃ Y, Y = L[j + 1] := ⟨_, rfl⟩
          rw [← hX] at y0 HCD HLX
          rw [← hY] at y1 HCD
          clear hX hY
          have j1 : (j : Int) < (L.length : Int) := by omega
          have j2 : (j : Int) + 1 < (L.length : Int) := by omega
          have hpk : PrtOk ⟨X, Q⟩ := ⟨HLX.out, show I64 Q from WalkArith.wf_i64 (by omega)⟩
          rcases hnx : nextL P.js ⟨X, Q⟩ with _ | ⟨ye, yx⟩
          · have l1 := next_look_none (HM.out.gr g) HF.out hpk hnx
            have HR : Hid (rowB P L = false) := by unfold Hid; rw [HR0.out, ← HC.out, HCD.out, hnx]
            dsimp only at l1
            clear hnx hpk
            go_wp2_with fail
            go_quiet (fail)
            go_wp2
            go_ret
            exact ⟨ret_bool HR.out.symm, by first | exact (g.alloc _).drewN _ | exact (g.drewN _).alloc _⟩
          · have l1 := next_look_some (HM.out.gr g) HF.out hpk hnx
            have HCY : Hid (chainB P (L.drop j) Q = (decide (ye = Y) && chainB P (L.drop (j + 1)) (1 - yx))) := by unfold Hid; rw [HCD.out, hnx]
            have hbd := HJ.out _ _ hnx
            dsimp only at l1 hbd
            obtain ⟨-, -, bd1, bd2⟩ := hbd
            clear hnx HCD hpk
            by_cases hye : ye = Y
            · have t5 := bneF hye
              have HC2 : Hid (chainB P (L.drop (j + 1)) (1 - yx) = chainB P L O) := by
                unfold Hid
                rw [← HC.out, HCY.out, decide_eq_true hye]; rfl
              clear hye HC HCY
              go_wp2_with fail
              go_quiet (fail)
              go_wp2
              go_roundw
              case rel => exact ⟨1 - yx, j + 1, rfl, by go_num, by omega, by omega, by omega, by first | exact (g.alloc _).drewN _ | exact (g.drewN _).alloc _, HC2.out⟩
              case measure => simp [intOf]; omega
            · have t5 := bneT hye
              have HR : Hid (rowB P L = false) := by unfold Hid; rw [HR0.out, ← HC.out, HCY.out, decide_eq_false hye]; rfl
              clear hye HC HCY
              go_wp2_with fail
              go_quiet (fail)
              go_wp2
              go_ret
              exact ⟨ret_bool HR.out.symm, by first | exact (g.alloc _).drewN _ | exact (g.drewN _).alloc _⟩
        · have hce := chain_end (P := P) (L := L) (i := j) (by omega) Q
          have HR : Hid (rowB P L = true) := by unfold Hid; rw [HR0.out, ← HC.out]; exact hce.1
          clear hce HC
          go_wp2
          go_ret
          exact ⟨ret_bool HR.out.symm, g⟩
end Go.Proofs.YtaanepadgoefhaaGreatDoor
