/- Chk8: The document's answer: signals.
Chk9: The document's answer: enters. -/
import Derived.Test.YtknmngejjoohdaaGreatDoorRows
import Derived.Test.YtknmngejjoohdaaGreatDoorB5
import Derived.Test.YtknmngejjoohdaaGreatDoorB2
namespace Go.Proofs.YtknmngejjoohdaaGreatDoor
open Go.ChangeShapes Go.WideShapes Go.ChangeAt Go.RowKit
set_option linter.unusedVariables false
set_option linter.unusedSimpArgs false
theorem reads_dec (l : List Sg) (x : Prt) (k : Nat) : decide (readsL l x = some k) = decide (readsN l x = k) := by
  unfold readsN
  cases readsL l x with
  | none => simp
  | some j => simp; omega
theorem sigB_at (P : Pln) (k : Nat) (hk : k < P.ss.length) : sigB P k = (hasP P P.ss[k].at_ && (decide (kindP P P.ss[k].at_.e = 1) || decide (kindP P P.ss[k].at_.e = 4)) && offGate P P.ss[k].at_ && decide (readsN P.ss P.ss[k].at_ = k)) := by
  unfold sigB
  rw [getD_at _ _ hk]
  simp only [reads_dec]
theorem signalsB_no {P : Pln} {k : Nat} (hk : k < P.ss.length) (h : sigB P k = false) : signalsB P = false := by
  unfold signalsB
  have : (List.range P.ss.length).all (sigB P) = false := by
    rw [List.all_eq_false]; exact ⟨k, by simpa using hk, by simp [h]⟩
  rw [this]; rfl
theorem signalsB_gate {P : Pln} {k : Nat} (hk : k < P.es.length) (h1 : P.es[k].k = 4) (h : readsN P.ss ⟨k, 0⟩ < 0) : signalsB P = false := by
  unfold signalsB
  have : ((List.range P.es.length).all fun i => !decide (kindP P i = 4) || (readsL P.ss ⟨i, 0⟩).isSome) = false := by
    rw [List.all_eq_false]
    refine ⟨k, by simpa using hk, ?_⟩
    rw [kindP_in P k hk, h1]
    unfold readsN at h
    cases hr : readsL P.ss ⟨k, 0⟩ with
    | none => simp
    | some j => rw [hr] at h; simp at h; omega
  rw [this]; simp
theorem signalsB_yes {P : Pln} (h1 : ∀ k (hk : k < P.ss.length), sigB P k = true) (h2 : ∀ k (hk : k < P.es.length), P.es[k].k = 4 → 0 ≤ readsN P.ss ⟨k, 0⟩) : signalsB P = true := by
  unfold signalsB
  have a : (List.range P.ss.length).all (sigB P) = true := by
    rw [List.all_eq_true]; intro k hk; exact h1 k (by simpa using hk)
  have b : ((List.range P.es.length).all fun i => !decide (kindP P i = 4) || (readsL P.ss ⟨i, 0⟩).isSome) = true := by
    rw [List.all_eq_true]
    intro k hk
    have hk' : k < P.es.length := by simpa using hk
    rw [kindP_in P k hk']
    by_cases e : P.es[k].k = 4
    · have := h2 k hk' e
      unfold readsN at this
      cases hr : readsL P.ss ⟨k, 0⟩ with
      | none => rw [hr] at this; simp at this
      | some j => simp
    · simp [e]
  rw [a, b]; rfl
set_option maxRecDepth 100000 in
set_option maxHeartbeats 1000000 in
theorem refSignals_any (v : Value) (P : Pln) (w : World) (hP : IsPln w v P) (hn : P.ss.length ≤ 1000) :
    Calls Tryz.prog 96 #[v] w fun e w' => e = .returned (.bool (signalsB P)) ∧ Gr w w' := by
  obtain ⟨a1, c1, a2, c2, a3, c3, a4, c4, rfl, h1, h2, h3, h4⟩ := hP
  have m1 := IsRow.len h1
  unfold maxLen at m1
  have H1 := Lib.hid h1
  have H3 := Lib.hid h3
  have HPv := Lib.hid (fun (w' : World) (g : Gr w w') => IsPln.mk (w' := w') h1 h2 h3 h4 g)
  have HB := Lib.hid (bxW_box w P (.slice a1 P.es.length c1) (.slice a2 P.js.length c2) (.slice a3 P.ss.length c3) (.slice a4 P.ls.length c4))
  have hw0 := bxW_gr w P (.slice a1 P.es.length c1) (.slice a2 P.js.length c2) (.slice a3 P.ss.length c3) (.slice a4 P.ls.length c4)
  obtain ⟨wb, hwb⟩ : ∃ wb, wb = bxW w P (.slice a1 P.es.length c1) (.slice a2 P.js.length c2) (.slice a3 P.ss.length c3) (.slice a4 P.ls.length c4) := ⟨_, rfl⟩
  rw [← hwb] at HB hw0
  unfold plnV
  have HWB := Lib.hid hwb
  clear h1 h2 h3 h4 hwb
  go_enter Tryz.func96, Tryz.ntmps96
  go_wp2_with fail
  rw [show (w.alloc (.cells #[.slice a1 P.es.length c1, .slice a2 P.js.length c2, .slice a3 P.ss.length c3, .slice a4 P.ls.length c4, .int .i64 P.top, .int .i64 P.brake, .int .i64 P.margin, .int .i64 P.throw, .bool P.hard] 28)) = wb from HWB.out.symm]
  clear HWB
  go_loopw [3, 4, 5, 6, 7] (fun x _ _ _ _ wr => ∃ k : Nat, x = .int .i64 k ∧ k ≤ P.ss.length ∧ Gr wb wr ∧ Hid (∀ j (hj : j < P.ss.length), j < k → sigB P j = true)) (fun x _ _ _ _ _ => P.ss.length - (intOf x).toNat)
  case atStart => exact ⟨0, rfl, Nat.zero_le _, Gr.refl _, fun j _ h => by omega⟩
  case round =>
    obtain ⟨k, rfl, hk, g, HA⟩ := hrel
    have hB := HB.out.gr g
    have hwr : Gr w wr := hw0.trans g
    by_cases hlt : k < P.ss.length
    · obtain ⟨b, o, hsome, zs, -, y1, y2, -⟩ := (H3.out.gr hwr).at k hlt
      have HX0 := Lib.hid (fun wx (h : Gr wr wx) => hB.gr h)
      subst hsome
      have hk1 : (k : Int) < (P.ss.length : Int) := by omega
      have HSB := Lib.hid (sigB_at P k hlt)
      have HNO := Lib.hid (@signalsB_no P k hlt)
      have HA' : Hid (sigB P k = true → ∀ j (hj : j < P.ss.length), j < k + 1 → sigB P j = true) := by
        intro h j hj hjk
        by_cases e : j = k
        · subst e; exact h
        · exact HA.out j hj (by omega)
      clear HA
      generalize P.ss[k].at_ = q at *
      obtain ⟨qe, qx⟩ := q
      dsimp only at y1 y2
      obtain ⟨zb, b0, b1, b2, b3, b4, b5, b6, b7, b8⟩ := hB
      have hwp : Gr w (wr.alloc (.cells #[.int .i64 qe, .int .i64 qx] 67)) := hwr.alloc _
      have hz : Gr (wr.alloc (.cells #[.int .i64 qe, .int .i64 qx] 67)) (wr.alloc (.cells #[.int .i64 qe, .int .i64 qx] 67)) := Gr.refl _
      have HX : Hid (∀ wx, Gr (wr.alloc (.cells #[.int .i64 qe, .int .i64 qx] 67)) wx → PBox wx w.heap.size P _ _ _ _ ∧ wx.cell? ⟨wr.heap.size, 0, none⟩ = some (.int .i64 qe) ∧ wx.cell? ⟨wr.heap.size, 1, none⟩ = some (.int .i64 qx) ∧ wr.heap.size < wx.heap.size) := fun wx h =>
        ⟨HX0.out wx (((Gr.refl wr).alloc _).trans h), (h.cell _ _ (by simp)).trans (by rw [World.cell?_alloc_mark]; rfl), (h.cell _ _ (by simp)).trans (by rw [World.cell?_alloc_mark]; rfl), Nat.lt_of_lt_of_le (by simp) h.size⟩
      have HH := Lib.hid (fun (v' : Value) (w' : World) (h : IsPln w' v' P) => has_any v' P ⟨qe, qx⟩ w' h)
      have HK := Lib.hid (fun (v' : Value) (w' : World) (h : IsPln w' v' P) => kind_any v' P qe w' h)
      have HRD := Lib.hid (fun (v' : Value) (w' : World) (h : IsPln w' v' P) => refReads_any v' P ⟨qe, qx⟩ w' h)
      have HON := Lib.hid (@offGate_none P ⟨qe, qx⟩)
      have HOS := Lib.hid (fun y => @offGate_some P ⟨qe, qx⟩ y)
      unfold Prt.v at HH HRD
      dsimp only at HH HRD HSB
      generalize hasP P ⟨qe, qx⟩ = hh at *
      generalize offGate P ⟨qe, qx⟩ = og at *
      generalize readsN P.ss ⟨qe, qx⟩ = rd at *
      generalize hkq : kindP P qe = kk at *
      clear hkq
      cases hh
      · have HR := Lib.hid (HNO.out (by rw [HSB.out]; rfl))
        (go_wp2_with (first | (go_at_call 148; (with_reducible refine (HK.out _ _ (HPv.out _ (hwp.trans ?hzz))).mono ?_); (case hzz => first | exact hz | exact hz.alloc _); rintro e w5 ⟨rfl, h5⟩; replace hz := (show Gr (wr.alloc (.cells #[.int .i64 qe, .int .i64 qx] 67)) w5 from (by first | exact hz.trans h5 | exact (hz.alloc _).trans h5)); obtain ⟨⟨zb5, d05, d15, d25, d35, d45, d55, d65, d75, d85⟩, e05, e15, z5⟩ := HX.out _ hz) | (go_at_call 146; (with_reducible refine (HH.out _ _ (HPv.out _ (hwp.trans ?hzz))).mono ?_); (case hzz => first | exact hz | exact hz.alloc _); rintro e w6 ⟨rfl, h6⟩; replace hz := (show Gr (wr.alloc (.cells #[.int .i64 qe, .int .i64 qx] 67)) w6 from (by first | exact hz.trans h6 | exact (hz.alloc _).trans h6)); obtain ⟨⟨zb6, d06, d16, d26, d36, d46, d56, d66, d76, d86⟩, e06, e16, z6⟩ := HX.out _ hz) | (go_at_call 147; (with_reducible refine (HNX.out _ _ (HPv.out _ (hwp.trans ?hzz))).mono ?_); (case hzz => first | exact hz | exact hz.alloc _); rintro e w7 ⟨rfl, h7⟩; replace hz := (show Gr (wr.alloc (.cells #[.int .i64 qe, .int .i64 qx] 67)) w7 from (by first | exact hz.trans h7 | exact (hz.alloc _).trans h7)); obtain ⟨⟨zb7, d07, d17, d27, d37, d47, d57, d67, d77, d87⟩, e07, e17, z7⟩ := HX.out _ hz) | (go_at_call 148; (with_reducible refine (HKY.out _ _ (HPv.out _ (hwp.trans ?hzz))).mono ?_); (case hzz => first | exact hz | exact hz.alloc _); rintro e w8 ⟨rfl, h8⟩; replace hz := (show Gr (wr.alloc (.cells #[.int .i64 qe, .int .i64 qx] 67)) w8 from (by first | exact hz.trans h8 | exact (hz.alloc _).trans h8)); obtain ⟨⟨zb8, d08, d18, d28, d38, d48, d58, d68, d78, d88⟩, e08, e18, z8⟩ := HX.out _ hz) | (go_at_call 149; (with_reducible refine (HRD.out _ _ (HPv.out _ (hwp.trans ?hzz))).mono ?_); (case hzz => first | exact hz | exact hz.alloc _); rintro e w9 ⟨rfl, h9⟩; replace hz := (show Gr (wr.alloc (.cells #[.int .i64 qe, .int .i64 qx] 67)) w9 from (by first | exact hz.trans h9 | exact (hz.alloc _).trans h9)); obtain ⟨⟨zb9, d09, d19, d29, d39, d49, d59, d69, d79, d89⟩, e09, e19, z9⟩ := HX.out _ hz)); go_ret; exact ⟨ret_bool HR.out.symm, (by first | exact hwp.trans hz | exact hwp.trans (hz.alloc _))⟩)
      rcases (show (kk ≠ 1 ∧ kk ≠ 4) ∨ kk = 1 ∨ kk = 4 from by omega) with ⟨n1, n4⟩ | hk14
      · have HR := Lib.hid (HNO.out (by rw [HSB.out]; simp [n1, n4]))
        have t1 := bneT n1
        have t2 := bneT n4
        clear n1 n4
        (go_wp2_with (first | (go_at_call 148; (with_reducible refine (HK.out _ _ (HPv.out _ (hwp.trans ?hzz))).mono ?_); (case hzz => first | exact hz | exact hz.alloc _); rintro e w5 ⟨rfl, h5⟩; replace hz := (show Gr (wr.alloc (.cells #[.int .i64 qe, .int .i64 qx] 67)) w5 from (by first | exact hz.trans h5 | exact (hz.alloc _).trans h5)); obtain ⟨⟨zb5, d05, d15, d25, d35, d45, d55, d65, d75, d85⟩, e05, e15, z5⟩ := HX.out _ hz) | (go_at_call 146; (with_reducible refine (HH.out _ _ (HPv.out _ (hwp.trans ?hzz))).mono ?_); (case hzz => first | exact hz | exact hz.alloc _); rintro e w6 ⟨rfl, h6⟩; replace hz := (show Gr (wr.alloc (.cells #[.int .i64 qe, .int .i64 qx] 67)) w6 from (by first | exact hz.trans h6 | exact (hz.alloc _).trans h6)); obtain ⟨⟨zb6, d06, d16, d26, d36, d46, d56, d66, d76, d86⟩, e06, e16, z6⟩ := HX.out _ hz) | (go_at_call 147; (with_reducible refine (HNX.out _ _ (HPv.out _ (hwp.trans ?hzz))).mono ?_); (case hzz => first | exact hz | exact hz.alloc _); rintro e w7 ⟨rfl, h7⟩; replace hz := (show Gr (wr.alloc (.cells #[.int .i64 qe, .int .i64 qx] 67)) w7 from (by first | exact hz.trans h7 | exact (hz.alloc _).trans h7)); obtain ⟨⟨zb7, d07, d17, d27, d37, d47, d57, d67, d77, d87⟩, e07, e17, z7⟩ := HX.out _ hz) | (go_at_call 148; (with_reducible refine (HKY.out _ _ (HPv.out _ (hwp.trans ?hzz))).mono ?_); (case hzz => first | exact hz | exact hz.alloc _); rintro e w8 ⟨rfl, h8⟩; replace hz := (show Gr (wr.alloc (.cells #[.int .i64 qe, .int .i64 qx] 67)) w8 from (by first | exact hz.trans h8 | exact (hz.alloc _).trans h8)); obtain ⟨⟨zb8, d08, d18, d28, d38, d48, d58, d68, d78, d88⟩, e08, e18, z8⟩ := HX.out _ hz) | (go_at_call 149; (with_reducible refine (HRD.out _ _ (HPv.out _ (hwp.trans ?hzz))).mono ?_); (case hzz => first | exact hz | exact hz.alloc _); rintro e w9 ⟨rfl, h9⟩; replace hz := (show Gr (wr.alloc (.cells #[.int .i64 qe, .int .i64 qx] 67)) w9 from (by first | exact hz.trans h9 | exact (hz.alloc _).trans h9)); obtain ⟨⟨zb9, d09, d19, d29, d39, d49, d59, d69, d79, d89⟩, e09, e19, z9⟩ := HX.out _ hz)); go_ret; exact ⟨ret_bool HR.out.symm, (by first | exact hwp.trans hz | exact hwp.trans (hz.alloc _))⟩)
      have hk2 : (kk = 1 ∧ (kk != 1) = false) ∨ (kk = 4 ∧ (kk != 1) = true ∧ (kk != 4) = false) := by
        rcases hk14 with e | e
        · left; exact ⟨e, bneF e⟩
        · right; exact ⟨e, bneT (by omega), bneF e⟩
      have HS2 : Hid (sigB P k = (og && decide (rd = k))) := by
        unfold Hid; rw [HSB.out]
        rcases hk14 with e | e <;> simp [e]
      clear HSB hk14
      rcases hnx : nextL P.js ⟨qe, qx⟩ with _ | ⟨ye, yx⟩
      · have HR := Lib.hid (HNO.out (by rw [HS2.out, HON.out hnx]; rfl))
        have HNX := Lib.hid (fun v w => refNext_none hnx v w)
        clear hnx
        rcases hk2 with ⟨-, t1⟩ | ⟨-, t1, t2⟩
        all_goals (go_wp2_with (first | (go_at_call 148; (with_reducible refine (HK.out _ _ (HPv.out _ (hwp.trans ?hzz))).mono ?_); (case hzz => first | exact hz | exact hz.alloc _); rintro e w5 ⟨rfl, h5⟩; replace hz := (show Gr (wr.alloc (.cells #[.int .i64 qe, .int .i64 qx] 67)) w5 from (by first | exact hz.trans h5 | exact (hz.alloc _).trans h5)); obtain ⟨⟨zb5, d05, d15, d25, d35, d45, d55, d65, d75, d85⟩, e05, e15, z5⟩ := HX.out _ hz) | (go_at_call 146; (with_reducible refine (HH.out _ _ (HPv.out _ (hwp.trans ?hzz))).mono ?_); (case hzz => first | exact hz | exact hz.alloc _); rintro e w6 ⟨rfl, h6⟩; replace hz := (show Gr (wr.alloc (.cells #[.int .i64 qe, .int .i64 qx] 67)) w6 from (by first | exact hz.trans h6 | exact (hz.alloc _).trans h6)); obtain ⟨⟨zb6, d06, d16, d26, d36, d46, d56, d66, d76, d86⟩, e06, e16, z6⟩ := HX.out _ hz) | (go_at_call 147; (with_reducible refine (HNX.out _ _ (HPv.out _ (hwp.trans ?hzz))).mono ?_); (case hzz => first | exact hz | exact hz.alloc _); rintro e w7 ⟨rfl, h7⟩; replace hz := (show Gr (wr.alloc (.cells #[.int .i64 qe, .int .i64 qx] 67)) w7 from (by first | exact hz.trans h7 | exact (hz.alloc _).trans h7)); obtain ⟨⟨zb7, d07, d17, d27, d37, d47, d57, d67, d77, d87⟩, e07, e17, z7⟩ := HX.out _ hz) | (go_at_call 148; (with_reducible refine (HKY.out _ _ (HPv.out _ (hwp.trans ?hzz))).mono ?_); (case hzz => first | exact hz | exact hz.alloc _); rintro e w8 ⟨rfl, h8⟩; replace hz := (show Gr (wr.alloc (.cells #[.int .i64 qe, .int .i64 qx] 67)) w8 from (by first | exact hz.trans h8 | exact (hz.alloc _).trans h8)); obtain ⟨⟨zb8, d08, d18, d28, d38, d48, d58, d68, d78, d88⟩, e08, e18, z8⟩ := HX.out _ hz) | (go_at_call 149; (with_reducible refine (HRD.out _ _ (HPv.out _ (hwp.trans ?hzz))).mono ?_); (case hzz => first | exact hz | exact hz.alloc _); rintro e w9 ⟨rfl, h9⟩; replace hz := (show Gr (wr.alloc (.cells #[.int .i64 qe, .int .i64 qx] 67)) w9 from (by first | exact hz.trans h9 | exact (hz.alloc _).trans h9)); obtain ⟨⟨zb9, d09, d19, d29, d39, d49, d59, d69, d79, d89⟩, e09, e19, z9⟩ := HX.out _ hz)); go_ret; exact ⟨ret_bool HR.out.symm, (by first | exact hwp.trans hz | exact hwp.trans (hz.alloc _))⟩)
      have HNX := Lib.hid (fun v w => refNext_some hnx v w)
      have HOG := Lib.hid (HOS.out _ hnx)
      have HKY := Lib.hid (fun (v' : Value) (w' : World) (h : IsPln w' v' P) => kind_any v' P ye w' h)
      dsimp only at HNX HOG
      generalize kindP P ye = ky at *
      clear hnx HOS HON
      by_cases hky : ky = 4
      · have HR := Lib.hid (HNO.out (by rw [HS2.out, HOG.out, hky]; rfl))
        have t3 := beqT hky
        clear hky
        rcases hk2 with ⟨-, t1⟩ | ⟨-, t1, t2⟩
        all_goals (go_wp2_with (first | (go_at_call 148; (with_reducible refine (HK.out _ _ (HPv.out _ (hwp.trans ?hzz))).mono ?_); (case hzz => first | exact hz | exact hz.alloc _); rintro e w5 ⟨rfl, h5⟩; replace hz := (show Gr (wr.alloc (.cells #[.int .i64 qe, .int .i64 qx] 67)) w5 from (by first | exact hz.trans h5 | exact (hz.alloc _).trans h5)); obtain ⟨⟨zb5, d05, d15, d25, d35, d45, d55, d65, d75, d85⟩, e05, e15, z5⟩ := HX.out _ hz) | (go_at_call 146; (with_reducible refine (HH.out _ _ (HPv.out _ (hwp.trans ?hzz))).mono ?_); (case hzz => first | exact hz | exact hz.alloc _); rintro e w6 ⟨rfl, h6⟩; replace hz := (show Gr (wr.alloc (.cells #[.int .i64 qe, .int .i64 qx] 67)) w6 from (by first | exact hz.trans h6 | exact (hz.alloc _).trans h6)); obtain ⟨⟨zb6, d06, d16, d26, d36, d46, d56, d66, d76, d86⟩, e06, e16, z6⟩ := HX.out _ hz) | (go_at_call 147; (with_reducible refine (HNX.out _ _ (HPv.out _ (hwp.trans ?hzz))).mono ?_); (case hzz => first | exact hz | exact hz.alloc _); rintro e w7 ⟨rfl, h7⟩; replace hz := (show Gr (wr.alloc (.cells #[.int .i64 qe, .int .i64 qx] 67)) w7 from (by first | exact hz.trans h7 | exact (hz.alloc _).trans h7)); obtain ⟨⟨zb7, d07, d17, d27, d37, d47, d57, d67, d77, d87⟩, e07, e17, z7⟩ := HX.out _ hz) | (go_at_call 148; (with_reducible refine (HKY.out _ _ (HPv.out _ (hwp.trans ?hzz))).mono ?_); (case hzz => first | exact hz | exact hz.alloc _); rintro e w8 ⟨rfl, h8⟩; replace hz := (show Gr (wr.alloc (.cells #[.int .i64 qe, .int .i64 qx] 67)) w8 from (by first | exact hz.trans h8 | exact (hz.alloc _).trans h8)); obtain ⟨⟨zb8, d08, d18, d28, d38, d48, d58, d68, d78, d88⟩, e08, e18, z8⟩ := HX.out _ hz) | (go_at_call 149; (with_reducible refine (HRD.out _ _ (HPv.out _ (hwp.trans ?hzz))).mono ?_); (case hzz => first | exact hz | exact hz.alloc _); rintro e w9 ⟨rfl, h9⟩; replace hz := (show Gr (wr.alloc (.cells #[.int .i64 qe, .int .i64 qx] 67)) w9 from (by first | exact hz.trans h9 | exact (hz.alloc _).trans h9)); obtain ⟨⟨zb9, d09, d19, d29, d39, d49, d59, d69, d79, d89⟩, e09, e19, z9⟩ := HX.out _ hz)); go_ret; exact ⟨ret_bool HR.out.symm, (by first | exact hwp.trans hz | exact hwp.trans (hz.alloc _))⟩)
      have t3 := beqF hky
      by_cases hrd : rd = k
      · have HG := Lib.hid (HA'.out (by rw [HS2.out, HOG.out, hrd]; simp [hky]))
        have t4 := bneF hrd
        clear hky hrd
        rcases hk2 with ⟨-, t1⟩ | ⟨-, t1, t2⟩
        all_goals
          go_wp2_with (first | (go_at_call 148; (with_reducible refine (HK.out _ _ (HPv.out _ (hwp.trans ?hzz))).mono ?_); (case hzz => first | exact hz | exact hz.alloc _); rintro e w5 ⟨rfl, h5⟩; replace hz := (show Gr (wr.alloc (.cells #[.int .i64 qe, .int .i64 qx] 67)) w5 from (by first | exact hz.trans h5 | exact (hz.alloc _).trans h5)); obtain ⟨⟨zb5, d05, d15, d25, d35, d45, d55, d65, d75, d85⟩, e05, e15, z5⟩ := HX.out _ hz) | (go_at_call 146; (with_reducible refine (HH.out _ _ (HPv.out _ (hwp.trans ?hzz))).mono ?_); (case hzz => first | exact hz | exact hz.alloc _); rintro e w6 ⟨rfl, h6⟩; replace hz := (show Gr (wr.alloc (.cells #[.int .i64 qe, .int .i64 qx] 67)) w6 from (by first | exact hz.trans h6 | exact (hz.alloc _).trans h6)); obtain ⟨⟨zb6, d06, d16, d26, d36, d46, d56, d66, d76, d86⟩, e06, e16, z6⟩ := HX.out _ hz) | (go_at_call 147; (with_reducible refine (HNX.out _ _ (HPv.out _ (hwp.trans ?hzz))).mono ?_); (case hzz => first | exact hz | exact hz.alloc _); rintro e w7 ⟨rfl, h7⟩; replace hz := (show Gr (wr.alloc (.cells #[.int .i64 qe, .int .i64 qx] 67)) w7 from (by first | exact hz.trans h7 | exact (hz.alloc _).trans h7)); obtain ⟨⟨zb7, d07, d17, d27, d37, d47, d57, d67, d77, d87⟩, e07, e17, z7⟩ := HX.out _ hz) | (go_at_call 148; (with_reducible refine (HKY.out _ _ (HPv.out _ (hwp.trans ?hzz))).mono ?_); (case hzz => first | exact hz | exact hz.alloc _); rintro e w8 ⟨rfl, h8⟩; replace hz := (show Gr (wr.alloc (.cells #[.int .i64 qe, .int .i64 qx] 67)) w8 from (by first | exact hz.trans h8 | exact (hz.alloc _).trans h8)); obtain ⟨⟨zb8, d08, d18, d28, d38, d48, d58, d68, d78, d88⟩, e08, e18, z8⟩ := HX.out _ hz) | (go_at_call 149; (with_reducible refine (HRD.out _ _ (HPv.out _ (hwp.trans ?hzz))).mono ?_); (case hzz => first | exact hz | exact hz.alloc _); rintro e w9 ⟨rfl, h9⟩; replace hz := (show Gr (wr.alloc (.cells #[.int .i64 qe, .int .i64 qx] 67)) w9 from (by first | exact hz.trans h9 | exact (hz.alloc _).trans h9)); obtain ⟨⟨zb9, d09, d19, d29, d39, d49, d59, d69, d79, d89⟩, e09, e19, z9⟩ := HX.out _ hz))
          go_roundw
          case rel => exact ⟨k + 1, by go_num, by omega, (g.alloc _).trans hz, HG.out⟩
          case measure => simp [intOf]; omega
      · have HR := Lib.hid (HNO.out (by rw [HS2.out]; simp [hrd]))
        have t4 := bneT hrd
        clear hky hrd
        rcases hk2 with ⟨-, t1⟩ | ⟨-, t1, t2⟩
        all_goals (go_wp2_with (first | (go_at_call 148; (with_reducible refine (HK.out _ _ (HPv.out _ (hwp.trans ?hzz))).mono ?_); (case hzz => first | exact hz | exact hz.alloc _); rintro e w5 ⟨rfl, h5⟩; replace hz := (show Gr (wr.alloc (.cells #[.int .i64 qe, .int .i64 qx] 67)) w5 from (by first | exact hz.trans h5 | exact (hz.alloc _).trans h5)); obtain ⟨⟨zb5, d05, d15, d25, d35, d45, d55, d65, d75, d85⟩, e05, e15, z5⟩ := HX.out _ hz) | (go_at_call 146; (with_reducible refine (HH.out _ _ (HPv.out _ (hwp.trans ?hzz))).mono ?_); (case hzz => first | exact hz | exact hz.alloc _); rintro e w6 ⟨rfl, h6⟩; replace hz := (show Gr (wr.alloc (.cells #[.int .i64 qe, .int .i64 qx] 67)) w6 from (by first | exact hz.trans h6 | exact (hz.alloc _).trans h6)); obtain ⟨⟨zb6, d06, d16, d26, d36, d46, d56, d66, d76, d86⟩, e06, e16, z6⟩ := HX.out _ hz) | (go_at_call 147; (with_reducible refine (HNX.out _ _ (HPv.out _ (hwp.trans ?hzz))).mono ?_); (case hzz => first | exact hz | exact hz.alloc _); rintro e w7 ⟨rfl, h7⟩; replace hz := (show Gr (wr.alloc (.cells #[.int .i64 qe, .int .i64 qx] 67)) w7 from (by first | exact hz.trans h7 | exact (hz.alloc _).trans h7)); obtain ⟨⟨zb7, d07, d17, d27, d37, d47, d57, d67, d77, d87⟩, e07, e17, z7⟩ := HX.out _ hz) | (go_at_call 148; (with_reducible refine (HKY.out _ _ (HPv.out _ (hwp.trans ?hzz))).mono ?_); (case hzz => first | exact hz | exact hz.alloc _); rintro e w8 ⟨rfl, h8⟩; replace hz := (show Gr (wr.alloc (.cells #[.int .i64 qe, .int .i64 qx] 67)) w8 from (by first | exact hz.trans h8 | exact (hz.alloc _).trans h8)); obtain ⟨⟨zb8, d08, d18, d28, d38, d48, d58, d68, d78, d88⟩, e08, e18, z8⟩ := HX.out _ hz) | (go_at_call 149; (with_reducible refine (HRD.out _ _ (HPv.out _ (hwp.trans ?hzz))).mono ?_); (case hzz => first | exact hz | exact hz.alloc _); rintro e w9 ⟨rfl, h9⟩; replace hz := (show Gr (wr.alloc (.cells #[.int .i64 qe, .int .i64 qx] 67)) w9 from (by first | exact hz.trans h9 | exact (hz.alloc _).trans h9)); obtain ⟨⟨zb9, d09, d19, d29, d39, d49, d59, d69, d79, d89⟩, e09, e19, z9⟩ := HX.out _ hz)); go_ret; exact ⟨ret_bool HR.out.symm, (by first | exact hwp.trans hz | exact hwp.trans (hz.alloc _))⟩)
    · have HY : Hid ((∀ k (hk : k < P.es.length), P.es[k].k = 4 → 0 ≤ readsN P.ss ⟨k, 0⟩) → signalsB P = true) := fun h => signalsB_yes (fun j hj => HA.out j hj (by omega)) h
      clear HA
      obtain ⟨zb, b0, b1, b2, b3, b4, b5, b6, b7, b8⟩ := hB
      go_wp2_with fail
      clear zb b0 b1 b2 b3 b4 b5 b6 b7 b8 hlt
      have HB2 := Lib.hid (HB.out.gr g)
      obtain ⟨wc, hwc⟩ : ∃ wc, wc = wr := ⟨_, rfl⟩
      subst hwc
      have hwc : Gr w wc := hwr
      clear hwr g
      go_loopw [8] (fun x wr => ∃ k : Nat, x = .int .i64 k ∧ k ≤ P.es.length ∧ Gr wc wr ∧ Hid (∀ j (hj : j < P.es.length), j < k → P.es[j].k = 4 → 0 ≤ readsN P.ss ⟨j, 0⟩)) (fun x _ => P.es.length - (intOf x).toNat)
      case atStart => exact ⟨0, rfl, Nat.zero_le _, Gr.refl _, fun j _ h => by omega⟩
      case round =>
        obtain ⟨k, rfl, hk, g, HA⟩ := hrel
        have hwr : Gr w wr := hwc.trans g
        by_cases hlt : k < P.es.length
        · obtain ⟨b, o, hsome, zs, -, y1, -⟩ := (H1.out.gr hwr).at k hlt
          obtain ⟨zb, b0, b1, b2, b3, b4, b5, b6, b7, b8⟩ := HB2.out.gr g
          subst hsome
          have hk1 : (k : Int) < (P.es.length : Int) := by omega
          have HNO := Lib.hid (@signalsB_gate P k hlt)
          have HA' : Hid ((P.es[k].k = 4 → 0 ≤ readsN P.ss ⟨k, 0⟩) → ∀ j (hj : j < P.es.length), j < k + 1 → P.es[j].k = 4 → 0 ≤ readsN P.ss ⟨j, 0⟩) := by
            intro h j hj hjk
            by_cases e : j = k
            · subst e; exact h
            · exact HA.out j hj (by omega)
          clear HA
          have HRD := Lib.hid (fun (v' : Value) (w' : World) (h : IsPln w' v' P) => refReads_any v' P ⟨k, 0⟩ w' h)
          unfold Prt.v at HRD
          dsimp only at HRD
          generalize P.es[k].k = qk at *
          generalize readsN P.ss ⟨(k : Int), 0⟩ = rd at *
          by_cases hqk : qk = 4
          · have t1 := beqT hqk
            by_cases hrd : rd < 0
            · have HR := Lib.hid (HNO.out hqk hrd)
              clear hqk
              go_wp2_with (go_at_call 149; refine (HRD.out _ _ (HPv.out _ hwr)).mono ?_; rintro e w5 ⟨rfl, h5⟩)
              go_ret
              exact ⟨ret_bool HR.out.symm, hwr.trans h5⟩
            · have HG := Lib.hid (HA'.out fun _ => by omega)
              clear hqk
              go_wp2_with (go_at_call 149; refine (HRD.out _ _ (HPv.out _ hwr)).mono ?_; rintro e w5 ⟨rfl, h5⟩)
              go_roundw
              case rel => exact ⟨k + 1, by go_num, by omega, g.trans h5, HG.out⟩
              case measure => simp [intOf]; omega
          · have t1 := beqF hqk
            have HG := Lib.hid (HA'.out fun h => absurd h hqk)
            clear hqk
            go_wp2
            go_roundw
            case rel => exact ⟨k + 1, by go_num, by omega, g, HG.out⟩
            case measure => simp [intOf]; omega
        · have HR := Lib.hid (HY.out fun j hj h => HA.out j hj (by omega) h)
          obtain ⟨zb, b0, b1, b2, b3, b4, b5, b6, b7, b8⟩ := HB2.out.gr g
          clear HA
          go_wp2
          go_ret
          exact ⟨ret_bool HR.out.symm, hwr⟩
end Go.Proofs.YtknmngejjoohdaaGreatDoor
namespace Go.Proofs.YtknmngejjoohdaaGreatDoor
open Go.ChangeShapes Go.WideShapes Go.ChangeAt Go.RowKit
set_option linter.unusedVariables false
set_option linter.unusedSimpArgs false

def OwnI (B : Nat) (w : World) (v : Value) (L : List Int) : Prop := w.ownsRow B 3 1 v L.length (L.map (Value.int .i64))
theorem OwnI.nil (B : Nat) (w : World) : OwnI B w (.slice none 0 0) [] := ⟨rfl, .inl ⟨rfl, rfl⟩⟩
theorem OwnI.snoc {B : Nat} {w : World} {v : Value} {L : List Int} {x : Int} (h : w.ownsRow B 3 1 v (L.length + 1) (L.map (Value.int .i64) ++ [.int .i64 x])) : OwnI B w v (L ++ [x]) := by
  unfold OwnI
  simpa using h
theorem OwnI.vals {B : Nat} {w : World} {v : Value} {L : List Int} (h : OwnI B w v L) (hl : L.length ≤ maxLen) : IsVals w v (L.map (Value.int .i64)) := by
  obtain ⟨h1, h2⟩ := h
  rcases h2 with ⟨rfl, h0⟩ | ⟨g, cap, cur, rfl, hg, hh, hn, hcap, hsz, htake⟩
  · have : L = [] := List.length_eq_zero_iff.1 h0
    subst this
    exact ⟨none, 0, rfl, by simp, .inl rfl⟩
  · refine ⟨some ⟨g, 0, none⟩, cap, by simp, by simpa using hl, .inr ⟨g, 0, rfl, ?_, ?_⟩⟩
    · rcases Nat.lt_or_ge g w.heap.size with h | h
      · exact h
      · rw [Array.getElem?_eq_none h] at hh; cases hh
    · intro i x hx
      rw [← htake] at hx
      unfold World.cell?
      simp only [hh]
      rw [List.getElem?_take] at hx
      split at hx
      · simpa using hx
      · cases hx
theorem Tryz.infoI : (Tryz.prog.info? 3).map (fun i => (i.zero, i.size, i.bytes)) = some (some (.int .i64 0), 1, 8) := by kernel_rfl
theorem OwnI.one {w : World} {x : Int} : OwnI w.heap.size (w.alloc (.cells #[.int .i64 x] 3)) (.slice (some ⟨w.heap.size, 0, none⟩) 1 1) [x] := by
  refine ⟨rfl, .inr ⟨w.heap.size, 1, #[.int .i64 x], rfl, Nat.le_refl _, heap_alloc_new w _, Nat.le_refl _, by unfold maxLen; omega, rfl, rfl⟩⟩
theorem nextL_mem : ∀ (l : List Jn) (x y : Prt), nextL l x = some y → y ∈ portsL l
  | [], _, _, h => by cases h
  | j :: t, x, y, h => by
    rw [portsL_cons]
    unfold nextL at h
    split at h
    · cases h; simp
    · split at h
      · cases h; simp
      · simp [nextL_mem t x y h]
theorem endsK_le (k : Int) : endsK k ≤ 4 := by
  unfold endsK
  split; · omega
  split; · omega
  split; · omega
  split <;> omega
theorem hasP_bd {P : Pln} {x : Prt} (h : hasP P x = true) : 0 ≤ x.e ∧ x.e < P.es.length ∧ 0 ≤ x.x ∧ x.x < 4 := by
  unfold hasP at h
  simp only [Bool.and_eq_true, decide_eq_true_eq] at h
  have := endsK_le (kindP P x.e)
  omega
theorem next_bd {P : Pln} (hj : ∀ x ∈ portsL P.js, hasP P x = true) {x y : Prt} (h : nextL P.js x = some y) : 0 ≤ y.e ∧ y.e < P.es.length ∧ 0 ≤ y.x ∧ y.x < 4 := hasP_bd (hj y (nextL_mem _ _ _ h))
def joinsTo (P : Pln) (x : Prt) (b : Int) : Bool := match nextL P.js x with | some y => decide (y.e = b) | none => false
theorem joinsTo_none {P : Pln} {x : Prt} {b : Int} (h : nextL P.js x = none) : joinsTo P x b = false := by unfold joinsTo; rw [h]
theorem joinsTo_some {P : Pln} {x y : Prt} {b : Int} (h : nextL P.js x = some y) : joinsTo P x b = decide (y.e = b) := by unfold joinsTo; rw [h]
theorem outOf_eq (P : Pln) (a b : Int) : outOf P a b = if joinsTo P ⟨a, 0⟩ b then 0 else if joinsTo P ⟨a, 1⟩ b then 1 else -1 := rfl
def entF (P : Pln) : List Int → Int → List Int
  | a :: b :: t, out => match nextL P.js ⟨a, out⟩ with | some y => y.x :: entF P (b :: t) (1 - y.x) | none => []
  | _, _ => []
def entL (P : Pln) : List Int → List Int
  | a :: b :: t => (1 - outOf P a b) :: entF P (a :: b :: t) (outOf P a b)
  | [_] => [0]
  | [] => []
def entB (P : Pln) (L : List Int) : Bool := !decide (L.length = 0) && L.all (fun e => decide (kindP P e = 1)) && rowB P L
theorem entB_nil (P : Pln) : entB P [] = false := rfl
theorem entB_kind {P : Pln} {L : List Int} {i : Nat} (hi : i < L.length) (h : kindP P L[i] ≠ 1) : entB P L = false := by
  unfold entB
  rw [all_false_of L _ i hi (by simpa using h)]; simp
theorem entB_all {P : Pln} {L : List Int} (h0 : 0 < L.length) (h : ∀ i (hi : i < L.length), kindP P L[i] = 1) : entB P L = rowB P L := by
  unfold entB
  rw [all_true_of L _ fun i hi => by simpa using h i hi, decide_eq_false (by omega)]; rfl
theorem rowB_one {P : Pln} {L : List Int} (h : L.length = 1) : rowB P L = true := by
  match L, h with
  | [x], _ => rfl
theorem rowB_two {P : Pln} {L : List Int} (h : 2 ≤ L.length) : rowB P L = (!decide (outOf P (L[0]'(by omega)) (L[1]'(by omega)) < 0) && chainB P L (outOf P (L[0]'(by omega)) (L[1]'(by omega)))) := by
  match L, h with
  | a :: b :: t, _ => rfl
theorem entL_one {P : Pln} {L : List Int} (h : L.length = 1) : entL P L = [0] := by
  match L, h with
  | [x], _ => rfl
theorem entL_two {P : Pln} {L : List Int} (h : 2 ≤ L.length) : entL P L = (1 - outOf P (L[0]'(by omega)) (L[1]'(by omega))) :: entF P L (outOf P (L[0]'(by omega)) (L[1]'(by omega))) := by
  match L, h with
  | a :: b :: t, _ => rfl
theorem chain_drop {P : Pln} {L : List Int} {i : Nat} (h : i + 1 < L.length) (o : Int) : chainB P (L.drop i) o = match nextL P.js ⟨L[i], o⟩ with | some y => decide (y.e = L[i + 1]) && chainB P (L.drop (i + 1)) (1 - y.x) | none => false := by
  rw [List.drop_eq_getElem_cons (by omega), List.drop_eq_getElem_cons h]; rfl
theorem entF_drop {P : Pln} {L : List Int} {i : Nat} (h : i + 1 < L.length) (o : Int) : entF P (L.drop i) o = match nextL P.js ⟨L[i], o⟩ with | some y => y.x :: entF P (L.drop (i + 1)) (1 - y.x) | none => [] := by
  rw [List.drop_eq_getElem_cons (by omega), List.drop_eq_getElem_cons h]; rfl
theorem chain_end {P : Pln} {L : List Int} {i : Nat} (h : L.length ≤ i + 1) (o : Int) : chainB P (L.drop i) o = true ∧ entF P (L.drop i) o = [] := by
  match hd : L.drop i with
  | [] => exact ⟨rfl, rfl⟩
  | [x] => exact ⟨rfl, rfl⟩
  | x :: y :: t =>
    have := congrArg List.length hd
    simp at this
    omega
end Go.Proofs.YtknmngejjoohdaaGreatDoor
