/- the reference's Outs. -/
import Derived.Test.YtaanepadgoefhaaGreatDoorRows
import Derived.Test.YtaanepadgoefhaaGreatDoorRRef2
import Derived.Test.YtaanepadgoefhaaGreatDoorB3
import Derived.Deep.Cut
namespace Go.Proofs.YtaanepadgoefhaaGreatDoor
open Go.ChangeShapes Go.WideShapes Go.ChangeAt Go.RowKit Go.Maps
set_option linter.unusedVariables false
set_option linter.unusedSimpArgs false
theorem has_kind (P : Pln) (m i : Int) : hasP P ⟨m, i⟩ = decide (0 ≤ i ∧ i < endsK (kindP P m)) := by
  unfold hasP
  dsimp only
  by_cases h : 0 ≤ m ∧ m < P.es.length
  · rw [Bool.eq_iff_iff]
    simp only [Bool.and_eq_true, decide_eq_true_eq]
    omega
  · rw [kindP_out P m h]
    have : endsK 0 = 0 := rfl
    rw [this, Bool.eq_iff_iff]
    simp only [Bool.and_eq_true, decide_eq_true_eq]
    omega
set_option maxRecDepth 100000 in
set_option maxHeartbeats 2000000 in
theorem refOuts_any (v : Value) (P : Pln) (m i : Int) (w : World) (hP : IsPln w v P) :
    Calls Tryz.prog 88 #[v, .int .i64 m, .int .i64 i] w (RetO w (outsK (kindP P m) i)) := by
  have HPI := Lib.hid hP
  obtain ⟨a1, c1, a2, c2, a3, c3, a4, c4, rfl, -⟩ := hP
  have HB := Lib.hid (bxW_box w P (.slice a1 P.es.length c1) (.slice a2 P.js.length c2) (.slice a3 P.ss.length c3) (.slice a4 P.ls.length c4))
  have hw0 := bxW_gr w P (.slice a1 P.es.length c1) (.slice a2 P.js.length c2) (.slice a3 P.ss.length c3) (.slice a4 P.ls.length c4)
  have HHA0 : Hid (∀ w', Gr w w' → Calls Tryz.prog 113 #[(.agg #[.slice a1 P.es.length c1, .slice a2 P.js.length c2, .slice a3 P.ss.length c3, .slice a4 P.ls.length c4, .int .i64 P.top, .int .i64 P.brake, .int .i64 P.margin, .int .i64 P.throw, .bool P.hard]), .agg #[.int .i64 m, .int .i64 i]] w' fun e w'' => e = .returned (.bool (decide (0 ≤ i ∧ i < endsK (kindP P m)))) ∧ Gr w' w'') := fun w' g => by
    have := has_any _ P ⟨m, i⟩ w' (HPI.out.gr g)
    rw [has_kind] at this
    exact this
  have HKI : Hid (∀ w', Gr w w' → Calls Tryz.prog 86 #[(.agg #[.slice a1 P.es.length c1, .slice a2 P.js.length c2, .slice a3 P.ss.length c3, .slice a4 P.ls.length c4, .int .i64 P.top, .int .i64 P.brake, .int .i64 P.margin, .int .i64 P.throw, .bool P.hard]), .int .i64 m] w' fun e w'' => e = .returned (.int .i64 (kindP P m)) ∧ Gr w' w'') := fun w' g => kind_any _ P m w' (HPI.out.gr g)
  unfold plnV
  generalize kindP P m = k at HHA0 HKI ⊢
  generalize hn : endsK k = n at HHA0
  by_cases ok : 0 ≤ i ∧ i < n
  · have HHA : Hid (∀ w', Gr w w' → Calls Tryz.prog 113 #[(.agg #[.slice a1 P.es.length c1, .slice a2 P.js.length c2, .slice a3 P.ss.length c3, .slice a4 P.ls.length c4, .int .i64 P.top, .int .i64 P.brake, .int .i64 P.margin, .int .i64 P.throw, .bool P.hard]), .agg #[.int .i64 m, .int .i64 i]] w' fun e w'' => e = .returned (.bool true) ∧ Gr w' w'') := fun w' g => by have := HHA0.out w' g; rw [decide_eq_true ok] at this; exact this
    clear HHA0
    by_cases k1 : k = 1
    · subst k1
      have e2 : n = 2 := hn.symm
      subst e2
      have hi : i = 0 ∨ i = 1 := by omega
      clear ok hn
      rcases hi with rfl | rfl
      all_goals
        go_enter Tryz.func88, Tryz.ntmps88
        go_wp2_with (first | (go_at_call 113; (with_reducible refine (HHA.out _ ((Gr.refl w).alloc _)).mono ?_); rintro e w1 ⟨rfl, g1⟩; have gw1 := hw0.trans g1; obtain ⟨zb1, d0, d1, d2, d3, d4, d5, d6, d7, d8⟩ := HB.out.gr g1) | (go_at_call 86; (with_reducible refine (HKI.out _ gw1).mono ?_); rintro e w2 ⟨rfl, g2⟩; have gw2 := gw1.trans g2) | fail)
        go_ret
        exact ⟨_, rfl, ways_one (by simp) (by rw [World.cell?_alloc_mark]; rfl) (by rw [World.cell?_alloc_mark]; rfl), gw2.alloc _⟩
    by_cases k3 : k = 3
    · subst k3
      have e2 : n = 4 := hn.symm
      subst e2
      have hi : i = 0 ∨ i = 1 ∨ i = 2 ∨ i = 3 := by omega
      clear ok hn
      rcases hi with rfl | rfl | rfl | rfl
      all_goals
        go_enter Tryz.func88, Tryz.ntmps88
        go_wp2_with (first | (go_at_call 113; (with_reducible refine (HHA.out _ ((Gr.refl w).alloc _)).mono ?_); rintro e w1 ⟨rfl, g1⟩; have gw1 := hw0.trans g1; obtain ⟨zb1, d0, d1, d2, d3, d4, d5, d6, d7, d8⟩ := HB.out.gr g1) | (go_at_call 86; (with_reducible refine (HKI.out _ gw1).mono ?_); rintro e w2 ⟨rfl, g2⟩; have gw2 := gw1.trans g2) | fail)
        go_ret
        exact ⟨_, rfl, ways_one (by simp) (by rw [World.cell?_alloc_mark]; rfl) (by rw [World.cell?_alloc_mark]; rfl), gw2.alloc _⟩
    by_cases k2 : k = 2
    · subst k2
      have e2 : n = 3 := hn.symm
      subst e2
      have hi : i = 0 ∨ i = 1 ∨ i = 2 := by omega
      clear ok hn
      rcases hi with rfl | rfl | rfl
      · go_enter Tryz.func88, Tryz.ntmps88
        go_wp2_with (first | (go_at_call 113; (with_reducible refine (HHA.out _ ((Gr.refl w).alloc _)).mono ?_); rintro e w1 ⟨rfl, g1⟩; have gw1 := hw0.trans g1; obtain ⟨zb1, d0, d1, d2, d3, d4, d5, d6, d7, d8⟩ := HB.out.gr g1) | (go_at_call 86; (with_reducible refine (HKI.out _ gw1).mono ?_); rintro e w2 ⟨rfl, g2⟩; have gw2 := gw1.trans g2) | fail)
        go_ret
        exact ⟨_, rfl, ways_two (by simp) (by rw [World.cell?_alloc_mark]; rfl) (by rw [World.cell?_alloc_mark]; rfl) (by rw [World.cell?_alloc_mark]; rfl) (by rw [World.cell?_alloc_mark]; rfl), gw2.alloc _⟩
      all_goals
        go_enter Tryz.func88, Tryz.ntmps88
        go_wp2_with (first | (go_at_call 113; (with_reducible refine (HHA.out _ ((Gr.refl w).alloc _)).mono ?_); rintro e w1 ⟨rfl, g1⟩; have gw1 := hw0.trans g1; obtain ⟨zb1, d0, d1, d2, d3, d4, d5, d6, d7, d8⟩ := HB.out.gr g1) | (go_at_call 86; (with_reducible refine (HKI.out _ gw1).mono ?_); rintro e w2 ⟨rfl, g2⟩; have gw2 := gw1.trans g2) | fail)
        go_ret
        exact ⟨_, rfl, ways_one (by simp) (by rw [World.cell?_alloc_mark]; rfl) (by rw [World.cell?_alloc_mark]; rfl), gw2.alloc _⟩
    have HO : Hid (outsK k i = []) := by show outsK k i = []; unfold outsK; rw [if_neg (by omega), if_neg k1, if_neg k3, if_neg k2]
    have t1 : (k == 1) = false := by simpa using k1
    have t2 : (k == 2) = false := by simpa using k2
    have t3 : (k == 3) = false := by simpa using k3
    clear k1 k2 k3 ok hn
    go_enter Tryz.func88, Tryz.ntmps88
    go_wp2_with (first | (go_at_call 113; (with_reducible refine (HHA.out _ ((Gr.refl w).alloc _)).mono ?_); rintro e w1 ⟨rfl, g1⟩; have gw1 := hw0.trans g1; obtain ⟨zb1, d0, d1, d2, d3, d4, d5, d6, d7, d8⟩ := HB.out.gr g1) | (go_at_call 86; (with_reducible refine (HKI.out _ gw1).mono ?_); rintro e w2 ⟨rfl, g2⟩; have gw2 := gw1.trans g2) | fail)
    go_ret
    exact ⟨_, rfl, by rw [HO.out]; exact ways_nil _, gw2⟩
  · have HHA : Hid (∀ w', Gr w w' → Calls Tryz.prog 113 #[(.agg #[.slice a1 P.es.length c1, .slice a2 P.js.length c2, .slice a3 P.ss.length c3, .slice a4 P.ls.length c4, .int .i64 P.top, .int .i64 P.brake, .int .i64 P.margin, .int .i64 P.throw, .bool P.hard]), .agg #[.int .i64 m, .int .i64 i]] w' fun e w'' => e = .returned (.bool false) ∧ Gr w' w'') := fun w' g => by have := HHA0.out w' g; rw [decide_eq_false ok] at this; exact this
    have HO : Hid (outsK k i = []) := by show outsK k i = []; unfold outsK; rw [if_pos (by omega)]
    clear HHA0 ok hn
    go_enter Tryz.func88, Tryz.ntmps88
    go_wp2_with (first | (go_at_call 113; (with_reducible refine (HHA.out _ ((Gr.refl w).alloc _)).mono ?_); rintro e w1 ⟨rfl, g1⟩; have gw1 := hw0.trans g1; obtain ⟨zb1, d0, d1, d2, d3, d4, d5, d6, d7, d8⟩ := HB.out.gr g1) | (go_at_call 86; (with_reducible refine (HKI.out _ gw1).mono ?_); rintro e w2 ⟨rfl, g2⟩; have gw2 := gw1.trans g2) | fail)
    go_ret
    exact ⟨_, rfl, by rw [HO.out]; exact ways_nil _, gw1⟩
end Go.Proofs.YtaanepadgoefhaaGreatDoor
