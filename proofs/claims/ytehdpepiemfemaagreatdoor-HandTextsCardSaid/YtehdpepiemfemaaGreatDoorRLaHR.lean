/- HandReads. -/
import Derived.Test.YtehdpepiemfemaaGreatDoorRows
import Derived.Test.YtehdpepiemfemaaGreatDoorRKn25
import Derived.Test.YtehdpepiemfemaaGreatDoorRDrvT
import Derived.Test.YtehdpepiemfemaaGreatDoorRSin
namespace Go.Proofs.YtehdpepiemfemaaGreatDoor
open Go.ChangeShapes Go.WideShapes Go.ChangeAt Go.RowKit Go.Maps
set_option linter.unusedVariables false
set_option linter.unusedSimpArgs false
theorem parse_some {s : ByteArray} {D : Drv} (h : parseD s = some D) (hs : s.size ≤ 1048576) (w : World) (ht : w.ShapedOpen Tryz.prog) : Calls Tryz.prog 19 #[.string s] w fun e w' => ∃ a c, e = .returned (.tuple #[.agg #[.int .i64 D.kind, .slice a D.tape.length c], .bool true]) ∧ IsVals w' (.slice a D.tape.length c) (D.tape.map (Value.int .i64)) ∧ Gr w w' :=
  (parse_any s hs w ht).mono fun e w' ⟨v, he, hd, g⟩ => by
    rw [h] at he hd
    obtain ⟨a, c, rfl, hv⟩ := hd
    exact ⟨a, c, he, hv, g⟩
theorem parse_none {s : ByteArray} (h : parseD s = none) (hs : s.size ≤ 1048576) (w : World) (ht : w.ShapedOpen Tryz.prog) : Calls Tryz.prog 19 #[.string s] w fun e w' => ∃ a c, e = .returned (.tuple #[.agg #[.int .i64 0, .slice a 0 c], .bool false]) ∧ IsVals w' (.slice a 0 c) [] ∧ Gr w w' :=
  (parse_any s hs w ht).mono fun e w' ⟨v, he, hd, g⟩ => by
    rw [h] at he hd
    obtain ⟨a, c, rfl, hv⟩ := hd
    exact ⟨a, c, he, hv, g⟩
theorem refParse_some {s : ByteArray} {D : Drv} (h : rparseD s = some D) (hs : s.size ≤ 1048576) (w : World) : Calls Tryz.prog 21 #[.string s] w fun e w' => ∃ a c, e = .returned (.tuple #[.agg #[.int .i64 D.kind, .slice a D.tape.length c], .bool true]) ∧ IsVals w' (.slice a D.tape.length c) (D.tape.map (Value.int .i64)) ∧ Gr w w' :=
  (refParse_any s hs w).mono fun e w' ⟨v, he, hd, g⟩ => by
    rw [h] at he hd
    obtain ⟨a, c, rfl, hv⟩ := hd
    exact ⟨a, c, he, hv, g⟩
theorem refParse_none {s : ByteArray} (h : rparseD s = none) (hs : s.size ≤ 1048576) (w : World) : Calls Tryz.prog 21 #[.string s] w fun e w' => ∃ a c, e = .returned (.tuple #[.agg #[.int .i64 0, .slice a 0 c], .bool false]) ∧ IsVals w' (.slice a 0 c) [] ∧ Gr w w' :=
  (refParse_any s hs w).mono fun e w' ⟨v, he, hd, g⟩ => by
    rw [h] at he hd
    obtain ⟨a, c, rfl, hv⟩ := hd
    exact ⟨a, c, he, hv, g⟩
theorem sameInts_self (l : List Int) (a b : Option Addr) (ca cb : Nat) (w : World) (ha : IsVals w (.slice a l.length ca) (l.map (Value.int .i64))) (hb : IsVals w (.slice b l.length cb) (l.map (Value.int .i64))) :
    Calls Tryz.prog 20 #[.slice a l.length ca, .slice b l.length cb] w fun e w' => e = .returned (.bool true) ∧ Gr w w' := by
  have := sameInts_any l l a b ca cb w ha hb
  rw [decide_eq_true rfl] at this
  exact this
theorem sameInts_zero (a b : Option Addr) (ca cb : Nat) (w : World) (ha : IsVals w (.slice a 0 ca) []) (hb : IsVals w (.slice b 0 cb) []) :
    Calls Tryz.prog 20 #[.slice a 0 ca, .slice b 0 cb] w fun e w' => e = .returned (.bool true) ∧ Gr w w' := sameInts_self [] a b ca cb w ha hb
theorem new2c {w w' : World} {x y : Value} {t : TypeId} (g : Gr (w.alloc (.cells #[x, y] t)) w') : w.heap.size < w'.heap.size ∧ w'.cell? ⟨w.heap.size, 0, none⟩ = some x ∧ w'.cell? ⟨w.heap.size, 1, none⟩ = some y := by
  have hz : w.heap.size < (w.alloc (.cells #[x, y] t)).heap.size := by simp
  exact ⟨Nat.lt_of_lt_of_le hz g.size, (g.cell _ _ hz).trans (by rw [World.cell?_alloc_mark]; rfl), (g.cell _ _ hz).trans (by rw [World.cell?_alloc_mark]; rfl)⟩
set_option maxRecDepth 100000 in
set_option maxHeartbeats 1000000 in
theorem handReads_walk (s : ByteArray) (w : World) (ht : Tabs w) (hs : s.size ≤ maxLen) :
    Calls Tryz.prog 5 #[.string s] w fun e w' => e = .returned (.bool true) ∧ Gr w w' := by
  have HKN := Lib.hid (known25_any w ht.sh)
  unfold maxLen at hs
  by_cases hl : 2000 < s.size
  · have hl1 : 2000 < (s.size : Int) := by omega
    go_enter Tryz.func5, Tryz.ntmps5
    go_wp2_with (first | (go_at_call 6; (with_reducible refine (HKN.out).mono ?_); rintro e w1 ⟨rfl, g1⟩) | fail)
    go_ret
    exact ⟨rfl, g1⟩
  have hl1 : ¬ 2000 < (s.size : Int) := by omega
  have hs2 : s.size ≤ 1048576 := by omega
  cases hp : parseD s with
  | none =>
    have HP := Lib.hid (fun w' (g : Gr w w') => parse_none hp hs2 w' (shp_gr ht.sh g))
    have HQ := Lib.hid (fun w' => refParse_none (by rw [← parse_eq]; exact hp) hs2 w')
    clear hp
    go_enter Tryz.func5, Tryz.ntmps5
    go_wp2_with (first | (go_at_call 6; (with_reducible refine (HKN.out).mono ?_); rintro e w1 ⟨rfl, g1⟩) | (go_at_call 19; (with_reducible refine (HP.out _ g1).mono ?_); rintro e w2 ⟨a, c, rfl, hv, g2⟩; have HV := Lib.hid hv; clear hv; have HA := Lib.hid (fun (w' : World) (g : Gr (w2.alloc (.cells #[.int .i64 (0), .slice a (0) c] 35)) w') => new2c g)) | (go_at_call 21; (with_reducible refine (HQ.out _).mono ?_); rintro e w3 ⟨b, d, rfl, hw, g3⟩; have HW := Lib.hid hw; clear hw; obtain ⟨hz3, a0, a1⟩ := HA.out _ g3) | (go_at_call 20; (with_reducible refine (sameInts_zero _ _ _ _ _ ?_ ?_).mono ?_); (exact (HV.out.gr (((Gr.refl _).alloc _).trans g3)).gr ((Gr.refl _).alloc _)); (exact HW.out.gr ((Gr.refl _).alloc _)); rintro e w5 ⟨rfl, g5⟩; have gw5 := ((g1.trans g2).trans ((((Gr.refl _).alloc _).trans g3).alloc _)).trans g5; have HV5 := Lib.hid (((HV.out.gr (((Gr.refl _).alloc _).trans g3)).gr ((Gr.refl _).alloc _)).gr g5); obtain ⟨hz5, c0, c1⟩ := HA.out _ ((g3.alloc _).trans g5)) | fail)
    go_ret
    exact ⟨rfl, gw5⟩
  | some D =>
    have HP := Lib.hid (fun w' (g : Gr w w') => parse_some hp hs2 w' (shp_gr ht.sh g))
    have HQ := Lib.hid (fun w' => refParse_some (by rw [← parse_eq]; exact hp) hs2 w')
    have hpr := parse_print hp
    have HPR : Hid (∀ w' (g : Gr w w') a c, IsVals w' (.slice a D.tape.length c) (D.tape.map (Value.int .i64)) → Calls Tryz.prog 16 #[.agg #[.int .i64 D.kind, .slice a D.tape.length c]] w' fun e w'' => e = .returned (.string s) ∧ Gr w' w'') := fun w' g a c hv => by
      have := print_any _ D w' ⟨a, c, rfl, hv⟩ (ht.gr g)
      rw [hpr] at this
      exact this
    have hss : (s.toList == s.toList) = true := by simp
    obtain ⟨kind, tape⟩ := D
    dsimp only at HP HQ HPR
    clear hp hpr
    go_enter Tryz.func5, Tryz.ntmps5
    go_wp2_with (first | (go_at_call 6; (with_reducible refine (HKN.out).mono ?_); rintro e w1 ⟨rfl, g1⟩) | (go_at_call 19; (with_reducible refine (HP.out _ g1).mono ?_); rintro e w2 ⟨a, c, rfl, hv, g2⟩; have HV := Lib.hid hv; clear hv; have HA := Lib.hid (fun (w' : World) (g : Gr (w2.alloc (.cells #[.int .i64 (kind), .slice a (tape.length) c] 35)) w') => new2c g)) | (go_at_call 21; (with_reducible refine (HQ.out _).mono ?_); rintro e w3 ⟨b, d, rfl, hw, g3⟩; have HW := Lib.hid hw; clear hw; obtain ⟨hz3, a0, a1⟩ := HA.out _ g3) | (go_at_call 20; (with_reducible refine (sameInts_self tape _ _ _ _ _ ?_ ?_).mono ?_); (exact (HV.out.gr (((Gr.refl _).alloc _).trans g3)).gr ((Gr.refl _).alloc _)); (exact HW.out.gr ((Gr.refl _).alloc _)); rintro e w5 ⟨rfl, g5⟩; have gw5 := ((g1.trans g2).trans ((((Gr.refl _).alloc _).trans g3).alloc _)).trans g5; have HV5 := Lib.hid (((HV.out.gr (((Gr.refl _).alloc _).trans g3)).gr ((Gr.refl _).alloc _)).gr g5); obtain ⟨hz5, c0, c1⟩ := HA.out _ ((g3.alloc _).trans g5)) | (go_at_call 16; (with_reducible refine (HPR.out _ gw5 _ _ ?_).mono ?_); (exact HV5.out); rintro e w6 ⟨rfl, g6⟩) | fail)
    go_ret
    exact ⟨rfl, gw5.trans g6⟩
end Go.Proofs.YtehdpepiemfemaaGreatDoor
