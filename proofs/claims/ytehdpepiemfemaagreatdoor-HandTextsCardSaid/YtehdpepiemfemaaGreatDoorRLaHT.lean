/- HandTexts. -/
import Derived.Test.YtehdpepiemfemaaGreatDoorRows
import Derived.Test.YtehdpepiemfemaaGreatDoorRKn25
import Derived.Test.YtehdpepiemfemaaGreatDoorRDrvT
import Derived.Test.YtehdpepiemfemaaGreatDoorRSin
import Derived.Test.YtehdpepiemfemaaGreatDoorROpnD
import Derived.Test.YtehdpepiemfemaaGreatDoorRLaHR
namespace Go.Proofs.YtehdpepiemfemaaGreatDoor
open Go.ChangeShapes Go.WideShapes Go.ChangeAt Go.RowKit Go.Maps
set_option linter.unusedVariables false
set_option linter.unusedSimpArgs false
theorem printD_size {D : Drv} (h : mayD D = true) : (printD D).size ≤ 1048576 := by
  unfold printD
  rw [if_pos h]
  split
  · decide
  split
  · decide
  · rename_i h1 h2
    have h3 : D.kind = 3 := by have := mayD_kind h; omega
    obtain ⟨ha, hl⟩ := mayD_all h h3
    have := tapeS_size D.tape bTape ha
    have hb : bTape.size = 4 := rfl
    omega
theorem beq_self_l (l : List UInt8) : (l == l) = true := by simp
set_option maxRecDepth 100000 in
set_option maxHeartbeats 2000000 in
theorem handTexts_walk (v : Value) (D : Drv) (w : World) (ht : Tabs w) (hD : IsDrv w v D ∧ I64 D.kind ∧ ∀ x ∈ D.tape, I64 x) :
    Calls Tryz.prog 4 #[v] w fun e w' => e = .returned (.bool true) ∧ Gr w w' := by
  obtain ⟨⟨a, c, rfl, hd⟩, -⟩ := hD
  have hDr : ∀ w', Gr w w' → IsDrv w' (.agg #[.int .i64 D.kind, .slice a D.tape.length c]) D := fun w' g => ⟨a, c, rfl, hd.gr g⟩
  have hm : D.tape.length ≤ maxLen := by obtain ⟨_, _, e, hm, -⟩ := hd; simpa using hm
  unfold maxLen at hm
  have HV := Lib.hid hd
  have g0 : Gr w (w.alloc (.cells #[.int .i64 D.kind, .slice a D.tape.length c] 35)) := (Gr.refl _).alloc _
  have HBX := Lib.hid (fun (w' : World) (g : Gr (w.alloc (.cells #[.int .i64 D.kind, .slice a D.tape.length c] 35)) w') => new2c g)
  have HKN := Lib.hid (known25_any _ (shp_gr ht.sh g0))
  have HPR := Lib.hid (fun w' g => print_any _ D w' (hDr w' g) (ht.gr g))
  have HRP := Lib.hid (fun w' g => refPrintD_any _ D w' (hDr w' g))
  have HMY := Lib.hid (fun w' g => hmay_any _ D w' (hDr w' g))
  have HRM := Lib.hid (fun w' g => refMayD_any _ D w' (hDr w' g))
  have hpp := print_parse D
  have hps : mayD D = true → (printD D).size ≤ 1048576 := fun h => printD_size h
  have hp0 : mayD D = false → (printD D).size ≤ 1048576 := fun h => by unfold printD; rw [h]; show (⟨#[]⟩ : ByteArray).size ≤ _; decide
  have hsz : (printD D).size ≤ 1048576 := by
    cases hh : mayD D
    · exact hp0 hh
    · exact hps hh
  have HPN : Hid (mayD D = false → ∀ w' (g : Gr w w'), Calls Tryz.prog 19 #[.string (printD D)] w' fun e w'' => ∃ a c, e = .returned (.tuple #[.agg #[.int .i64 0, .slice a 0 c], .bool false]) ∧ IsVals w'' (.slice a 0 c) [] ∧ Gr w' w'') := fun h w' g => by
    rw [h] at hpp
    exact parse_none hpp hsz w' (shp_gr ht.sh g)
  have HPS : Hid (mayD D = true → ∀ w' (g : Gr w w'), Calls Tryz.prog 19 #[.string (printD D)] w' fun e w'' => ∃ a c, e = .returned (.tuple #[.agg #[.int .i64 D.kind, .slice a D.tape.length c], .bool true]) ∧ IsVals w'' (.slice a D.tape.length c) (D.tape.map (Value.int .i64)) ∧ Gr w' w'') := fun h w' g => by
    rw [h] at hpp
    exact parse_some hpp hsz w' (shp_gr ht.sh g)
  clear hpp hps hp0
  have hss := beq_self_l (printD D).toList
  generalize printD D = S at *
  generalize hmd : mayD D = m at *
  obtain ⟨kind, tape⟩ := D
  unfold drvV
  dsimp only at *
  clear hd hDr
  by_cases hl : 200 < tape.length
  · have hl1 : 200 < (tape.length : Int) := by omega
    go_enter Tryz.func4, Tryz.ntmps4
    go_wp2_with (first | (go_at_call 6; (with_reducible refine (HKN.out).mono ?_); rintro e w1 ⟨rfl, g1⟩; have gk := g0.trans g1; obtain ⟨zk, d0, d1⟩ := HBX.out _ g1) | fail)
    go_ret
    exact ⟨rfl, gk⟩
  have hl1 : ¬ 200 < (tape.length : Int) := by omega
  clear hmd
  cases m
  all_goals
    go_enter Tryz.func4, Tryz.ntmps4
    go_upto_region 6 with (first | (go_at_call 6; (with_reducible refine (HKN.out).mono ?_); rintro e w1 ⟨rfl, g1⟩; have gk := g0.trans g1; obtain ⟨zk, d0, d1⟩ := HBX.out _ g1) | (go_at_call 16; (with_reducible refine (HPR.out _ gk).mono ?_); rintro e w2 ⟨rfl, g2⟩; have gp := gk.trans g2; have gb2 := g1.trans g2; obtain ⟨zp, p0, p1⟩ := HBX.out _ gb2) | fail)
    have hcb := fun (i : GrW w2) (o : Nat) => GrW.cell zp i o
    (refine wp_region_gr (by kernel_rfl) (by kernel_rfl) ?_; (repeat (go_big_quiet_step ((first | (go_at_call 17; exact Calls.gr_of (HMY.out _ (gp.trans (GrW.gr _)))) | (go_at_call 10; exact Calls.gr_of (HRM.out _ (gp.trans (GrW.gr _)))) | (go_at_call 18; exact Calls.gr_of (HRP.out _ (gp.trans (GrW.gr _)))))))); refine wpQuiet_nil ?_; intro wz hz; obtain ⟨iz, hz⟩ := hz; obtain ⟨wn, gn⟩ := iz; dsimp only at hz; obtain rfl := hz.symm)
    have q0 := (gn.cell _ _ zp).trans p0
    have q1 := (gn.cell _ _ zp).trans p1
    have zn : w.heap.size < wn.heap.size := Nat.lt_of_lt_of_le zp gn.size
    have gq := gp.trans gn
    clear p0 p1 hcb
    first
      | have HPX := Lib.hid (HPN.out rfl)
      | have HPX := Lib.hid (HPN.out trivial)
      | have HPX := Lib.hid (HPS.out rfl)
      | have HPX := Lib.hid (HPS.out trivial)
    clear HPN HPS
    go_wp2_with (first | (go_at_call 19; (with_reducible refine (HPX.out _ gq).mono ?_); rintro e w3 ⟨b, d, rfl, hw, g3⟩; have HW := Lib.hid hw; clear hw; have gr3 := gq.trans g3; have s0 := (g3.cell _ _ zn).trans q0; have s1 := (g3.cell _ _ zn).trans q1; have z3 := Nat.lt_of_lt_of_le zn g3.size) | (go_at_call 17; (with_reducible refine (HMY.out _ (gr3.alloc _)).mono ?_); rintro e w4 ⟨rfl, g4⟩; obtain ⟨z4, a0, a1⟩ := new2c g4; have gn4 := (g3.trans ((Gr.refl _).alloc _)).trans g4; have t0 := (gn4.cell _ _ zn).trans q0; have t1 := (gn4.cell _ _ zn).trans q1; have gf := gq.trans gn4) | (go_at_call 20; (with_reducible refine (sameInts_self tape _ _ _ _ _ ?_ ?_).mono ?_); (exact HW.out.gr (((Gr.refl _).alloc _).trans g4)); (exact HV.out.gr gf); rintro e w5 ⟨rfl, g5⟩; have gf := gf.trans g5) | fail)
    go_ret
    exact ⟨rfl, gf⟩
end Go.Proofs.YtehdpepiemfemaaGreatDoor
