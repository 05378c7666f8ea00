/- The reference's Same of plans that are one. -/
import Derived.Test.YtknmngejjoohdaaGreatDoorRows
import Derived.Test.YtknmngejjoohdaaGreatDoorB3
import Derived.Test.YtknmngejjoohdaaGreatDoorRSin
import Derived.Test.YtknmngejjoohdaaGreatDoorB2
namespace Go.Proofs.YtknmngejjoohdaaGreatDoor
open Go.ChangeShapes Go.WideShapes Go.ChangeAt Go.RowKit Go.Maps
set_option linter.unusedVariables false
set_option linter.unusedSimpArgs false
theorem eleQ_eqg : Tryz.prog.eqGuardType Tryz.prog.depth 80 = false := by kernel_rfl
theorem eleQ_stood : Tryz.prog.stoodInHeld 80 = false := by kernel_rfl
theorem eleQ_fields : Tryz.prog.underlying 80 = some (.struct (Tryz.prog.fieldsOf 80)) := by kernel_rfl
theorem jnQ_eqg : Tryz.prog.eqGuardType Tryz.prog.depth 82 = false := by kernel_rfl
theorem jnQ_stood : Tryz.prog.stoodInHeld 82 = false := by kernel_rfl
theorem jnQ_fields : Tryz.prog.underlying 82 = some (.struct (Tryz.prog.fieldsOf 82)) := by kernel_rfl
theorem sgQ_eqg : Tryz.prog.eqGuardType Tryz.prog.depth 84 = false := by kernel_rfl
theorem sgQ_stood : Tryz.prog.stoodInHeld 84 = false := by kernel_rfl
theorem sgQ_fields : Tryz.prog.underlying 84 = some (.struct (Tryz.prog.fieldsOf 84)) := by kernel_rfl
set_option maxRecDepth 100000 in
theorem ele_nsame (n : ByteArray) (k l : Int) (w : World) : (binOp .neq 80 (.agg #[.string n, .int .i64 k, .int .i64 l]) (.agg #[.string n, .int .i64 k, .int .i64 l])).run Tryz.prog w = .ok (.bool false) w := by
  have hu := Tryz.underlying80
  have hf := eleQ_fields
  rw [hu] at hf
  simp only [Option.some.injEq, TypeDesc.struct.injEq] at hf
  rw [run_neq_struct, run_equalIn_agg w 9999 _ _ _ eleQ_fields eleQ_stood, ← hf]
  simp [Op.eqFields, go_sem, Tryz.underlying3, Tryz.underlying9]
set_option maxRecDepth 100000 in
theorem jn_nsame (a b c d : Int) (w : World) : (binOp .neq 82 (.agg #[.int .i64 a, .int .i64 b, .int .i64 c, .int .i64 d]) (.agg #[.int .i64 a, .int .i64 b, .int .i64 c, .int .i64 d])).run Tryz.prog w = .ok (.bool false) w := by
  have hu := Tryz.underlying82
  have hf := jnQ_fields
  rw [hu] at hf
  simp only [Option.some.injEq, TypeDesc.struct.injEq] at hf
  rw [run_neq_struct, run_equalIn_agg w 9999 _ _ _ jnQ_fields jnQ_stood, ← hf]
  simp [Op.eqFields, go_sem, Tryz.underlying3, Tryz.underlying67]
set_option maxRecDepth 100000 in
theorem sg_nsame (n : ByteArray) (a b : Int) (q : Bool) (w : World) : (binOp .neq 84 (.agg #[.string n, .int .i64 a, .int .i64 b, .bool q]) (.agg #[.string n, .int .i64 a, .int .i64 b, .bool q])).run Tryz.prog w = .ok (.bool false) w := by
  have hu := Tryz.underlying84
  have hf := sgQ_fields
  rw [hu] at hf
  simp only [Option.some.injEq, TypeDesc.struct.injEq] at hf
  rw [run_neq_struct, run_equalIn_agg w 9999 _ _ _ sgQ_fields sgQ_stood, ← hf]
  simp [Op.eqFields, go_sem, Tryz.underlying3, Tryz.underlying9, Tryz.underlying4, Tryz.underlying67]
theorem eleQ_guard (op : BinOp) (x y : Operand) (xs ys : Array Value) (w : World) : (eqGuard op 80 x y (.agg xs) (.agg ys)).run Tryz.prog w = .ok () w := run_eqGuard_agg w op _ x y xs ys eleQ_eqg
theorem jnQ_guard (op : BinOp) (x y : Operand) (xs ys : Array Value) (w : World) : (eqGuard op 82 x y (.agg xs) (.agg ys)).run Tryz.prog w = .ok () w := run_eqGuard_agg w op _ x y xs ys jnQ_eqg
theorem sgQ_guard (op : BinOp) (x y : Operand) (xs ys : Array Value) (w : World) : (eqGuard op 84 x y (.agg xs) (.agg ys)).run Tryz.prog w = .ok () w := run_eqGuard_agg w op _ x y xs ys sgQ_eqg
set_option maxRecDepth 100000 in
set_option maxHeartbeats 4000000 in
theorem refSameP_any (v u : Value) (P : Pln) (w : World) (hv : IsPln w v P) (hu : IsPln w u P) :
    Calls Tryz.prog 13 #[v, u] w fun e w' => e = .returned (.bool true) ∧ Gr w w' := by
  obtain ⟨a1, c1, a2, c2, a3, c3, a4, c4, rfl, h1, h2, h3, h4⟩ := hv
  obtain ⟨b1, d1, b2, d2, b3, d3, b4, d4, rfl, k1, k2, k3, k4⟩ := hu
  have m1 := IsRow.len h1
  have m2 := IsRow.len h2
  have m3 := IsRow.len h3
  have m4 : P.ls.length ≤ maxLen := by obtain ⟨_, h, _⟩ := h4; exact IsRow.len h
  unfold maxLen at m1 m2 m3 m4
  have H1 := Lib.hid h1
  have H2 := Lib.hid h2
  have H3 := Lib.hid h3
  have H4 := Lib.hid h4
  have K1 := Lib.hid k1
  have K2 := Lib.hid k2
  have K3 := Lib.hid k3
  have K4 := Lib.hid k4
  have g0 : Gr w ((w.alloc (.cells #[.slice a1 P.es.length c1, .slice a2 P.js.length c2, .slice a3 P.ss.length c3, .slice a4 P.ls.length c4, .int .i64 P.top, .int .i64 P.brake, .int .i64 P.margin, .int .i64 P.throw, .bool P.hard] 28)).alloc (.cells #[.slice b1 P.es.length d1, .slice b2 P.js.length d2, .slice b3 P.ss.length d3, .slice b4 P.ls.length d4, .int .i64 P.top, .int .i64 P.brake, .int .i64 P.margin, .int .i64 P.throw, .bool P.hard] 28)) := ((Gr.refl _).alloc _).alloc _
  have HX : Hid (∀ w', Gr ((w.alloc (.cells #[.slice a1 P.es.length c1, .slice a2 P.js.length c2, .slice a3 P.ss.length c3, .slice a4 P.ls.length c4, .int .i64 P.top, .int .i64 P.brake, .int .i64 P.margin, .int .i64 P.throw, .bool P.hard] 28)).alloc (.cells #[.slice b1 P.es.length d1, .slice b2 P.js.length d2, .slice b3 P.ss.length d3, .slice b4 P.ls.length d4, .int .i64 P.top, .int .i64 P.brake, .int .i64 P.margin, .int .i64 P.throw, .bool P.hard] 28)) w' → PBox w' w.heap.size P (.slice a1 P.es.length c1) (.slice a2 P.js.length c2) (.slice a3 P.ss.length c3) (.slice a4 P.ls.length c4) ∧ PBox w' (w.heap.size + 1) P (.slice b1 P.es.length d1) (.slice b2 P.js.length d2) (.slice b3 P.ss.length d3) (.slice b4 P.ls.length d4)) := fun w' g => by
    have e : (w.alloc (.cells #[.slice a1 P.es.length c1, .slice a2 P.js.length c2, .slice a3 P.ss.length c3, .slice a4 P.ls.length c4, .int .i64 P.top, .int .i64 P.brake, .int .i64 P.margin, .int .i64 P.throw, .bool P.hard] 28)).heap.size = w.heap.size + 1 := by simp
    refine ⟨(PBox.new w P _ _ _ _).gr (((Gr.refl _).alloc _).trans g), ?_⟩
    have := PBox.new (w.alloc (.cells #[.slice a1 P.es.length c1, .slice a2 P.js.length c2, .slice a3 P.ss.length c3, .slice a4 P.ls.length c4, .int .i64 P.top, .int .i64 P.brake, .int .i64 P.margin, .int .i64 P.throw, .bool P.hard] 28)) P (.slice b1 P.es.length d1) (.slice b2 P.js.length d2) (.slice b3 P.ss.length d3) (.slice b4 P.ls.length d4)
    rw [e] at this
    exact this.gr g
  have t1 : (P.top != P.top) = false := bneF rfl
  have t2 : (P.brake != P.brake) = false := bneF rfl
  have t3 : (P.margin != P.margin) = false := bneF rfl
  have t4 : (P.throw != P.throw) = false := bneF rfl
  have t5 : (P.hard != P.hard) = false := by simp
  have l1 : ((P.es.length : Int) != (P.es.length : Int)) = false := bneF rfl
  have l2 : ((P.js.length : Int) != (P.js.length : Int)) = false := bneF rfl
  have l3 : ((P.ss.length : Int) != (P.ss.length : Int)) = false := bneF rfl
  have l4 : ((P.ls.length : Int) != (P.ls.length : Int)) = false := bneF rfl
  unfold plnV
  clear h1 h2 h3 h4 k1 k2 k3 k4
  obtain ⟨⟨zb, p0, p1, p2, p3, p4, p5, p6, p7, p8⟩, ⟨zc, q0, q1, q2, q3, q4, q5, q6, q7, q8⟩⟩ := HX.out _ (Gr.refl _)
  go_enter Tryz.func13, Tryz.ntmps13
  go_wp2_with fail
  clear zb p0 p1 p2 p3 p4 p5 p6 p7 p8 zc q0 q1 q2 q3 q4 q5 q6 q7 q8 t1 t2 t3 t4 t5 l1 l2 l3 l4
  go_loopw [5] (fun x wr => ∃ k : Nat, x = .int .i64 k ∧ k ≤ P.es.length ∧ Gr ((w.alloc (.cells #[.slice a1 P.es.length c1, .slice a2 P.js.length c2, .slice a3 P.ss.length c3, .slice a4 P.ls.length c4, .int .i64 P.top, .int .i64 P.brake, .int .i64 P.margin, .int .i64 P.throw, .bool P.hard] 28)).alloc (.cells #[.slice b1 P.es.length d1, .slice b2 P.js.length d2, .slice b3 P.ss.length d3, .slice b4 P.ls.length d4, .int .i64 P.top, .int .i64 P.brake, .int .i64 P.margin, .int .i64 P.throw, .bool P.hard] 28)) wr) (fun x _ => P.es.length - (intOf x).toNat)
  case atStart => exact ⟨0, rfl, Nat.zero_le _, Gr.refl _⟩
  case round =>
    obtain ⟨k, rfl, hk, g⟩ := hrel
    have gw := g0.trans g
    obtain ⟨⟨zb, p0, p1, p2, p3, p4, p5, p6, p7, p8⟩, ⟨zc, q0, q1, q2, q3, q4, q5, q6, q7, q8⟩⟩ := HX.out _ g
    by_cases hlt : k < P.es.length
    · have hk1 : (k : Int) < (P.es.length : Int) := by omega
      obtain ⟨e1, o1, hs1, z1, y0, y1, y2⟩ := IsEles.at (H1.out.gr gw) k hlt
      obtain ⟨e2, o2, hs2, z2, u0, u1, u2⟩ := IsEles.at (K1.out.gr gw) k hlt
      subst hs1 hs2
      generalize P.es[k] = x at y0 y1 y2 u0 u1 u2
      obtain ⟨nm, ek, el⟩ := x
      dsimp only at y0 y1 y2 u0 u1 u2
      have E1 := ele_nsame nm ek el
      have GG := eleQ_guard .neq
      go_wp2_with fail
      (have hcb := fun (i : GrW wr) (o : Nat) => GrW.cell zb i o; have hcc := fun (i : GrW wr) (o : Nat) => GrW.cell zc i o; have hc1 := fun (i : GrW wr) (o : Nat) => GrW.cell z1 i o; have hc2 := fun (i : GrW wr) (o : Nat) => GrW.cell z2 i o)
      (refine wp_region_gr (by kernel_rfl) (by kernel_rfl) ?_; (repeat (go_big_quiet_step (fail))); refine wpQuiet_nil ?_; intro wz hz; obtain ⟨iz, hz⟩ := hz; obtain ⟨wn, gn⟩ := iz; dsimp only at hz; obtain rfl := hz.symm)
      go_wp2_with fail
      go_roundw
      case rel => exact ⟨k + 1, by go_num, hlt, g.trans gn⟩
      case measure => simp [intOf]; omega
    have hk1 : ¬ (k : Int) < (P.es.length : Int) := by omega
    go_wp2_with fail
    go_loopw [6] (fun x wr => ∃ k : Nat, x = .int .i64 k ∧ k ≤ P.js.length ∧ Gr ((w.alloc (.cells #[.slice a1 P.es.length c1, .slice a2 P.js.length c2, .slice a3 P.ss.length c3, .slice a4 P.ls.length c4, .int .i64 P.top, .int .i64 P.brake, .int .i64 P.margin, .int .i64 P.throw, .bool P.hard] 28)).alloc (.cells #[.slice b1 P.es.length d1, .slice b2 P.js.length d2, .slice b3 P.ss.length d3, .slice b4 P.ls.length d4, .int .i64 P.top, .int .i64 P.brake, .int .i64 P.margin, .int .i64 P.throw, .bool P.hard] 28)) wr) (fun x _ => P.js.length - (intOf x).toNat)
    case atStart => exact ⟨0, rfl, Nat.zero_le _, g⟩
    case round =>
      clear hk hk1 hlt zb p0 p1 p2 p3 p4 p5 p6 p7 p8 zc q0 q1 q2 q3 q4 q5 q6 q7 q8 gw
      rename_i wr0 _ _ _ _
      obtain ⟨k, rfl, hk, g⟩ := hrel
      have gw := g0.trans g
      obtain ⟨⟨zb, p0, p1, p2, p3, p4, p5, p6, p7, p8⟩, ⟨zc, q0, q1, q2, q3, q4, q5, q6, q7, q8⟩⟩ := HX.out _ g
      by_cases hlt : k < P.js.length
      · have hk1 : (k : Int) < (P.js.length : Int) := by omega
        obtain ⟨e1, o1, hs1, z1, y0, y1, y2, y3⟩ := IsJns.at (H2.out.gr gw) k hlt
        obtain ⟨e2, o2, hs2, z2, u0, u1, u2, u3⟩ := IsJns.at (K2.out.gr gw) k hlt
        subst hs1 hs2
        generalize P.js[k] = x at y0 y1 y2 y3 u0 u1 u2 u3
        obtain ⟨⟨ae, ax⟩, ⟨be, bx⟩⟩ := x
        dsimp only at y0 y1 y2 y3 u0 u1 u2 u3
        have E1 := jn_nsame ae ax be bx
        have GG := jnQ_guard .neq
        go_wp2_with fail
        (have hcb := fun (i : GrW wr) (o : Nat) => GrW.cell zb i o; have hcc := fun (i : GrW wr) (o : Nat) => GrW.cell zc i o; have hc1 := fun (i : GrW wr) (o : Nat) => GrW.cell z1 i o; have hc2 := fun (i : GrW wr) (o : Nat) => GrW.cell z2 i o)
        (refine wp_region_gr (by kernel_rfl) (by kernel_rfl) ?_; (repeat (go_big_quiet_step (fail))); refine wpQuiet_nil ?_; intro wz hz; obtain ⟨iz, hz⟩ := hz; obtain ⟨wn, gn⟩ := iz; dsimp only at hz; obtain rfl := hz.symm)
        go_wp2_with fail
        go_roundw
        case rel => exact ⟨k + 1, by go_num, hlt, g.trans gn⟩
        case measure => simp [intOf]; omega
      have hk1 : ¬ (k : Int) < (P.js.length : Int) := by omega
      go_wp2_with fail
      go_loopw [7] (fun x wr => ∃ k : Nat, x = .int .i64 k ∧ k ≤ P.ss.length ∧ Gr ((w.alloc (.cells #[.slice a1 P.es.length c1, .slice a2 P.js.length c2, .slice a3 P.ss.length c3, .slice a4 P.ls.length c4, .int .i64 P.top, .int .i64 P.brake, .int .i64 P.margin, .int .i64 P.throw, .bool P.hard] 28)).alloc (.cells #[.slice b1 P.es.length d1, .slice b2 P.js.length d2, .slice b3 P.ss.length d3, .slice b4 P.ls.length d4, .int .i64 P.top, .int .i64 P.brake, .int .i64 P.margin, .int .i64 P.throw, .bool P.hard] 28)) wr) (fun x _ => P.ss.length - (intOf x).toNat)
      case atStart => exact ⟨0, rfl, Nat.zero_le _, g⟩
      case round =>
        clear hk hk1 hlt zb p0 p1 p2 p3 p4 p5 p6 p7 p8 zc q0 q1 q2 q3 q4 q5 q6 q7 q8 gw
        obtain ⟨k, rfl, hk, g⟩ := hrel
        have gw := g0.trans g
        obtain ⟨⟨zb, p0, p1, p2, p3, p4, p5, p6, p7, p8⟩, ⟨zc, q0, q1, q2, q3, q4, q5, q6, q7, q8⟩⟩ := HX.out _ g
        by_cases hlt : k < P.ss.length
        · have hk1 : (k : Int) < (P.ss.length : Int) := by omega
          obtain ⟨e1, o1, hs1, z1, y0, y1, y2, y3⟩ := IsSgs.at (H3.out.gr gw) k hlt
          obtain ⟨e2, o2, hs2, z2, u0, u1, u2, u3⟩ := IsSgs.at (K3.out.gr gw) k hlt
          subst hs1 hs2
          generalize P.ss[k] = x at y0 y1 y2 y3 u0 u1 u2 u3
          obtain ⟨nm, ⟨ae, ax⟩, au⟩ := x
          dsimp only at y0 y1 y2 y3 u0 u1 u2 u3
          have E1 := sg_nsame nm ae ax au
          have GG := sgQ_guard .neq
          go_wp2_with fail
          (have hcb := fun (i : GrW wr) (o : Nat) => GrW.cell zb i o; have hcc := fun (i : GrW wr) (o : Nat) => GrW.cell zc i o; have hc1 := fun (i : GrW wr) (o : Nat) => GrW.cell z1 i o; have hc2 := fun (i : GrW wr) (o : Nat) => GrW.cell z2 i o)
          (refine wp_region_gr (by kernel_rfl) (by kernel_rfl) ?_; (repeat (go_big_quiet_step (fail))); refine wpQuiet_nil ?_; intro wz hz; obtain ⟨iz, hz⟩ := hz; obtain ⟨wn, gn⟩ := iz; dsimp only at hz; obtain rfl := hz.symm)
          go_wp2_with fail
          go_roundw
          case rel => exact ⟨k + 1, by go_num, hlt, g.trans gn⟩
          case measure => simp [intOf]; omega
        have hk1 : ¬ (k : Int) < (P.ss.length : Int) := by omega
        go_wp2_with fail
        go_loopw [8] (fun x wr => ∃ k : Nat, x = .int .i64 k ∧ k ≤ P.ls.length ∧ Gr ((w.alloc (.cells #[.slice a1 P.es.length c1, .slice a2 P.js.length c2, .slice a3 P.ss.length c3, .slice a4 P.ls.length c4, .int .i64 P.top, .int .i64 P.brake, .int .i64 P.margin, .int .i64 P.throw, .bool P.hard] 28)).alloc (.cells #[.slice b1 P.es.length d1, .slice b2 P.js.length d2, .slice b3 P.ss.length d3, .slice b4 P.ls.length d4, .int .i64 P.top, .int .i64 P.brake, .int .i64 P.margin, .int .i64 P.throw, .bool P.hard] 28)) wr) (fun x _ => P.ls.length - (intOf x).toNat)
        case atStart => exact ⟨0, rfl, Nat.zero_le _, g⟩
        case round =>
          clear hk hk1 hlt zb p0 p1 p2 p3 p4 p5 p6 p7 p8 zc q0 q1 q2 q3 q4 q5 q6 q7 q8 gw
          obtain ⟨k, rfl, hk, g⟩ := hrel
          have gw := g0.trans g
          obtain ⟨⟨zb, p0, p1, p2, p3, p4, p5, p6, p7, p8⟩, ⟨zc, q0, q1, q2, q3, q4, q5, q6, q7, q8⟩⟩ := HX.out _ g
          by_cases hlt : k < P.ls.length
          · have hk1 : (k : Int) < (P.ls.length : Int) := by omega
            obtain ⟨e1, o1, s1, hs1, z1, y0, y1, hv1⟩ := IsLns.at (H4.out.gr gw) k hlt
            obtain ⟨e2, o2, s2, hs2, z2, u0, u1, hv2⟩ := IsLns.at (K4.out.gr gw) k hlt
            subst hs1 hs2
            generalize P.ls[k] = x at y0 y1 u0 u1 hv1 hv2
            obtain ⟨nm, es⟩ := x
            dsimp only at y0 y1 u0 u1 hv1 hv2
            have HV1 := Lib.hid hv1
            have HV2 := Lib.hid hv2
            obtain ⟨s1, t1, rfl, -⟩ := hv1
            obtain ⟨s2, t2, rfl, -⟩ := hv2
            rw [List.length_map] at HV1 HV2 y1 u1
            have HSI : Hid (∀ w', Gr wr w' → Calls Tryz.prog 44 #[.slice s1 es.length t1, .slice s2 es.length t2] w' fun e w'' => e = .returned (.bool true) ∧ Gr w' w'') := fun w' g => by
              have := sameInts_any es es s1 s2 t1 t2 w' (HV1.out.gr g) (HV2.out.gr g)
              rwa [decide_eq_true rfl] at this
            have n0 : (nm.toList != nm.toList) = false := by simp
            clear HV1 HV2
            go_wp2_with fail
            (have hcb := fun (i : GrW wr) (o : Nat) => GrW.cell zb i o; have hcc := fun (i : GrW wr) (o : Nat) => GrW.cell zc i o; have hc1 := fun (i : GrW wr) (o : Nat) => GrW.cell z1 i o; have hc2 := fun (i : GrW wr) (o : Nat) => GrW.cell z2 i o)
            (refine wp_region_gr (by kernel_rfl) (by kernel_rfl) ?_; (repeat (go_big_quiet_step ((first | (go_at_call 44; exact Calls.gr_of (HSI.out _ (GrW.gr _))))))); refine wpQuiet_nil ?_; intro wz hz; obtain ⟨iz, hz⟩ := hz; obtain ⟨wn, gn⟩ := iz; dsimp only at hz; obtain rfl := hz.symm)
            go_wp2_with fail
            go_roundw
            case rel => exact ⟨k + 1, by go_num, hlt, g.trans gn⟩
            case measure => simp [intOf]; omega
          have hk1 : ¬ (k : Int) < (P.ls.length : Int) := by omega
          go_wp2_with fail
          go_ret
          exact ⟨rfl, gw⟩
end Go.Proofs.YtknmngejjoohdaaGreatDoor
