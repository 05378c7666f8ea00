/- the reference's MayBody: what holds of a body that may be. -/
import Derived.Test.YtaanepadgoefhaaGreatDoorRows
import Derived.Test.YtaanepadgoefhaaGreatDoorRChn
import Derived.Deep.Cut
import Derived.Deep.DrawnRows
namespace Go.Proofs.YtaanepadgoefhaaGreatDoor
open Go.ChangeShapes Go.WideShapes Go.ChangeAt Go.RowKit Go.Maps
set_option linter.unusedVariables false
set_option linter.unusedSimpArgs false
attribute [local go_sem ↓] Go.wp_at_zero Go.wp_at_succ
/-- what the other proofs need of a body that may be -/
def BdyOk (B : Bdy) : Prop := ((B.mode = 1 ∨ B.mode = 2) → B.trail ≠ [] ∧ 0 ≤ B.left) ∧ (¬ (B.mode = 1 ∨ B.mode = 2) → B.mode = 4 ∨ B.trail = [])
theorem still_ways (l o v : Int) : (l = 0 ∧ o = 0 ∧ v = 0) ∨ (l == 0) = false ∨ ((l == 0) = true ∧ (o == 0) = false) ∨ ((l == 0) = true ∧ (o == 0) = true ∧ (v == 0) = false) := by
  by_cases h1 : l = 0
  · by_cases h2 : o = 0
    · by_cases h3 : v = 0
      · exact .inl ⟨h1, h2, h3⟩
      · exact .inr (.inr (.inr ⟨beqT h1, beqT h2, beqF h3⟩))
    · exact .inr (.inr (.inl ⟨beqT h1, beqF h2⟩))
  · exact .inr (.inl (beqF h1))
theorem prtR_form (o : Option Prt) : ∃ ye yx ok, prtR o = .tuple #[.agg #[.int .i64 ye, .int .i64 yx], .bool ok] := by
  cases o with
  | none => exact ⟨0, 0, false, rfl⟩
  | some y => exact ⟨y.e, y.x, true, rfl⟩
set_option maxRecDepth 100000 in
set_option maxHeartbeats 8000000 in
theorem mayBody_a (pv bv : Value) (P : Pln) (B : Bdy) (len : Int) (w : World) (hP : IsPln w pv P) (hf : chk P = 0) (hB : IsBdy w bv B) (hn : B.trail.length ≤ 5000) (hmode : ¬ (B.mode = 2 ∨ B.mode = 4)) :
    Calls Tryz.prog 14 #[pv, .int .i64 len, bv] w (RetB (BdyOk B) w) := by
  have HPI := Lib.hid hP
  obtain ⟨a1, c1, a2, c2, a3, c3, a4, c4, rfl, -⟩ := hP
  obtain ⟨ta, tc, rfl, ht⟩ := hB
  have HT := Lib.hid ht
  have htm := IsRow.len ht
  unfold maxLen at htm
  obtain ⟨mode, T, left, over, v⟩ := B
  unfold bdyV
  dsimp only at *
  have hW : Gr w ((w.alloc (.cells #[.slice a1 P.es.length c1, .slice a2 P.js.length c2, .slice a3 P.ss.length c3, .slice a4 P.ls.length c4, .int .i64 P.top, .int .i64 P.brake, .int .i64 P.margin, .int .i64 P.throw, .bool P.hard] 27)).alloc (.cells #[.int .i64 mode, .slice ta T.length tc, .int .i64 left, .int .i64 over, .int .i64 v] 33)) := ((Gr.refl _).alloc _).alloc _
  have HBX : Hid (∀ w', Gr ((w.alloc (.cells #[.slice a1 P.es.length c1, .slice a2 P.js.length c2, .slice a3 P.ss.length c3, .slice a4 P.ls.length c4, .int .i64 P.top, .int .i64 P.brake, .int .i64 P.margin, .int .i64 P.throw, .bool P.hard] 27)).alloc (.cells #[.int .i64 mode, .slice ta T.length tc, .int .i64 left, .int .i64 over, .int .i64 v] 33)) w' → Gr w w' ∧ PBox w' w.heap.size P (.slice a1 P.es.length c1) (.slice a2 P.js.length c2) (.slice a3 P.ss.length c3) (.slice a4 P.ls.length c4) ∧ w.heap.size < w'.heap.size ∧ w'.cell? ⟨w.heap.size, 0, none⟩ = some (.slice a1 P.es.length c1) ∧ w'.cell? ⟨w.heap.size, 1, none⟩ = some (.slice a2 P.js.length c2) ∧ w'.cell? ⟨w.heap.size, 2, none⟩ = some (.slice a3 P.ss.length c3) ∧ w'.cell? ⟨w.heap.size, 3, none⟩ = some (.slice a4 P.ls.length c4) ∧ w'.cell? ⟨w.heap.size, 4, none⟩ = some (.int .i64 P.top) ∧ w'.cell? ⟨w.heap.size, 5, none⟩ = some (.int .i64 P.brake) ∧ w'.cell? ⟨w.heap.size, 6, none⟩ = some (.int .i64 P.margin) ∧ w'.cell? ⟨w.heap.size, 7, none⟩ = some (.int .i64 P.throw) ∧ w'.cell? ⟨w.heap.size, 8, none⟩ = some (.bool P.hard) ∧ w.heap.size + 1 < w'.heap.size ∧ w'.cell? ⟨w.heap.size + 1, 0, none⟩ = some (.int .i64 mode) ∧ w'.cell? ⟨w.heap.size + 1, 1, none⟩ = some (.slice ta T.length tc) ∧ w'.cell? ⟨w.heap.size + 1, 2, none⟩ = some (.int .i64 left) ∧ w'.cell? ⟨w.heap.size + 1, 3, none⟩ = some (.int .i64 over) ∧ w'.cell? ⟨w.heap.size + 1, 4, none⟩ = some (.int .i64 v)) := by
    intro w' g
    have hb := (PBox.new w P (.slice a1 P.es.length c1) (.slice a2 P.js.length c2) (.slice a3 P.ss.length c3) (.slice a4 P.ls.length c4)).gr (((Gr.refl _).alloc _).trans g)
    obtain ⟨z, q0, q1, q2, q3, q4, q5, q6, q7, q8⟩ := id hb
    have hz : w.heap.size + 1 < (((w.alloc (.cells #[.slice a1 P.es.length c1, .slice a2 P.js.length c2, .slice a3 P.ss.length c3, .slice a4 P.ls.length c4, .int .i64 P.top, .int .i64 P.brake, .int .i64 P.margin, .int .i64 P.throw, .bool P.hard] 27)).alloc (.cells #[.int .i64 mode, .slice ta T.length tc, .int .i64 left, .int .i64 over, .int .i64 v] 33))).heap.size := by simp
    exact ⟨hW.trans g, hb, z, q0, q1, q2, q3, q4, q5, q6, q7, q8, Nat.lt_of_lt_of_le hz g.size, (g.cell _ _ hz).trans (by go_simp), (g.cell _ _ hz).trans (by go_simp), (g.cell _ _ hz).trans (by go_simp), (g.cell _ _ hz).trans (by go_simp), (g.cell _ _ hz).trans (by go_simp)⟩
  have HKD := Lib.hid (fun (m : Int) (w' : World) (g : Gr w w') => kindE_any _ P m w' (HPI.out.gr g))
  have HLN := Lib.hid (fun (m : Int) (w' : World) (g : Gr w w') => length_any _ P m w' (HPI.out.gr g))
  have HLB : Hid (∀ m, 0 ≤ lenP P m ∧ lenP P m ≤ 4000) := fun m => by rw [← eleAt_len]; have := fine_len hf m; omega
  have HNX := Lib.hid (fun (x : Prt) (w' : World) (g : Gr w w') => refNextP_any _ P x w' (HPI.out.gr g))
  have HCN := Lib.hid (fun (w' : World) (g : Gr w w') => chained_any _ _ P T w' (HPI.out.gr g) (HT.out.gr g) hn)
  unfold plnV at HKD HLN HNX HCN ⊢
  clear HPI ht
  by_cases l0 : len < 1
  · go_enter Tryz.func14, Tryz.ntmps14
    (go_wp2_with fail; go_ret; exact RetB.no (hW))
  by_cases l1 : 4000 < len
  · go_enter Tryz.func14, Tryz.ntmps14
    (go_wp2_with fail; go_ret; exact RetB.no (hW))
  have sw := still_ways left over v
  by_cases m1 : mode = 1
  · subst m1
    rcases sw with ⟨rfl, rfl, rfl⟩ | h1 | ⟨h1, h2⟩ | ⟨h1, h2, h3⟩
    · by_cases t1 : T.length = 1
      · have tl : ((T.length : Int) == 1) = true := beqT (by omega)
        have i0 : (0 : Int) < (T.length : Int) := by omega
        obtain ⟨bb, o, hs, z, y0, y1⟩ := HT.out.at 0 (by omega)
        subst hs
        have hne : T ≠ [] := fun h => by rw [h] at t1; cases t1
        generalize T[0] = q at y0 y1
        clear t1
        obtain ⟨qe, qx⟩ := q
        rw [Nat.zero_mul, Nat.add_zero] at y0 y1
        dsimp only at y0 y1
        have Y0 := Lib.hid y0
        have Y1 := Lib.hid y1
        clear y0 y1
        have HKQ := Lib.hid (HKD.out qe)
        generalize kindP P qe = K at HKQ
        go_enter Tryz.func14, Tryz.ntmps14
        go_upto_region 7 with (fail)
        have zq := Nat.lt_of_lt_of_le z hW.size
        have y0 := (hW.cell _ _ z).trans Y0.out
        have y1 := (hW.cell _ _ z).trans Y1.out
        obtain ⟨-, -, zb2, u0, u1, u2, u3, u4, u5, u6, u7, u8, zc2, s0, s1, s2, s3, s4⟩ := HBX.out _ (Gr.refl _)
        generalize ((w.alloc (.cells #[.slice a1 P.es.length c1, .slice a2 P.js.length c2, .slice a3 P.ss.length c3, .slice a4 P.ls.length c4, .int .i64 P.top, .int .i64 P.brake, .int .i64 P.margin, .int .i64 P.throw, .bool P.hard] 27)).alloc (.cells #[.int .i64 1, .slice (some ⟨bb, o, none⟩) T.length tc, .int .i64 0, .int .i64 0, .int .i64 0] 33)) = wr at *
        have hcb := fun (i : GrW wr) (o : Nat) => GrW.cell zb2 i o
        have hcc := fun (i : GrW wr) (o : Nat) => GrW.cell zc2 i o
        have hcq := fun (i : GrW wr) (o : Nat) => GrW.cell zq i o
        by_cases x0 : qx = 0
        · have tx : (qx == 0) = true := beqT x0
          (refine wp_region_gr (by kernel_rfl) (by kernel_rfl) ?_; (repeat (go_big_quiet_step ((go_at_call 41; exact Calls.gr_of (HKQ.out _ (hW.trans (GrW.gr _))))))); refine wpQuiet_nil ?_; intro wz hz; obtain ⟨iz, hz⟩ := hz; obtain ⟨wn, gn⟩ := iz; dsimp only at hz; obtain rfl := hz.symm)
          go_wp2_with fail
          go_ret
          exact RetB.any (fun _ => ⟨fun _ => ⟨hne, Int.le_refl _⟩, fun h => absurd (.inl rfl) h⟩) (hW.trans gn)
        · have tx : (qx == 0) = false := beqF x0
          (refine wp_region_gr (by kernel_rfl) (by kernel_rfl) ?_; (repeat (go_big_quiet_step (fail))); refine wpQuiet_nil ?_; intro wz hz; obtain ⟨iz, hz⟩ := hz; obtain ⟨wn, gn⟩ := iz; dsimp only at hz; obtain rfl := hz.symm)
          go_wp2_with fail
          go_ret
          exact RetB.any (fun _ => ⟨fun _ => ⟨hne, Int.le_refl _⟩, fun h => absurd (.inl rfl) h⟩) (hW.trans gn)
      · have tl : ((T.length : Int) == 1) = false := beqF (by omega)
        go_enter Tryz.func14, Tryz.ntmps14
        go_upto_region 7 with (fail)
        obtain ⟨-, -, zb2, u0, u1, u2, u3, u4, u5, u6, u7, u8, zc2, s0, s1, s2, s3, s4⟩ := HBX.out _ (Gr.refl _)
        generalize ((w.alloc (.cells #[.slice a1 P.es.length c1, .slice a2 P.js.length c2, .slice a3 P.ss.length c3, .slice a4 P.ls.length c4, .int .i64 P.top, .int .i64 P.brake, .int .i64 P.margin, .int .i64 P.throw, .bool P.hard] 27)).alloc (.cells #[.int .i64 1, .slice ta T.length tc, .int .i64 0, .int .i64 0, .int .i64 0] 33)) = wr at *
        have hcc := fun (i : GrW wr) (o : Nat) => GrW.cell zc2 i o
        (refine wp_region_gr (by kernel_rfl) (by kernel_rfl) ?_; (repeat (go_big_quiet_step (fail))); refine wpQuiet_nil ?_; intro wz hz; obtain ⟨iz, hz⟩ := hz; obtain ⟨wn, gn⟩ := iz; dsimp only at hz; obtain rfl := hz.symm)
        go_wp2_with fail
        go_ret
        exact RetB.no (hW.trans gn)
    all_goals
      go_enter Tryz.func14, Tryz.ntmps14
      go_upto_region 7 with (fail)
      generalize ((w.alloc (.cells #[.slice a1 P.es.length c1, .slice a2 P.js.length c2, .slice a3 P.ss.length c3, .slice a4 P.ls.length c4, .int .i64 P.top, .int .i64 P.brake, .int .i64 P.margin, .int .i64 P.throw, .bool P.hard] 27)).alloc (.cells #[.int .i64 1, .slice ta T.length tc, .int .i64 left, .int .i64 over, .int .i64 v] 33)) = wr at *
      (refine wp_region_gr (by kernel_rfl) (by kernel_rfl) ?_; (repeat (go_big_quiet_step (fail))); refine wpQuiet_nil ?_; intro wz hz; obtain ⟨iz, hz⟩ := hz; obtain ⟨wn, gn⟩ := iz; dsimp only at hz; obtain rfl := hz.symm)
      go_wp2_with fail
      go_ret
      exact RetB.no (hW.trans gn)
  have n1 : (mode == 1) = false := beqF m1
  by_cases m3 : mode = 3
  · subst m3
    clear n1
    rcases sw with ⟨rfl, rfl, rfl⟩ | h1 | ⟨h1, h2⟩ | ⟨h1, h2, h3⟩
    · go_enter Tryz.func14, Tryz.ntmps14
      go_wp2_with fail
      go_ret
      refine RetB.any (fun h => ⟨fun h' => by simp at h', fun _ => .inr ?_⟩) hW
      have : T.length = 0 := by simpa using h
      exact List.length_eq_zero_iff.1 this
    all_goals
      go_enter Tryz.func14, Tryz.ntmps14
      (go_wp2_with fail; go_ret; exact RetB.no (hW))
  have n3 : (mode == 3) = false := beqF m3
  have n2 : (mode == 2) = false := beqF (fun h => hmode (.inl h))
  have n4 : (mode == 4) = false := beqF (fun h => hmode (.inr h))
  clear m1 m3 hmode
  rcases sw with ⟨rfl, rfl, rfl⟩ | h1 | ⟨h1, h2⟩ | ⟨h1, h2, h3⟩
  all_goals
    go_enter Tryz.func14, Tryz.ntmps14
    (go_wp2_with fail; go_ret; exact RetB.no (hW))
end Go.Proofs.YtaanepadgoefhaaGreatDoor
