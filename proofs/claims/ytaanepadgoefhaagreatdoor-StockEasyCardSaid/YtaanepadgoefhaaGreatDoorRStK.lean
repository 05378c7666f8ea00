/- The stock group's known. -/
import Derived.Test.YtaanepadgoefhaaGreatDoorRows
import Derived.Test.YtaanepadgoefhaaGreatDoorRStp
import Derived.Test.YtaanepadgoefhaaGreatDoorRStN
import Derived.Test.YtaanepadgoefhaaGreatDoorRStF
import Derived.Test.YtaanepadgoefhaaGreatDoorB10
import Derived.Test.YtaanepadgoefhaaGreatDoorRSml
namespace Go.Proofs.YtaanepadgoefhaaGreatDoor
open Go.ChangeShapes Go.WideShapes Go.ChangeAt Go.RowKit Go.Maps
set_option linter.unusedVariables false
set_option linter.unusedSimpArgs false
theorem stk_eqg : Tryz.prog.eqGuardType Tryz.prog.depth 30 = false := by kernel_rfl
theorem stk_stood : Tryz.prog.stoodInHeld 30 = false := by kernel_rfl
theorem stk_fields : Tryz.prog.underlying 30 = some (.struct (Tryz.prog.fieldsOf 30)) := by kernel_rfl
set_option maxRecDepth 100000 in
theorem stk_same (nm : ByteArray) (l t a b : Int) (w : World) : (binOp .eql 30 (.agg #[.string nm, .int .i64 l, .int .i64 t, .int .i64 a, .int .i64 b]) (.agg #[.string nm, .int .i64 l, .int .i64 t, .int .i64 a, .int .i64 b])).run Tryz.prog w = .ok (.bool true) w := by
  have hu := Tryz.underlying30
  have hf := stk_fields
  rw [hu] at hf
  simp only [Option.some.injEq, TypeDesc.struct.injEq] at hf
  rw [run_eql_struct, run_equalIn_agg w 9999 _ _ _ stk_fields stk_stood, ← hf]
  simp [Op.eqFields, go_sem, Tryz.underlying3, Tryz.underlying9]
set_option maxRecDepth 100000 in
theorem stk_nsame (nm : ByteArray) (l t a b : Int) (w : World) : (binOp .neq 30 (.agg #[.string nm, .int .i64 l, .int .i64 t, .int .i64 a, .int .i64 b]) (.agg #[.string nm, .int .i64 l, .int .i64 t, .int .i64 a, .int .i64 b])).run Tryz.prog w = .ok (.bool false) w := by
  have hu := Tryz.underlying30
  have hf := stk_fields
  rw [hu] at hf
  simp only [Option.some.injEq, TypeDesc.struct.injEq] at hf
  rw [run_neq_struct, run_equalIn_agg w 9999 _ _ _ stk_fields stk_stood, ← hf]
  simp [Op.eqFields, go_sem, Tryz.underlying3, Tryz.underlying9]
theorem stk_guard (op : BinOp) (x y : Operand) (xs ys : Array Value) (w : World) : (eqGuard op 30 x y (.agg xs) (.agg ys)).run Tryz.prog w = .ok () w := run_eqGuard_agg w op _ x y xs ys stk_eqg
theorem one21_any (w : World) :
    Calls Tryz.prog 57 #[] w fun e w' => e = .returned (.agg #[.string ⟨#[120]⟩, .int .i64 5, .int .i64 10, .int .i64 2, .int .i64 5]) ∧ Gr w w' := by
  go_enter Tryz.func57, Tryz.ntmps57
  go_wp2
  refine bodyPost_ret (v := .agg #[.string ⟨#[120]⟩, .int .i64 5, .int .i64 10, .int .i64 2, .int .i64 5]) (by simp [results, Tryz.results57, go_sem]) rfl ⟨rfl, ?_⟩
  exact (Gr.refl _).alloc _
def oneS : Stk := ⟨⟨#[120]⟩, 5, 10, 2, 5⟩
theorem oneS_plain : plainE [oneS] = 0 := by decide
theorem oneS_print : printS [oneS] = ⟨#[115, 116, 111, 99, 107, 32, 120, 32, 53, 32, 49, 48, 32, 50, 32, 53, 10]⟩ := by kernel_rfl
theorem oneS_parse : parS ⟨#[115, 116, 111, 99, 107, 32, 120, 32, 53, 32, 49, 48, 32, 50, 32, 53, 10]⟩ = ([oneS], 1, 0) := by
  rw [← oneS_print]
  exact parS_print oneS_plain
theorem stks_one (w : World) (s : Stk) : IsStks (w.alloc (.cells #[.string s.nm, .int .i64 s.l, .int .i64 s.t, .int .i64 s.a, .int .i64 s.b] 30)) (.slice (some ⟨w.heap.size, 0, none⟩) 1 1) [s] := by
  refine ⟨⟨_, 1, rfl, by simp; unfold maxLen; omega, .inr ⟨w.heap.size, 0, rfl, by simp, fun i j hi hj => ?_⟩⟩, fun a n c e => by cases e; omega⟩
  have hi0 : i = 0 := by have : i < 1 := hi; omega
  subst hi0
  rw [World.cell?_alloc_mark]
  match j, hj with
  | 0, _ => rfl
  | 1, _ => rfl
  | 2, _ => rfl
  | 3, _ => rfl
  | 4, _ => rfl
set_option maxRecDepth 100000 in
set_option maxHeartbeats 2000000 in
theorem known21_any (w : World) (ht : Tabs w) : Calls Tryz.prog 21 #[] w fun e w' => e = .returned (.bool true) ∧ Gr w w' := by
  have HPR : Hid (∀ v w', Gr w w' → IsStks w' v [oneS] → Calls Tryz.prog 24 #[v] w' fun e w'' => e = .returned (.tuple #[.string ⟨#[115, 116, 111, 99, 107, 32, 120, 32, 53, 32, 49, 48, 32, 50, 32, 53, 10]⟩, .int .i64 0]) ∧ Gr w' w'') := fun v w' g hv => by
    have := stPrint_any v [oneS] w' (ht.gr g) hv (fun s hs => by
      have h1 : s = oneS := by simpa using hs
      subst h1
      decide)
    rw [if_pos oneS_plain, oneS_plain, oneS_print] at this
    exact this
  have HPA : Hid (∀ w', Gr w w' → Calls Tryz.prog 26 #[.string ⟨#[115, 116, 111, 99, 107, 32, 120, 32, 53, 32, 49, 48, 32, 50, 32, 53, 10]⟩] w' fun e w'' => ∃ v, e = .returned (.tuple #[v, .int .i64 1, .int .i64 0]) ∧ IsStks w'' v [oneS] ∧ Gr w' w'') := fun w' g => by
    have := stParse_any ⟨#[115, 116, 111, 99, 107, 32, 120, 32, 53, 32, 49, 48, 32, 50, 32, 53, 10]⟩ (by decide) w' (shp_gr ht.sh g)
    rw [oneS_parse] at this
    exact this
  go_enter Tryz.func21, Tryz.ntmps21
  go_wp2_with (first | (go_at_call 57; (with_reducible refine (one21_any _).mono ?_); rintro e w1 ⟨rfl, g1⟩; have G1 := g1.alloc (.cells #[.string ⟨#[120]⟩, .int .i64 5, .int .i64 10, .int .i64 2, .int .i64 5] 30); have HS1 : Hid (IsStks (w1.alloc (.cells #[.string ⟨#[120]⟩, .int .i64 5, .int .i64 10, .int .i64 2, .int .i64 5] 30)) (.slice (some ⟨w1.heap.size, 0, none⟩) 1 1) [oneS]) := stks_one w1 oneS) | (go_at_call 24; (with_reducible refine (HPR.out _ _ G1 HS1.out).mono ?_); rintro e w2 ⟨rfl, g2⟩; have G2 := G1.trans g2) | (go_at_call 26; (with_reducible refine (HPA.out _ G2).mono ?_); rintro e w3 ⟨v3, rfl, hv3, g3⟩; have G3 := G2.trans g3; have HV3 := Lib.hid hv3; clear hv3) | (go_at_call 35; (with_reducible refine (small_any _).mono ?_); rintro e w4 ⟨v4, rfl, hP, g4⟩; have G4 := G3.trans g4; have HP := Lib.hid hP; clear hP) | (go_at_call 16; (with_reducible refine (made_fine _ smallP _ HP.out small_ok small_fine).mono ?_); rintro e w5 ⟨nb, rfl, hnet, g5⟩; have G5 := G4.trans g5; have HN := Lib.hid hnet; clear hnet) | fail)
  have HFI : Hid (∀ (m : Int) (w' : World), Gr w5 w' → Calls Tryz.prog 22 #[.pointer (some ⟨nb, 0, none⟩), .agg #[.string ⟨#[120]⟩, .int .i64 5, .int .i64 10, .int .i64 2, .int .i64 5], .int .i64 m] w' fun e w'' => e = .returned (.bool (fitsS (eleAt smallP m).k (eleAt smallP m).l 5 15)) ∧ Gr w' w'') := fun m w' g =>
    stFits_any nb smallP ⟨#[120]⟩ 5 10 2 5 m w' (HN.out.gr g) (by decide) (fun l hl => by cases hl) (by decide) (by decide)
  have F1 : Hid (∀ w', Gr w5 w' → Calls Tryz.prog 22 #[.pointer (some ⟨nb, 0, none⟩), .agg #[.string ⟨#[120]⟩, .int .i64 5, .int .i64 10, .int .i64 2, .int .i64 5], .int .i64 1] w' fun e w'' => e = .returned (.bool true) ∧ Gr w' w'') := fun w' g => HFI.out 1 w' g
  have F2 : Hid (∀ w', Gr w5 w' → Calls Tryz.prog 22 #[.pointer (some ⟨nb, 0, none⟩), .agg #[.string ⟨#[120]⟩, .int .i64 5, .int .i64 10, .int .i64 2, .int .i64 5], .int .i64 2] w' fun e w'' => e = .returned (.bool false) ∧ Gr w' w'') := fun w' g => HFI.out 2 w' g
  have HM : Hid (∀ w', Calls Tryz.prog 31 #[.agg #[.string ⟨#[120]⟩, .int .i64 5, .int .i64 10, .int .i64 2, .int .i64 5]] w' fun e w'' => e = .returned (.bool true) ∧ Gr w' w'') := fun w' => stMay_any ⟨#[120]⟩ 5 10 2 5 (by decide) w'
  obtain ⟨a3, c3, rfl, -, -⟩ := HV3.out.form
  obtain ⟨b3, o3, hs3, z3, y0, y1, y2, y3, y4⟩ := (HV3.out.gr (g4.trans g5)).at 0 (by simp)
  subst hs3
  rw [Nat.zero_mul, Nat.add_zero] at y0 y1 y2 y3 y4
  replace y0 : w5.cell? ⟨b3, o3, none⟩ = some (.string ⟨#[120]⟩) := y0
  replace y1 : w5.cell? ⟨b3, o3 + 1, none⟩ = some (.int .i64 5) := y1
  replace y2 : w5.cell? ⟨b3, o3 + 2, none⟩ = some (.int .i64 10) := y2
  replace y3 : w5.cell? ⟨b3, o3 + 3, none⟩ = some (.int .i64 2) := y3
  replace y4 : w5.cell? ⟨b3, o3 + 4, none⟩ = some (.int .i64 5) := y4
  have hc3 := fun (i : GrW w5) (o : Nat) => GrW.cell z3 i o
  have E1 := stk_same ⟨#[120]⟩ 5 10 2 5
  have GG := stk_guard .eql
  have i0 : (0 : Int) < 1 := by decide
  clear HFI HN HP HS1 HV3 HPR HPA
  (refine wp_region_gr (by kernel_rfl) (by kernel_rfl) ?_; (repeat (go_big_quiet_step ((first | (go_at_call 57; exact Calls.gr_of (one21_any _)) | (go_at_call 31; exact Calls.gr_of (HM.out _)) | (go_at_call 22; first | (with_reducible exact Calls.gr_of (F1.out _ (GrW.gr _))) | (with_reducible exact Calls.gr_of (F2.out _ (GrW.gr _)))))))); refine wpQuiet_nil ?_; intro wz hz; obtain ⟨iz, hz⟩ := hz; obtain ⟨wn, gn⟩ := iz; dsimp only at hz; obtain rfl := hz.symm)
  go_wp2_with fail
  go_ret
  exact ⟨rfl, G5.trans gn⟩
end Go.Proofs.YtaanepadgoefhaaGreatDoor
