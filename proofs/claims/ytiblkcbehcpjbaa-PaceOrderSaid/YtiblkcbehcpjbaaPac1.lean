/- Pace: held, may, Next and the reference's. -/
import Derived.Test.YtiblkcbehcpjbaaRows
import Derived.Test.YtiblkcbehcpjbaaPacP
import Derived.Deep.RegionWith
namespace Go.Proofs.Ytiblkcbehcpjbaa
open Go.ChangeShapes Go.WideShapes Go.ChangeAt Go.RowKit
set_option linter.unusedVariables false
set_option linter.unusedSimpArgs false

theorem held_any (n lo hi : Int) (w : World) :
    Calls Try.prog 46 #[.int .i64 n, .int .i64 lo, .int .i64 hi] w fun e w' => e = .returned (.int .i64 (hld n lo hi)) ∧ w' = w := by
  go_enter Try.func46, Try.ntmps46
  go_wp2
  all_goals (rename_i g1; go_ret; refine ⟨ret_int ?_, rfl⟩; unfold hld; split at g1 <;> omega)

theorem hold_any (n lo hi : Int) (hlh : lo ≤ hi) (w : World) :
    Calls Try.prog 47 #[.int .i64 n, .int .i64 lo, .int .i64 hi] w fun e w' => e = .returned (.int .i64 (hld n lo hi)) ∧ w' = w := by
  go_enter Try.func47, Try.ntmps47
  go_wp2
  all_goals (rename_i g1; go_ret; refine ⟨ret_int ?_, rfl⟩; unfold hld; split at g1 <;> omega)

theorem may_yes (nm : ByteArray) (l t a b : Int) (ht : 1 ≤ t ∧ t ≤ 60) (ha : 1 ≤ a ∧ a ≤ 10) (hb : 1 ≤ b ∧ b ≤ 10) (w : World) :
    Calls Try.prog 45 #[.agg #[.string nm, .int .i64 l, .int .i64 t, .int .i64 a, .int .i64 b]] w fun e w' => e = .returned (.bool true) ∧ Gr w w' := by
  have e1 : hld t 1 60 = t := hld_id _ _ _ ht.1 ht.2
  have e2 : hld a 1 10 = a := hld_id _ _ _ ha.1 ha.2
  have e3 : hld b 1 10 = b := hld_id _ _ _ hb.1 hb.2
  go_enter Try.func45, Try.ntmps45
  go_wp2_with fail
  go_quiet ((go_at_call 46; exact Calls.quiet_of_same (held_any _ _ _ _)))
  go_wp2_with fail
  go_ret
  exact ⟨rfl, ((Gr.refl _).alloc _).drewN _⟩

theorem gcell {a w : World} (h : Gr a w) : ∀ b o, b < a.heap.size → w.cell? ⟨b, o, none⟩ = a.cell? ⟨b, o, none⟩ := fun b o hb => Gr.cell h b o hb

theorem next_any (nm : ByteArray) (l t a b v want : Int) (f : Bool) (ht : 1 ≤ t ∧ t ≤ 60) (ha : 1 ≤ a ∧ a ≤ 10) (hb : 1 ≤ b ∧ b ≤ 10) (w : World) :
    Calls Try.prog 27 #[.agg #[.string nm, .int .i64 l, .int .i64 t, .int .i64 a, .int .i64 b], .int .i64 v, .int .i64 want, .bool f] w fun e w' => e = .returned (.int .i64 (nxt t a b v want f)) ∧ Gr w w' := by
  obtain ⟨ht1, ht2⟩ := ht
  obtain ⟨ha1, ha2⟩ := ha
  obtain ⟨hb1, hb2⟩ := hb
  have q1 := hld_bd v 0 t (by omega)
  obtain ⟨q11, q12⟩ := q1
  have q2 := hld_bd want (-b) a (by omega)
  obtain ⟨q21, q22⟩ := q2
  have c1 : IntKind.i64.wrap (hld v 0 t + hld want (-b) a) = hld v 0 t + hld want (-b) a := IntWalk.i64_in _ (by omega)
  have c2 : IntKind.i64.wrap (hld v 0 t + -b) = hld v 0 t + -b := IntWalk.i64_in _ (by omega)
  cases f with
  | false =>
    go_enter Try.func27, Try.ntmps27
    go_wp2_with fail
    refine (may_yes nm l t a b ⟨ht1, ht2⟩ ⟨ha1, ha2⟩ ⟨hb1, hb2⟩ _).mono ?_
    rintro e w1 ⟨rfl, h1⟩
    have hc1 := gcell h1
    go_wp2_with fail
    refine (held_any _ _ _ _).mono ?_
    rintro e w2 ⟨rfl, rfl⟩
    go_wp2_with fail
    go_quiet ((go_at_call 46; exact Calls.quiet_of_same (held_any _ _ _ _)))
    go_wp2_with fail
    go_ret
    exact ⟨ret_int rfl, (((Gr.refl _).alloc _).trans h1).drewN _⟩
  | true =>
    go_enter Try.func27, Try.ntmps27
    go_wp2_with fail
    refine (may_yes nm l t a b ⟨ht1, ht2⟩ ⟨ha1, ha2⟩ ⟨hb1, hb2⟩ _).mono ?_
    rintro e w1 ⟨rfl, h1⟩
    have hc1 := gcell h1
    go_wp2_with fail
    refine (held_any _ _ _ _).mono ?_
    rintro e w2 ⟨rfl, rfl⟩
    go_wp2_with fail
    go_quiet ((go_at_call 46; exact Calls.quiet_of_same (held_any _ _ _ _)))
    go_wp2_with fail
    go_ret
    exact ⟨ret_int rfl, (((Gr.refl _).alloc _).trans h1).drewN _⟩

theorem refNext_any (nm : ByteArray) (l t a b v want : Int) (f : Bool) (ht : 1 ≤ t ∧ t ≤ 60) (ha : 1 ≤ a ∧ a ≤ 10) (hb : 1 ≤ b ∧ b ≤ 10) (w : World) :
    Calls Try.prog 28 #[.agg #[.string nm, .int .i64 l, .int .i64 t, .int .i64 a, .int .i64 b], .int .i64 v, .int .i64 want, .bool f] w fun e w' => e = .returned (.int .i64 (nxt t a b v want f)) ∧ Gr w w' := by
  obtain ⟨ht1, ht2⟩ := ht
  obtain ⟨ha1, ha2⟩ := ha
  obtain ⟨hb1, hb2⟩ := hb
  have q1 := hld_bd v 0 t (by omega)
  obtain ⟨q11, q12⟩ := q1
  have q2 := hld_bd want (-b) a (by omega)
  obtain ⟨q21, q22⟩ := q2
  have c1 : IntKind.i64.wrap (hld v 0 t + hld want (-b) a) = hld v 0 t + hld want (-b) a := IntWalk.i64_in _ (by omega)
  have c2 : IntKind.i64.wrap (hld v 0 t + -b) = hld v 0 t + -b := IntWalk.i64_in _ (by omega)
  have o1 : (0 : Int) ≤ t := by omega
  have o2 : -b ≤ a := by omega
  cases f with
  | false =>
    go_enter Try.func28, Try.ntmps28
    go_wp2_with fail
    refine (hold_any _ _ _ o2 _).mono ?_
    rintro e w2 ⟨rfl, rfl⟩
    go_wp2_with fail
    go_quiet ((go_at_call 47; exact Calls.quiet_of_same (hold_any _ _ _ o1 _)))
    go_wp2_with fail
    go_ret
    exact ⟨ret_int rfl, ((Gr.refl _).alloc _).drewN _⟩
  | true =>
    go_enter Try.func28, Try.ntmps28
    go_wp2_with fail
    refine (hold_any _ _ _ o2 _).mono ?_
    rintro e w2 ⟨rfl, rfl⟩
    go_wp2_with fail
    go_quiet ((go_at_call 47; exact Calls.quiet_of_same (hold_any _ _ _ o1 _)))
    go_wp2_with fail
    go_ret
    exact ⟨ret_int rfl, ((Gr.refl _).alloc _).drewN _⟩
end Go.Proofs.Ytiblkcbehcpjbaa
