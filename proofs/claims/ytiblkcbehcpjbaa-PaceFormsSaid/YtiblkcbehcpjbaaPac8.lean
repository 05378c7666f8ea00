/- Pace: the laws' walks: forms. -/
import Derived.Test.YtiblkcbehcpjbaaPac7
import Derived.Test.YtiblkcbehcpjbaaOpn1
import Derived.Deep.RegionHeld3
namespace Go.Proofs.Ytiblkcbehcpjbaa
open Go.ChangeShapes Go.WideShapes Go.ChangeAt Go.RowKit
set_option linter.unusedVariables false
set_option linter.unusedSimpArgs false

set_option maxHeartbeats 8000000 in
theorem paceForms_core (nm : ByteArray) (l t a b v want : Int) (f : Bool) (room ticks metres : Int) (hs : nm.size ≤ maxLen) (w : World) :
    Calls Try.prog 8 #[.agg #[.string nm, .int .i64 l, .int .i64 t, .int .i64 a, .int .i64 b], .int .i64 v, .int .i64 want, .bool f, .int .i64 room, .int .i64 ticks, .int .i64 metres] w fun e w' => e = .returned (.bool true) ∧ Gr w w' := by
  have hbox := Box.new w nm l t a b 35
  have hg0 := (Gr.refl w).alloc (.cells #[.string nm, .int .i64 l, .int .i64 t, .int .i64 a, .int .i64 b] 35)
  cases hm : mayB nm l t a b with
  | false =>
    have HM := Lib.hid hm
    clear hm
    go_enter Try.func8, Try.ntmps8
    go_wp2_with fail
    refine (known22_any _).mono ?_
    rintro e w1 ⟨rfl, h1⟩
    have hb1 := hbox.gr h1
    have hg1 := hg0.trans h1
    obtain ⟨i0, c0, c1, c2, c3, c4⟩ := hb1
    go_wp2_with fail
    refine (may_any _ _ _ _ _ hs _).mono ?_
    rintro e w2 ⟨rfl, h2⟩
    rw [HM.out]
    go_wp2_with fail
    go_ret
    exact ⟨rfl, hg1.trans h2⟩
  | true =>
    have HM := Lib.hid hm
    obtain ⟨-, -, ht, ha, hb⟩ := mayB_parts hm
    clear hm
    go_enter Try.func8, Try.ntmps8
    go_wp2_with fail
    refine (known22_any _).mono ?_
    rintro e w1 ⟨rfl, h1⟩
    have hb1 := hbox.gr h1
    have hg1 := hg0.trans h1
    clear hbox hg0 h1
    obtain ⟨i0, c0, c1, c2, c3, c4⟩ := hb1
    go_wp2_with fail
    refine (may_any _ _ _ _ _ hs _).mono ?_
    rintro e w2 ⟨rfl, h2⟩
    rw [HM.out]
    have hb2 := Box.gr ⟨i0, c0, c1, c2, c3, c4⟩ h2
    have hg2 := hg1.trans h2
    clear i0 c0 c1 c2 c3 c4 hg1 h2
    obtain ⟨i0, c0, c1, c2, c3, c4⟩ := hb2
    go_wp2_with fail
    go_region_held3 (fun w' => Gr w w' ∧ w.heap.size < w'.heap.size ∧ w'.cell? ⟨w.heap.size, 0, none⟩ = some (.string nm) ∧ w'.cell? ⟨w.heap.size, 1, none⟩ = some (.int .i64 l) ∧ w'.cell? ⟨w.heap.size, 2, none⟩ = some (.int .i64 t) ∧ w'.cell? ⟨w.heap.size, 3, none⟩ = some (.int .i64 a) ∧ w'.cell? ⟨w.heap.size, 4, none⟩ = some (.int .i64 b)) (first | exact ⟨hg2, i0, c0, c1, c2, c3, c4⟩ | exact Box.held h3 (by assumption) | exact ⟨hg2.drew, i0, c0, c1, c2, c3, c4⟩) (first | (go_at_call 27; refine (next_any nm l t a b v want f ht ha hb _).mono ?_; rintro e w3 ⟨rfl, h3⟩) | (go_at_call 28; refine (refNext_any nm l t a b v want f ht ha hb _).mono ?_; rintro e w3 ⟨rfl, h3⟩) | (go_at_call 29; refine (stop_any nm l t a b v ht ha hb _).mono ?_; rintro e w3 ⟨rfl, h3⟩) | (go_at_call 30; refine (refStop24_any nm l t a b v ht ha hb _).mono ?_; rintro e w3 ⟨rfl, h3⟩) | (go_at_call 31; refine (ticks_any nm l t a b v ht ha hb _).mono ?_; rintro e w3 ⟨rfl, h3⟩) | (go_at_call 32; refine (refTicks_any nm l t a b v ht ha hb _).mono ?_; rintro e w3 ⟨rfl, h3⟩) | (go_at_call 33; refine (keeps_any nm l t a b v room ht ha hb _).mono ?_; rintro e w3 ⟨rfl, h3⟩) | (go_at_call 34; refine (refKeeps_any nm l t a b v room ht ha hb _).mono ?_; rintro e w3 ⟨rfl, h3⟩) | (go_at_call 35; refine (reach_any nm l t a b v ticks ht ha hb _).mono ?_; rintro e w3 ⟨rfl, h3⟩) | (go_at_call 36; refine (refReach_any nm l t a b v ticks ht ha hb _).mono ?_; rintro e w3 ⟨rfl, h3⟩) | (go_at_call 37; refine (least_any nm l t a b v metres ht ha hb _).mono ?_; rintro e w3 ⟨rfl, h3⟩) | (go_at_call 38; refine (refLeast_any nm l t a b v metres ht ha hb _).mono ?_; rintro e w3 ⟨rfl, h3⟩))
    rename_i hS
    go_wp2_with fail
    go_ret
    exact ⟨rfl, hS.1⟩

theorem paceForms_walk (x : Value) (s : Stk) (v want : Int) (f : Bool) (room ticks metres : Int) (w : World) (hx : IsStk x s) (_w1 : (Lit.int .i64 v).wf = true) (_w2 : (Lit.int .i64 want).wf = true) (_w4 : (Lit.int .i64 room).wf = true) (_w5 : (Lit.int .i64 ticks).wf = true) (_w6 : (Lit.int .i64 metres).wf = true) :
    Calls Try.prog 8 #[x, .int .i64 v, .int .i64 want, .bool f, .int .i64 room, .int .i64 ticks, .int .i64 metres] w fun e w' => e = .returned (.bool true) ∧ Gr w w' := by
  obtain ⟨rfl, hs, -⟩ := hx
  exact paceForms_core s.nm s.l s.t s.a s.b v want f room ticks metres hs w
end Go.Proofs.Ytiblkcbehcpjbaa
