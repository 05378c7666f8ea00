/- Pace: the greatest speed that keeps within a room. -/
import Derived.Test.YtiblkcbehcpjbaaPac3
import Derived.Deep.RegionHeld3
namespace Go.Proofs.Ytiblkcbehcpjbaa
open Go.ChangeShapes Go.WideShapes Go.ChangeAt Go.RowKit
set_option linter.unusedVariables false
set_option linter.unusedSimpArgs false

set_option maxHeartbeats 400000 in
theorem keeps_any (nm : ByteArray) (l t a b v room : Int) (ht : 1 ≤ t ∧ t ≤ 60) (ha : 1 ≤ a ∧ a ≤ 10) (hb : 1 ≤ b ∧ b ≤ 10) (w : World) :
    Calls Try.prog 33 #[.agg #[.string nm, .int .i64 l, .int .i64 t, .int .i64 a, .int .i64 b], .int .i64 v, .int .i64 room] w fun e w' => e = .returned (.int .i64 (kps t a b v room)) ∧ Gr w w' := by
  have wb : IntKind.i64.wrap (-b) = -b := IntWalk.i64_in _ (by omega)
  obtain ⟨L, hL⟩ : ∃ L, L = nxt t a b v (-b) false := ⟨_, rfl⟩
  obtain ⟨M, hM⟩ : ∃ M, M = nxt t a b v a false := ⟨_, rfl⟩
  have l1 : 0 ≤ L := by rw [hL]; exact (nxt_bd _ _ _ _ _ _ ht.1).1
  have l2 : L ≤ M := by rw [hL, hM]; exact nxt_least _ _ _ _ ha.1 hb.1 ht.1
  have l3 : M ≤ t := by rw [hM]; exact (nxt_bd _ _ _ _ _ _ ht.1).2
  have HK : Hid (kpF t b room (M - L).toNat M = kps t a b v room) := by unfold Hid kps; rw [hL, hM]
  have HL := Lib.hid hL
  have HM := Lib.hid hM
  clear hL hM
  have hbox := Box.new w nm l t a b 35
  go_enter Try.func33, Try.ntmps33
  go_wp2_with fail
  refine (may_yes nm l t a b ht ha hb _).mono ?_
  rintro e w1 ⟨rfl, h1⟩
  have hbox1 := hbox.gr h1
  have hg1 := ((Gr.refl w).alloc _).trans h1
  obtain ⟨i0, c0, c1, c2, c3, c4⟩ := hbox1
  clear hbox h1
  go_wp2_with fail
  go_region_held3 (fun w' => Gr w w' ∧ w.heap.size < w'.heap.size ∧ w'.cell? ⟨w.heap.size, 0, none⟩ = some (.string nm) ∧ w'.cell? ⟨w.heap.size, 1, none⟩ = some (.int .i64 l) ∧ w'.cell? ⟨w.heap.size, 2, none⟩ = some (.int .i64 t) ∧ w'.cell? ⟨w.heap.size, 3, none⟩ = some (.int .i64 a) ∧ w'.cell? ⟨w.heap.size, 4, none⟩ = some (.int .i64 b)) (first | exact ⟨hg1, i0, c0, c1, c2, c3, c4⟩ | exact Box.held h3 (by assumption) | exact ⟨hg1.drew, i0, c0, c1, c2, c3, c4⟩) (first | (go_at_call 27; refine (next_any nm l t a b v _ false ht ha hb _).mono ?_; rintro e w3 ⟨rfl, h3⟩))
  rename_i hS
  obtain ⟨hg2, j0, d0, d1, d2, d3, d4⟩ := hS
  have hbx : Box w3 w.heap.size nm l t a b := ⟨j0, d0, d1, d2, d3, d4⟩
  clear h3 d0 d1 d2 d3 d4 j0 hg1 i0 c0 c1 c2 c3 c4
  rw [← HL.out, ← HM.out]
  go_wp2_with fail
  go_loopw [8] (fun x wr => ∃ X : Int, x = .int .i64 X ∧ L ≤ X ∧ X ≤ t ∧ Hid (kpF t b room (X - L).toNat X = kps t a b v room) ∧ Gr w wr ∧ Box wr w.heap.size nm l t a b) (fun x _ => (intOf x).toNat)
  case atStart => exact ⟨M, rfl, l2, l3, HK, hg2, hbx⟩
  case round =>
    obtain ⟨X, rfl, r1, r2, HS, g, ⟨i0, c0, c1, c2, c3, c4⟩⟩ := hrel
    clear hbx hg2 HK HL HM
    by_cases hx : X = L
    · have HT : Hid (X = kps t a b v room) := by unfold Hid; rw [← HS.out, kpF_end t b room L X (by omega)]
      have hx' : (X == L) = true := by simp [hx]
      clear HS hx
      go_wp2_with fail
      go_ret
      exact ⟨ret_int HT.out, g⟩
    · have hx' : (X == L) = false := by simp [hx]
      have bd := stopD_bd t b X ht hb.1
      obtain ⟨bd1, bd2⟩ := bd
      by_cases hr : X + stopD t b X ≤ room
      · have HT : Hid (X = kps t a b v room) := by unfold Hid; rw [← HS.out, kpF_yes t b room L X hr]
        clear HS
        go_wp2_with fail
        refine (stop_any nm l t a b X ht ha hb _).mono ?_
        rintro e w4 ⟨rfl, h4⟩
        go_wp2_with fail
        go_ret
        exact ⟨ret_int HT.out, g.trans h4⟩
      · have HT : Hid (kpF t b room (X - 1 - L).toNat (X - 1) = kps t a b v room) := by unfold Hid; rw [← HS.out, kpF_no t b room L X (by omega) hr]
        clear HS
        go_wp2_with fail
        refine (stop_any nm l t a b X ht ha hb _).mono ?_
        rintro e w4 ⟨rfl, h4⟩
        have hB : Box w4 w.heap.size nm l t a b := Box.gr ⟨i0, c0, c1, c2, c3, c4⟩ h4
        have hG := g.trans h4
        go_wp2_with fail
        go_roundw
        case rel => exact ⟨X - 1, rfl, by omega, by omega, HT, hG, hB⟩
        case measure => simp [intOf]; omega

set_option maxHeartbeats 400000 in
theorem refKeeps_any (nm : ByteArray) (l t a b v room : Int) (ht : 1 ≤ t ∧ t ≤ 60) (ha : 1 ≤ a ∧ a ≤ 10) (hb : 1 ≤ b ∧ b ≤ 10) (w : World) :
    Calls Try.prog 34 #[.agg #[.string nm, .int .i64 l, .int .i64 t, .int .i64 a, .int .i64 b], .int .i64 v, .int .i64 room] w fun e w' => e = .returned (.int .i64 (kps t a b v room)) ∧ Gr w w' := by
  have wb : IntKind.i64.wrap (-b) = -b := IntWalk.i64_in _ (by omega)
  obtain ⟨L, hL⟩ : ∃ L, L = nxt t a b v (-b) false := ⟨_, rfl⟩
  obtain ⟨M, hM⟩ : ∃ M, M = nxt t a b v a false := ⟨_, rfl⟩
  have l1 : 0 ≤ L := by rw [hL]; exact (nxt_bd _ _ _ _ _ _ ht.1).1
  have l2 : L ≤ M := by rw [hL, hM]; exact nxt_least _ _ _ _ ha.1 hb.1 ht.1
  have l3 : M ≤ t := by rw [hM]; exact (nxt_bd _ _ _ _ _ _ ht.1).2
  have HK : Hid (kpF t b room (M - L).toNat M = kps t a b v room) := by unfold Hid kps; rw [hL, hM]
  have HL := Lib.hid hL
  have HM := Lib.hid hM
  clear hL hM
  obtain ⟨w1, hw1⟩ : ∃ w1, w1 = w.alloc (.cells #[.string nm, .int .i64 l, .int .i64 t, .int .i64 a, .int .i64 b] 35) := ⟨_, rfl⟩
  have hbox := Box.new w nm l t a b 35
  have hg1 := ((Gr.refl w).alloc (.cells #[.string nm, .int .i64 l, .int .i64 t, .int .i64 a, .int .i64 b] 35))
  rw [← hw1] at hbox hg1
  have HW := Lib.hid hw1
  clear hw1
  obtain ⟨i0, c0, c1, c2, c3, c4⟩ := hbox
  go_enter Try.func34, Try.ntmps34
  go_wp2_with fail
  rw [← HW.out]
  go_region_held3 (fun w' => Gr w w' ∧ w.heap.size < w'.heap.size ∧ w'.cell? ⟨w.heap.size, 0, none⟩ = some (.string nm) ∧ w'.cell? ⟨w.heap.size, 1, none⟩ = some (.int .i64 l) ∧ w'.cell? ⟨w.heap.size, 2, none⟩ = some (.int .i64 t) ∧ w'.cell? ⟨w.heap.size, 3, none⟩ = some (.int .i64 a) ∧ w'.cell? ⟨w.heap.size, 4, none⟩ = some (.int .i64 b)) (first | exact ⟨hg1, i0, c0, c1, c2, c3, c4⟩ | exact Box.held h3 (by assumption) | exact ⟨hg1.drew, i0, c0, c1, c2, c3, c4⟩) (first | (go_at_call 28; refine (refNext_any nm l t a b v _ false ht ha hb _).mono ?_; rintro e w3 ⟨rfl, h3⟩))
  rename_i hS
  obtain ⟨hg2, j0, d0, d1, d2, d3, d4⟩ := hS
  have hbx : Box w3 w.heap.size nm l t a b := ⟨j0, d0, d1, d2, d3, d4⟩
  clear h3 d0 d1 d2 d3 d4 j0 hg1 i0 c0 c1 c2 c3 c4
  rw [← HL.out, ← HM.out]
  clear HW
  go_wp2_with fail
  go_loopw [9] (fun x wr => ∃ X : Int, x = .int .i64 X ∧ L ≤ X ∧ X ≤ t ∧ Hid (kpF t b room (X - L).toNat X = kps t a b v room) ∧ Gr w wr ∧ Box wr w.heap.size nm l t a b) (fun x _ => (intOf x).toNat)
  case atStart => exact ⟨M, rfl, l2, l3, HK, hg2, hbx⟩
  case round =>
    obtain ⟨X, rfl, r1, r2, HS, g, ⟨i0, c0, c1, c2, c3, c4⟩⟩ := hrel
    clear hbx hg2 HK HL HM
    by_cases hx : X ≤ L
    · have HT : Hid (L = kps t a b v room) := by unfold Hid; rw [← HS.out, kpF_end t b room L X (by omega)]; omega
      clear HS
      go_wp2_with fail
      go_ret
      exact ⟨ret_int HT.out, g⟩
    · have bd := stopD_bd t b X ht hb.1
      obtain ⟨bd1, bd2⟩ := bd
      by_cases hr : X + stopD t b X ≤ room
      · have HT : Hid (X = kps t a b v room) := by unfold Hid; rw [← HS.out, kpF_yes t b room L X hr]
        clear HS
        go_wp2_with fail
        refine (refStop24_any nm l t a b X ht ha hb _).mono ?_
        rintro e w4 ⟨rfl, h4⟩
        go_wp2_with fail
        go_ret
        exact ⟨ret_int HT.out, g.trans h4⟩
      · have HT : Hid (kpF t b room (X - 1 - L).toNat (X - 1) = kps t a b v room) := by unfold Hid; rw [← HS.out, kpF_no t b room L X (by omega) hr]
        clear HS
        go_wp2_with fail
        refine (refStop24_any nm l t a b X ht ha hb _).mono ?_
        rintro e w4 ⟨rfl, h4⟩
        have hB : Box w4 w.heap.size nm l t a b := Box.gr ⟨i0, c0, c1, c2, c3, c4⟩ h4
        have hG := g.trans h4
        go_wp2_with fail
        go_roundw
        case rel => exact ⟨X - 1, rfl, by omega, by omega, HT, hG, hB⟩
        case measure => simp [intOf]; omega
end Go.Proofs.Ytiblkcbehcpjbaa
