/- The reference's first line of a plan. -/
import Derived.Test.YtknmngejjoohdaaGreatDoorRows
import Derived.Test.YtknmngejjoohdaaGreatDoorRDrC
import Derived.Test.YtknmngejjoohdaaGreatDoorRDrZ
import Derived.Test.YtknmngejjoohdaaGreatDoorB12
namespace Go.Proofs.YtknmngejjoohdaaGreatDoor
open Go.ChangeShapes Go.WideShapes Go.ChangeAt Go.RowKit Go.Maps
set_option linter.unusedVariables false
set_option linter.unusedSimpArgs false
theorem refNum5_any (s : ByteArray) (hs : s.size ≤ maxLen) (w : World) :
    Calls Tryz.prog 87 #[.string s] w fun e w' => e = .returned (.tuple #[.int .i64 (numN s 5), .bool (numB s 5)]) ∧ w' = w := by
  have HN := Lib.hid (fun w' => refNumber_any s 5 hs w')
  generalize numN s 5 = n at *
  generalize numB s 5 = q at *
  go_enter Tryz.func87, Tryz.ntmps87
  go_wp2_with (first | (go_at_call 142; (with_reducible refine (HN.out _).mono ?_); rintro e w3 ⟨rfl, hq⟩; obtain rfl := hq.symm) | fail)
  go_ret2
  exact ⟨rfl, rfl⟩
theorem RdP.box0 {T : TypeId} {b B : Nat} {w : World} {P : Pln} {m : Option Bool} (h : RdP T b B w P m) : b < w.heap.size ∧ w.cell? ⟨b, 4, none⟩ = some (.int .i64 P.top) ∧ w.cell? ⟨b, 5, none⟩ = some (.int .i64 P.brake) ∧ w.cell? ⟨b, 6, none⟩ = some (.int .i64 P.margin) ∧ w.cell? ⟨b, 7, none⟩ = some (.int .i64 P.throw) ∧ w.cell? ⟨b, 8, none⟩ = some (.bool P.hard) ∧
    w.frozen? ⟨b, 4, none⟩ = false ∧ w.frozen? ⟨b, 5, none⟩ = false ∧ w.frozen? ⟨b, 6, none⟩ = false ∧ w.frozen? ⟨b, 7, none⟩ = false ∧ w.frozen? ⟨b, 8, none⟩ = false := by
  obtain ⟨e, j, s, l, h1, h2⟩ := h
  have f := h1.frozen
  obtain ⟨-, ⟨z, c0, c1, c2, c3, c4, c5, c6, c7, c8⟩, hm⟩ := id h1
  exact ⟨z, c4, c5, c6, c7, c8, f 4, f 5, f 6, f 7, f 8⟩
def HdR (T : TypeId) (w0 : World) (b B : Nat) (K : World → Prop) (r : Option Pln) (x : Ending) (w' : World) : Prop :=
  match r with
  | none => x = .returned (.bool false) ∧ Gr w0 w'
  | some P => x = .returned (.bool true) ∧ Gr w0 w' ∧ K w' ∧ RdP T b B w' P none
theorem hdNo {T : TypeId} {w0 w' : World} {b B : Nat} {K : World → Prop} {r : Option Pln} (h : r = none) (g : Gr w0 w') : HdR T w0 b B K r (.returned (.bool false)) w' := by subst h; exact ⟨rfl, g⟩
theorem hdYes {T : TypeId} {w0 w' : World} {b B : Nat} {K : World → Prop} {r : Option Pln} {P : Pln} (h : r = some P) (g : Gr w0 w') (k : K w') (d : RdP T b B w' P none) : HdR T w0 b B K r (.returned (.bool true)) w' := by subst h; exact ⟨rfl, g, k, d⟩
def headR (L : List ByteArray) : Option Pln := (headW L).map (withH pln0)
theorem headR_len {L : List ByteArray} (h : L.length ≠ 6) : headR L = none := by
  match L, h with
  | [], _ => rfl
  | [_], _ => rfl
  | [_, _], _ => rfl
  | [_, _, _], _ => rfl
  | [_, _, _, _], _ => rfl
  | [_, _, _, _, _], _ => rfl
  | [_, _, _, _, _, _], h => exact absurd rfl h
  | _ :: _ :: _ :: _ :: _ :: _ :: _ :: _, _ => rfl
theorem headR_six (p a b c d h : ByteArray) : headR [p, a, b, c, d, h] = if p = bPlan ∧ (h = bSoft ∨ h = bHard) ∧ numB a 5 = true ∧ numB b 5 = true ∧ numB c 5 = true ∧ numB d 5 = true then some (withH pln0 (numN a 5, numN b 5, numN c 5, numN d 5, decide (h = bHard))) else none := by
  unfold headR headW
  dsimp only
  split <;> rfl
def X4 (B : Nat) (u0 u1 u2 u3 : Value) (w : World) : Prop := B < w.heap.size ∧ w.cell? ⟨B, 0, none⟩ = some u0 ∧ w.cell? ⟨B, 1, none⟩ = some u1 ∧ w.cell? ⟨B, 2, none⟩ = some u2 ∧ w.cell? ⟨B, 3, none⟩ = some u3 ∧ w.frozen? ⟨B, 0, none⟩ = false ∧ w.frozen? ⟨B, 1, none⟩ = false ∧ w.frozen? ⟨B, 2, none⟩ = false ∧ w.frozen? ⟨B, 3, none⟩ = false
theorem X4.new (w : World) (u0 u1 u2 u3 : Value) (T : TypeId) : X4 w.heap.size u0 u1 u2 u3 (w.alloc (.cells #[u0, u1, u2, u3] T)) := by
  refine ⟨by simp, ?_, ?_, ?_, ?_, ?_, ?_, ?_, ?_⟩ <;> go_simp
theorem X4.set0 {B : Nat} {u0 u1 u2 u3 : Value} {w : World} (h : X4 B u0 u1 u2 u3 w) (u : Value) : X4 B u u1 u2 u3 (w.setCell ⟨B, 0, none⟩ u) := by
  obtain ⟨z, h0, h1, h2, h3, f0, f1, f2, f3⟩ := h
  refine ⟨by simpa using z, World.cell?_setCell_same _ _ _ h0, ?_, ?_, ?_, ?_, ?_, ?_, ?_⟩ <;> go_simp
theorem X4.set1 {B : Nat} {u0 u1 u2 u3 : Value} {w : World} (h : X4 B u0 u1 u2 u3 w) (u : Value) : X4 B u0 u u2 u3 (w.setCell ⟨B, 1, none⟩ u) := by
  obtain ⟨z, h0, h1, h2, h3, f0, f1, f2, f3⟩ := h
  refine ⟨by simpa using z, ?_, World.cell?_setCell_same _ _ _ h1, ?_, ?_, ?_, ?_, ?_, ?_⟩ <;> go_simp
theorem X4.set2 {B : Nat} {u0 u1 u2 u3 : Value} {w : World} (h : X4 B u0 u1 u2 u3 w) (u : Value) : X4 B u0 u1 u u3 (w.setCell ⟨B, 2, none⟩ u) := by
  obtain ⟨z, h0, h1, h2, h3, f0, f1, f2, f3⟩ := h
  refine ⟨by simpa using z, ?_, ?_, World.cell?_setCell_same _ _ _ h2, ?_, ?_, ?_, ?_, ?_⟩ <;> go_simp
theorem X4.set3 {B : Nat} {u0 u1 u2 u3 : Value} {w : World} (h : X4 B u0 u1 u2 u3 w) (u : Value) : X4 B u0 u1 u2 u (w.setCell ⟨B, 3, none⟩ u) := by
  obtain ⟨z, h0, h1, h2, h3, f0, f1, f2, f3⟩ := h
  refine ⟨by simpa using z, ?_, ?_, ?_, World.cell?_setCell_same _ _ _ h3, ?_, ?_, ?_, ?_⟩ <;> go_simp
theorem planL : bPlan.toList = [112, 108, 97, 110] := by rw [ByteArray.toList_eq]; rfl
set_option maxRecDepth 100000 in
set_option maxHeartbeats 2000000 in
theorem refHead_any (T : TypeId) (b B k : Nat) (h0 : Option Obj) (v : Value) (L : List ByteArray) (w0 w : World) (hb : w0.heap.size ≤ b) (g : Gr w0 w) (hK : KL k h0 w) (hkb : k ≠ b) (hR : RdP T b B w pln0 none) (hv : IsVals w v (L.map Value.string)) (hne : L ≠ []) (hs : ∀ x ∈ L, x.size ≤ maxLen) :
    Calls Tryz.prog 41 #[.pointer (some ⟨b, 0, none⟩), v] w (HdR T w0 b B (KL k h0) (headR L)) := by
  have HG := g
  obtain ⟨bb, o, c, rfl, hbb, hlm, HC⟩ := vals_form hv hne
  unfold maxLen at hlm
  by_cases h6 : L.length = 6
  rotate_left
  · have HR := Lib.hid (headR_len h6)
    have hpos : 0 < L.length := List.length_pos_iff.2 hne
    clear hv HC
    generalize L.length = n at *
    have t6 : ((n : Int) != 6) = true := bneT (by omega)
    clear h6
    go_enter Tryz.func41, Tryz.ntmps41
    go_wp2_with fail
    (go_ret; exact hdNo HR.out (by assumption))
  obtain ⟨xp, xa, xb, xc, xd, xh, rfl⟩ : ∃ p a b c d h, L = [p, a, b, c, d, h] := by
    match L, h6 with
    | [p, a, b, c, d, h], _ => exact ⟨p, a, b, c, d, h, rfl⟩
  have y0 : w.cell? ⟨bb, o, none⟩ = some (.string xp) := HC.out 0 (by simp)
  have y1 : w.cell? ⟨bb, o + 1, none⟩ = some (.string xa) := HC.out 1 (by simp)
  have y2 : w.cell? ⟨bb, o + 2, none⟩ = some (.string xb) := HC.out 2 (by simp)
  have y3 : w.cell? ⟨bb, o + 3, none⟩ = some (.string xc) := HC.out 3 (by simp)
  have y4 : w.cell? ⟨bb, o + 4, none⟩ = some (.string xd) := HC.out 4 (by simp)
  have y5 : w.cell? ⟨bb, o + 5, none⟩ = some (.string xh) := HC.out 5 (by simp)
  have HN1 := Lib.hid (fun w' => refNum5_any xa (hs xa (by simp)) w')
  have HN2 := Lib.hid (fun w' => refNum5_any xb (hs xb (by simp)) w')
  have HN3 := Lib.hid (fun w' => refNum5_any xc (hs xc (by simp)) w')
  have HN4 := Lib.hid (fun w' => refNum5_any xd (hs xd (by simp)) w')
  have hF := headR_six xp xa xb xc xd xh
  generalize headR [xp, xa, xb, xc, xd, xh] = R at hF ⊢
  generalize numB xa 5 = q1 at *
  generalize numN xa 5 = n1 at *
  generalize numB xb 5 = q2 at *
  generalize numN xb 5 = n2 at *
  generalize numB xc 5 = q3 at *
  generalize numN xc 5 = n3 at *
  generalize numB xd 5 = q4 at *
  generalize numN xd 5 = n4 at *
  have HF := Lib.hid hF
  have e0 := str_neD (x := xp) planL
  have e1 := str_neD (x := xh) softL
  have e2 := str_neD (x := xh) hardL
  have e3 := str_eqD (x := xh) hardL
  have e4 := str_eqD (x := xh) softL
  have e5 := str_eqD (x := xp) planL
  clear hF hs HC hv hne
  simp only [List.length_cons, List.length_nil] at *
  by_cases hp : xp = bPlan
  rotate_left
  · have HR : Hid (R = none) := by show _ = _; rw [HF.out, if_neg (fun e => hp e.1)]
    rw [decide_eq_false hp] at e0 e5
    simp only [Bool.not_false] at e0
    clear h6 HF hp
    go_enter Tryz.func41, Tryz.ntmps41
    go_wp2_with fail
    all_goals (go_ret; exact hdNo HR.out (by assumption))
  rw [decide_eq_true hp] at e0 e5
  simp only [Bool.not_true] at e0
  by_cases hh : xh = bSoft ∨ xh = bHard
  rotate_left
  · have HR : Hid (R = none) := by show _ = _; rw [HF.out, if_neg (fun e => hh e.2.1)]
    rw [decide_eq_false (fun e => hh (.inl e))] at e1 e4
    rw [decide_eq_false (fun e => hh (.inr e))] at e2 e3
    simp only [Bool.not_false] at e1 e2
    clear hh h6 HF hp
    go_enter Tryz.func41, Tryz.ntmps41
    go_wp2_with fail
    all_goals (go_ret; exact hdNo HR.out (by assumption))
  have HFF : Hid (∀ n, (q1 = true ∧ q2 = true ∧ q3 = true ∧ q4 = true → R = some (withH pln0 (n1, n2, n3, n4, decide (xh = bHard)))) ∧ (n = 0 → (q1 = false ∨ q2 = false ∨ q3 = false ∨ q4 = false) → R = none)) := fun n => ⟨fun h => by rw [HF.out, if_pos ⟨hp, hh, h⟩], fun _ h => by
    rw [HF.out, if_neg]
    rintro ⟨-, -, h1, h2, h3, h4⟩
    rcases h with h | h | h | h
    · rw [h1] at h; cases h
    · rw [h2] at h; cases h
    · rw [h3] at h; cases h
    · rw [h4] at h; cases h⟩
  have hsb : decide (xh = bSoft) = !decide (xh = bHard) := by
    rcases hh with rfl | rfl <;> decide
  rw [hsb] at e1 e4
  generalize decide (xh = bHard) = hd at *
  clear hh hp hsb HF
  cases hd
  all_goals
    simp only [Bool.not_true, Bool.not_false] at e1 e2 e4
    go_enter Tryz.func41, Tryz.ntmps41
    go_upto_region 4 with fail
    have gw : Gr w (w.alloc (.cells #[.int .i64 0, .int .i64 0, .int .i64 0, .int .i64 0] 134)) := (Gr.refl _).alloc _
    have hX := X4.new w (.int .i64 0) (.int .i64 0) (.int .i64 0) (.int .i64 0) 134
    have HY : Hid (∀ w', Gr w w' → bb < w'.heap.size ∧ w'.cell? ⟨bb, o + 1, none⟩ = some (.string xa) ∧ w'.cell? ⟨bb, o + 2, none⟩ = some (.string xb) ∧ w'.cell? ⟨bb, o + 3, none⟩ = some (.string xc) ∧ w'.cell? ⟨bb, o + 4, none⟩ = some (.string xd) ∧ w'.cell? ⟨bb, o + 5, none⟩ = some (.string xh)) := fun w' g => ⟨Nat.lt_of_lt_of_le hbb g.size, (g.cell _ _ hbb).trans y1, (g.cell _ _ hbb).trans y2, (g.cell _ _ hbb).trans y3, (g.cell _ _ hbb).trans y4, (g.cell _ _ hbb).trans y5⟩
    have hnb : w.heap.size ≤ w.heap.size := Nat.le_refl _
    have hX0 := Lib.hid hX
    have hgw := Lib.hid gw
    clear y0 y1 y2 y3 y4 y5 hX gw
    generalize w.alloc (.cells #[.int .i64 0, .int .i64 0, .int .i64 0, .int .i64 0] 134) = w1 at *
    go_wp2_with fail
    go_loopw [6, 7, 8] (fun x _ _ wr => Gr w wr ∧ ((x = .int .i64 0 ∧ X4 w.heap.size (.int .i64 0) (.int .i64 0) (.int .i64 0) (.int .i64 0) wr) ∨ (x = .int .i64 1 ∧ q1 = true ∧ X4 w.heap.size (.int .i64 n1) (.int .i64 0) (.int .i64 0) (.int .i64 0) wr) ∨ (x = .int .i64 2 ∧ (q1 = true ∧ q2 = true) ∧ X4 w.heap.size (.int .i64 n1) (.int .i64 n2) (.int .i64 0) (.int .i64 0) wr) ∨ (x = .int .i64 3 ∧ (q1 = true ∧ q2 = true ∧ q3 = true) ∧ X4 w.heap.size (.int .i64 n1) (.int .i64 n2) (.int .i64 n3) (.int .i64 0) wr) ∨ (x = .int .i64 4 ∧ (q1 = true ∧ q2 = true ∧ q3 = true ∧ q4 = true) ∧ X4 w.heap.size (.int .i64 n1) (.int .i64 n2) (.int .i64 n3) (.int .i64 n4) wr))) (fun x _ _ _ => 4 - (intOf x).toNat)
    case atStart => exact ⟨hgw.out, .inl ⟨rfl, hX0.out⟩⟩
    case round =>
      obtain ⟨gi, h | h | h | h | h⟩ := hrel
      · obtain ⟨rfl, hx⟩ := h
        have HXX := Lib.hid hx
        obtain ⟨zx, c0, c1, c2, c3, f0, f1, f2, f3⟩ := hx
        obtain ⟨zb, y1, y2, y3, y4, y5⟩ := HY.out _ gi
        cases q1
        · have HR : Hid (R = none) := (HFF.out 0).2 rfl (.inl rfl)
          have hgi := HG.trans gi
          go_wp2_with (first | (go_at_call 87; (with_reducible refine (HN1.out _).mono ?_); rintro e w3 ⟨rfl, hq3⟩; obtain rfl := hq3.symm) | fail)
          (go_ret; exact hdNo HR.out (by assumption))
        · go_wp2_with (first | (go_at_call 87; (with_reducible refine (HN1.out _).mono ?_); rintro e w3 ⟨rfl, hq3⟩; obtain rfl := hq3.symm) | fail)
          go_roundw
          case rel => exact ⟨gi.setCell hnb _, (.inr (.inl ⟨rfl, trivial, HXX.out.set0 _⟩))⟩
          case measure => simp [intOf]
      · obtain ⟨rfl, hq, hx⟩ := h
        have HXX := Lib.hid hx
        obtain ⟨zx, c0, c1, c2, c3, f0, f1, f2, f3⟩ := hx
        obtain ⟨zb, y1, y2, y3, y4, y5⟩ := HY.out _ gi
        cases q2
        · have HR : Hid (R = none) := (HFF.out 0).2 rfl (.inr (.inl rfl))
          have hgi := HG.trans gi
          go_wp2_with (first | (go_at_call 87; (with_reducible refine (HN2.out _).mono ?_); rintro e w3 ⟨rfl, hq3⟩; obtain rfl := hq3.symm) | fail)
          (go_ret; exact hdNo HR.out (by assumption))
        · go_wp2_with (first | (go_at_call 87; (with_reducible refine (HN2.out _).mono ?_); rintro e w3 ⟨rfl, hq3⟩; obtain rfl := hq3.symm) | fail)
          go_roundw
          case rel => exact ⟨gi.setCell hnb _, (.inr (.inr (.inl ⟨rfl, ⟨hq, trivial⟩, HXX.out.set1 _⟩)))⟩
          case measure => simp [intOf]
      · obtain ⟨rfl, hq, hx⟩ := h
        have HXX := Lib.hid hx
        obtain ⟨zx, c0, c1, c2, c3, f0, f1, f2, f3⟩ := hx
        obtain ⟨zb, y1, y2, y3, y4, y5⟩ := HY.out _ gi
        cases q3
        · have HR : Hid (R = none) := (HFF.out 0).2 rfl (.inr (.inr (.inl rfl)))
          have hgi := HG.trans gi
          go_wp2_with (first | (go_at_call 87; (with_reducible refine (HN3.out _).mono ?_); rintro e w3 ⟨rfl, hq3⟩; obtain rfl := hq3.symm) | fail)
          (go_ret; exact hdNo HR.out (by assumption))
        · go_wp2_with (first | (go_at_call 87; (with_reducible refine (HN3.out _).mono ?_); rintro e w3 ⟨rfl, hq3⟩; obtain rfl := hq3.symm) | fail)
          go_roundw
          case rel => exact ⟨gi.setCell hnb _, (.inr (.inr (.inr (.inl ⟨rfl, ⟨hq.1, hq.2, trivial⟩, HXX.out.set2 _⟩))))⟩
          case measure => simp [intOf]
      · obtain ⟨rfl, hq, hx⟩ := h
        have HXX := Lib.hid hx
        obtain ⟨zx, c0, c1, c2, c3, f0, f1, f2, f3⟩ := hx
        obtain ⟨zb, y1, y2, y3, y4, y5⟩ := HY.out _ gi
        cases q4
        · have HR : Hid (R = none) := (HFF.out 0).2 rfl (.inr (.inr (.inr rfl)))
          have hgi := HG.trans gi
          go_wp2_with (first | (go_at_call 87; (with_reducible refine (HN4.out _).mono ?_); rintro e w3 ⟨rfl, hq3⟩; obtain rfl := hq3.symm) | fail)
          (go_ret; exact hdNo HR.out (by assumption))
        · go_wp2_with (first | (go_at_call 87; (with_reducible refine (HN4.out _).mono ?_); rintro e w3 ⟨rfl, hq3⟩; obtain rfl := hq3.symm) | fail)
          go_roundw
          case rel => exact ⟨gi.setCell hnb _, (.inr (.inr (.inr (.inr ⟨rfl, ⟨hq.1, hq.2.1, hq.2.2, trivial⟩, HXX.out.set3 _⟩))))⟩
          case measure => simp [intOf]
      · obtain ⟨rfl, hq, hx⟩ := h
        obtain ⟨zx, c0, c1, c2, c3, f0, f1, f2, f3⟩ := hx
        obtain ⟨zb, y1, y2, y3, y4, y5⟩ := HY.out _ gi
        have hR4 := hR.gr gi
        obtain ⟨zz, d4, d5, d6, d7, d8, g4, g5, g6, g7, g8⟩ := hR4.box0
        have HRR := Lib.hid hR4
        have HR := Lib.hid ((HFF.out 0).1 hq)
        have HK4 := Lib.hid (hK.gr gi)
        have hne2 : w.heap.size ≠ b := by have := hR.blk.1; omega
        clear hR4 hR hK HFF HN1 HN2 HN3 HN4 hq
        go_upto_region 11 with fail
        go_region
        go_wp2_with fail
        go_ret
        exact hdYes HR.out (((((((HG.trans gi).setCell hb _).setCell hb _).setCell hb _).setCell hb _).setCell hb _).drew) ((((((HK4.out.set hkb _).set hkb _).set hkb _).set hkb _).set hkb _).gr ((Gr.refl _).drew)) ((((((HRR.out.num 0 (by omega) n1).num 1 (by omega) n2).num 2 (by omega) n3).num 3 (by omega) n4).hard _).gr ((Gr.refl _).drew))
end Go.Proofs.YtknmngejjoohdaaGreatDoor
