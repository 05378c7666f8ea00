/- The reference's leg, whole. -/
import Derived.Test.YtgjnlgcdpbilfaaGreatDoorRows
import Derived.Test.YtgjnlgcdpbilfaaGreatDoorRDpL
import Derived.Test.YtgjnlgcdpbilfaaGreatDoorB12
namespace Go.Proofs.YtgjnlgcdpbilfaaGreatDoor
open Go.ChangeShapes Go.WideShapes Go.ChangeAt Go.RowKit Go.Maps
set_option linter.unusedVariables false
set_option linter.unusedSimpArgs false
set_option maxRecDepth 100000 in
set_option maxHeartbeats 1000000 in
theorem rlegF_len (b B : Nat) (bb o c : Nat) (x : ByteArray) (t : List ByteArray) (P : Pln) (a1 a2 a3 a4 : Option Addr) (c1 c2 c3 c4 : Nat) (D : Dgm) (w0 w : World) (g : Gr w0 w) (hbb : bb < w.heap.size) (y0 : w.cell? ⟨bb, o, none⟩ = some (.string x)) (hx : x ≠ bTurn) (hl : t.length + 1 ≠ 3) (hm : t.length ≤ 10000000) :
    Calls Tryz.prog 58 #[plnV P (.slice a1 P.es.length c1) (.slice a2 P.js.length c2) (.slice a3 P.ss.length c3) (.slice a4 P.ls.length c4), .pointer (some ⟨b, 0, none⟩), .slice (some ⟨bb, o, none⟩) (t.length + 1) c] w ((RetLr 31 w0 b 0 B) (.inl 2)) := by
  have HR : Hid ((.inl 2 : Int ⊕ Dgm) = .inl 2) := rfl
  have tt : (x.toList == [116, 117, 114, 110]) = false := by rw [← turnL]; exact str_ne hx
  have t3 : (((t.length + 1 : Nat) : Int) != 3) = true := bneT (by omega)
  have hi : (0 : Int) < ((t.length + 1 : Nat) : Int) := by omega
  unfold plnV
  have G0 : Gr w (w.alloc (.cells #[.slice a1 P.es.length c1, .slice a2 P.js.length c2, .slice a3 P.ss.length c3, .slice a4 P.ls.length c4, .int .i64 P.top, .int .i64 P.brake, .int .i64 P.margin, .int .i64 P.throw, .bool P.hard] 27)) := (Gr.refl _).alloc _
  go_enter Tryz.func58, Tryz.ntmps58
  go_upto_region 1 with fail
  generalize (w.alloc (.cells #[.slice a1 P.es.length c1, .slice a2 P.js.length c2, .slice a3 P.ss.length c3, .slice a4 P.ls.length c4, .int .i64 P.top, .int .i64 P.brake, .int .i64 P.margin, .int .i64 P.throw, .bool P.hard] 27)) = wp at *
  have zy := Nat.lt_of_lt_of_le hbb G0.size
  replace y0 := (G0.cell _ _ hbb).trans y0
  go_wp2_with fail
  go_ret
  exact RetLr.no rfl ((g.trans G0).alloc _)
set_option maxRecDepth 100000 in
set_option maxHeartbeats 1000000 in
theorem rlegT_len (b B : Nat) (bb o c : Nat) (t : List ByteArray) (P : Pln) (a1 a2 a3 a4 : Option Addr) (c1 c2 c3 c4 : Nat) (D : Dgm) (w0 w : World) (g : Gr w0 w) (hbb : bb < w.heap.size) (y0 : w.cell? ⟨bb, o, none⟩ = some (.string bTurn)) (hcap : t.length + 1 ≤ c) (hl : t.length ≠ 3) (hm : t.length ≤ 10000000) :
    Calls Tryz.prog 58 #[plnV P (.slice a1 P.es.length c1) (.slice a2 P.js.length c2) (.slice a3 P.ss.length c3) (.slice a4 P.ls.length c4), .pointer (some ⟨b, 0, none⟩), .slice (some ⟨bb, o, none⟩) (t.length + 1) c] w ((RetLr 31 w0 b 0 B) (.inl 2)) := by
  have HR : Hid ((.inl 2 : Int ⊕ Dgm) = .inl 2) := rfl
  have tt : (bTurn.toList == [116, 117, 114, 110]) = true := by rw [turnL]; rfl
  obtain ⟨A, HSL, -⟩ := slice_first bb o (t.length + 1) c (by omega) hcap
  rw [Nat.add_sub_cancel] at HSL
  have t3 : ((t.length : Int) != 3) = true := bneT (by omega)
  have hi : (0 : Int) < ((t.length + 1 : Nat) : Int) := by omega
  unfold plnV
  have G0 : Gr w (w.alloc (.cells #[.slice a1 P.es.length c1, .slice a2 P.js.length c2, .slice a3 P.ss.length c3, .slice a4 P.ls.length c4, .int .i64 P.top, .int .i64 P.brake, .int .i64 P.margin, .int .i64 P.throw, .bool P.hard] 27)) := (Gr.refl _).alloc _
  go_enter Tryz.func58, Tryz.ntmps58
  go_upto_region 1 with fail
  generalize (w.alloc (.cells #[.slice a1 P.es.length c1, .slice a2 P.js.length c2, .slice a3 P.ss.length c3, .slice a4 P.ls.length c4, .int .i64 P.top, .int .i64 P.brake, .int .i64 P.margin, .int .i64 P.throw, .bool P.hard] 27)) = wp at *
  have zy := Nat.lt_of_lt_of_le hbb G0.size
  replace y0 := (G0.cell _ _ hbb).trans y0
  go_upto_region 3 with fail
  obtain ⟨zx, x0', x1', x2', x3', f0, f1, f2, f3⟩ := XB.new wp (.bool false) (.int .i64 0) (.int .i64 0) (.int .i64 0) 54
  go_wp2_with fail
  go_ret
  exact RetLr.no rfl ((g.trans G0).alloc _)
theorem refLeg_any (b B : Nat) (v : Value) (L : List ByteArray) (pv : Value) (P : Pln) (m : Nat) (D : Dgm) (w0 w : World)
    (hP : IsPln w0 pv P) (hb : w0.heap.size ≤ b) (g : Gr w0 w)
    (hR : Rd 31 b 0 B w D) (hv : IsVals w v (L.map Value.string)) (hc : CapOk v) (hs : ∀ x ∈ L, x.size ≤ maxLen) (hz : SzD m D) (hm : m ≤ 40000) (hne : L ≠ []) (hll : L.length ≤ 10000000) :
    Calls Tryz.prog 58 #[pv, .pointer (some ⟨b, 0, none⟩), v] w ((RetLr 31 w0 b 0 B) (legL P D L)) := by
  have hP' := hP
  obtain ⟨a1, c1, a2, c2, a3, c3, a4, c4, rfl, -⟩ := hP'
  cases L with
  | nil => exact absurd rfl hne
  | cons x t =>
    obtain ⟨bb, o, c, rfl, hcap, hbb, y0, ys⟩ := four_form hv hc
    unfold legL
    dsimp only
    simp only [List.length_cons] at hll
    by_cases hx : x = bTurn
    · rw [if_pos hx]
      subst hx
      by_cases hl : t.length = 3
      · obtain ⟨v, tt, n, rfl⟩ := list_three hl
        have s0 := ys.out 0 (by simp)
        have s1 := ys.out 1 (by simp)
        have s2 := ys.out 2 (by simp)
        have e1 : tt.size ≤ maxLen := hs tt (by simp)
        have e2 : n.size ≤ maxLen := hs n (by simp)
        show Calls _ _ _ _ ((RetLr 31 w0 b 0 B) (leg3 P D true v tt n))
        by_cases he : D.runs = [] ∨ nmB n = false ∨ (v ≠ bGo ∧ v ≠ bGate ∧ v ≠ bBuffer)
        · exact rlegT_no b B bb o c v tt n P a1 a2 a3 a4 c1 c2 c3 c4 m D w0 w hP hb g hR hbb y0 s0 s1 s2 hcap e1 e2 hz hm he
        · simp only [not_or, Bool.not_eq_false] at he
          obtain ⟨h1, h2, h4⟩ := he
          by_cases q1 : v = bGo
          · subst q1; exact rlegT_1 b B bb o c tt n P a1 a2 a3 a4 c1 c2 c3 c4 m D w0 w hP hb g hR hbb y0 s0 s1 s2 hcap e1 e2 hz hm h1 h2
          by_cases q2 : v = bGate
          · subst q2; exact rlegT_2 b B bb o c tt n P a1 a2 a3 a4 c1 c2 c3 c4 m D w0 w hP hb g hR hbb y0 s0 s1 s2 hcap e1 e2 hz hm h1 h2
          by_cases q3 : v = bBuffer
          · subst q3; exact rlegT_3 b B bb o c tt n P a1 a2 a3 a4 c1 c2 c3 c4 m D w0 w hP hb g hR hbb y0 s0 s1 s2 hcap e1 e2 hz hm h1 h2
          · exact absurd ⟨q1, q2, q3⟩ h4
      · rw [legW_len hl]
        exact rlegT_len b B bb o c t P a1 a2 a3 a4 c1 c2 c3 c4 D w0 w g hbb y0 hcap hl (by omega)
    · rw [if_neg hx]
      by_cases hl : t.length + 1 = 3
      · obtain ⟨tt, n, rfl⟩ := list_two (show t.length = 2 by omega)
        have s0 := ys.out 0 (by simp)
        have s1 := ys.out 1 (by simp)
        have e1 : tt.size ≤ maxLen := hs tt (by simp)
        have e2 : n.size ≤ maxLen := hs n (by simp)
        show Calls _ _ _ _ ((RetLr 31 w0 b 0 B) (leg3 P D false x tt n))
        by_cases he : D.runs = [] ∨ nmB n = false ∨ (x ≠ bGo ∧ x ≠ bGate ∧ x ≠ bBuffer)
        · exact rlegF_no b B bb o c x tt n P a1 a2 a3 a4 c1 c2 c3 c4 m D w0 w hP hb g hR hbb y0 s0 s1 hx hcap e1 e2 hz hm he
        · simp only [not_or, Bool.not_eq_false] at he
          obtain ⟨h1, h2, h4⟩ := he
          by_cases q1 : x = bGo
          · subst q1; exact rlegF_1 b B bb o c tt n P a1 a2 a3 a4 c1 c2 c3 c4 m D w0 w hP hb g hR hbb y0 s0 s1 hcap e1 e2 hz hm h1 h2
          by_cases q2 : x = bGate
          · subst q2; exact rlegF_2 b B bb o c tt n P a1 a2 a3 a4 c1 c2 c3 c4 m D w0 w hP hb g hR hbb y0 s0 s1 hcap e1 e2 hz hm h1 h2
          by_cases q3 : x = bBuffer
          · subst q3; exact rlegF_3 b B bb o c tt n P a1 a2 a3 a4 c1 c2 c3 c4 m D w0 w hP hb g hR hbb y0 s0 s1 hcap e1 e2 hz hm h1 h2
          · exact absurd ⟨q1, q2, q3⟩ h4
      · rw [legW_len (by simpa using hl)]
        exact rlegF_len b B bb o c x t P a1 a2 a3 a4 c1 c2 c3 c4 D w0 w g hbb y0 hx hl (by omega)
theorem legL_day (P : Pln) (D : Dgm) (t : List ByteArray) : legL P D (bDay :: t) = .inl 2 := by
  unfold legL
  dsimp only
  rw [if_neg (by decide)]
  match t with
  | [] => rfl
  | [_] => rfl
  | [a, n] =>
    show leg3 P D false bDay a n = _
    exact leg3_no (.inr (.inr (.inr (by decide))))
  | _ :: _ :: _ :: _ => rfl
theorem lineW_rest (P : Pln) (D : Dgm) (a : ByteArray) (t : List ByteArray) : lineW P D false (a :: t) = if a = bStock then stockW D (a :: t) else if a = bTrain then trainW P D (a :: t) else legL P D (a :: t) := by
  unfold lineW
  dsimp only
  by_cases h : a = bDay
  · subst h
    rw [if_pos (by decide), if_neg (by decide), if_neg (by decide), legL_day]
  · rw [if_neg (by rw [decide_eq_false h]; decide), if_neg h]
theorem lineW_first (P : Pln) (D : Dgm) (a : ByteArray) (t : List ByteArray) : lineW P D true (a :: t) = if a = bDay then dayW D (a :: t) else .inl 2 := by
  unfold lineW
  dsimp only
  by_cases h : a = bDay
  · rw [if_neg (by rw [decide_eq_true h]; decide), if_pos h, if_pos h]
  · rw [if_pos (by rw [decide_eq_false h]; decide), if_neg h]
end Go.Proofs.YtgjnlgcdpbilfaaGreatDoor
