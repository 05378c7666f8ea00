/- DgS: (*reader).leg, whole; (*reader).line.
DgO: (*reader).train.
Pla1: plan.numbers. Printed by wip/gen_pla1.py.
Pla5: plan.row.
Pla6: plan.lines.
Pla7: plan.long.
Pla8: plan.Check.
Twn: net.twin.
New1: net.New.
Mad: semaphorelaw4.Made.
Sml: Small: the plan that every group's known builds.
FinP: What a fine plan is: plain. The small plan is one.
DgU: Timetables as texts, there and back: plain. -/
import Derived.Test.YtgjnlgcdpbilfaaGreatDoorRows
import Derived.Test.YtgjnlgcdpbilfaaGreatDoorB10
import Derived.Test.YtgjnlgcdpbilfaaGreatDoorB8
import Derived.Test.YtgjnlgcdpbilfaaGreatDoorB9
import Derived.Test.YtgjnlgcdpbilfaaGreatDoorB7
import Derived.Deep.RegionLaw
import Derived.Deep.AppendLies
import Derived.Test.YtgjnlgcdpbilfaaGreatDoorB3
import Derived.WalkMore
import Derived.Test.YtgjnlgcdpbilfaaGreatDoorB5
import Derived.Test.YtgjnlgcdpbilfaaGreatDoorB2
import Derived.Test.YtgjnlgcdpbilfaaGreatDoorB4
import Derived.Test.YtgjnlgcdpbilfaaGreatDoorB6
import Derived.Deep.RegionWith
import Derived.Deep.Cut
import Derived.Deep.CutRange
import Derived.Deep.DrawnRows
import Derived.BigRegion
namespace Go.Proofs.YtgjnlgcdpbilfaaGreatDoor
open Go.ChangeShapes Go.WideShapes Go.ChangeAt Go.RowKit Go.Maps
set_option linter.unusedVariables false
set_option linter.unusedSimpArgs false
set_option maxRecDepth 100000 in
set_option maxHeartbeats 1000000 in
theorem legF_len (b B k : Nat) (h0 : Option Obj) (bb o c : Nat) (x : ByteArray) (t : List ByteArray) (P : Pln) (a1 a2 a3 a4 : Option Addr) (c1 c2 c3 c4 : Nat) (D : Dgm) (w0 w : World) (g : Gr w0 w) (hbb : bb < w.heap.size) (y0 : w.cell? ⟨bb, o, none⟩ = some (.string x)) (hx : x ≠ bTurn) (hl : t.length + 1 ≠ 3) (hm : t.length ≤ 10000000) :
    Calls Tryz.prog 87 #[.pointer (some ⟨b, 0, none⟩), .slice (some ⟨bb, o, none⟩) (t.length + 1) c] w ((RetLn 88 w0 b 9 B (KB b P (.slice a1 P.es.length c1) (.slice a2 P.js.length c2) (.slice a3 P.ss.length c3) (.slice a4 P.ls.length c4) k h0)) (.inl 2)) := by
  have HR : Hid ((.inl 2 : Int ⊕ Dgm) = .inl 2) := rfl
  have tt : (x.toList == [116, 117, 114, 110]) = false := by rw [← turnL]; exact str_ne hx
  have t3 : (((t.length + 1 : Nat) : Int) != 3) = true := bneT (by omega)
  have hi : (0 : Int) < ((t.length + 1 : Nat) : Int) := by omega
  go_enter Tryz.func87, Tryz.ntmps87
  go_wp2_with fail
  (go_ret; first | exact RetLn.no rfl (g.alloc _) | exact RetLn.no HR.out (g.alloc _))
set_option maxRecDepth 100000 in
set_option maxHeartbeats 1000000 in
theorem legT_len (b B k : Nat) (h0 : Option Obj) (bb o c : Nat) (t : List ByteArray) (P : Pln) (a1 a2 a3 a4 : Option Addr) (c1 c2 c3 c4 : Nat) (D : Dgm) (w0 w : World) (g : Gr w0 w) (hbb : bb < w.heap.size) (y0 : w.cell? ⟨bb, o, none⟩ = some (.string bTurn)) (hcap : t.length + 1 ≤ c) (hl : t.length ≠ 3) (hm : t.length ≤ 10000000) :
    Calls Tryz.prog 87 #[.pointer (some ⟨b, 0, none⟩), .slice (some ⟨bb, o, none⟩) (t.length + 1) c] w ((RetLn 88 w0 b 9 B (KB b P (.slice a1 P.es.length c1) (.slice a2 P.js.length c2) (.slice a3 P.ss.length c3) (.slice a4 P.ls.length c4) k h0)) (.inl 2)) := by
  have HR : Hid ((.inl 2 : Int ⊕ Dgm) = .inl 2) := rfl
  have tt : (bTurn.toList == [116, 117, 114, 110]) = true := by rw [turnL]; rfl
  obtain ⟨A, HSL, -⟩ := slice_first bb o (t.length + 1) c (by omega) hcap
  rw [Nat.add_sub_cancel] at HSL
  have t3 : ((t.length : Int) != 3) = true := bneT (by omega)
  have hi : (0 : Int) < ((t.length + 1 : Nat) : Int) := by omega
  go_enter Tryz.func87, Tryz.ntmps87
  go_upto_region 3 with fail
  have X0 := XB.new w (.bool false) (.int .i64 0) (.int .i64 0) (.int .i64 0) 54
  have G0 : Gr w (w.alloc (.cells #[.bool false, .int .i64 0, .int .i64 0, .int .i64 0] 54)) := (Gr.refl _).alloc _
  obtain ⟨zx, x0', x1', x2', x3', f0, f1, f2, f3⟩ := X0
  go_region
  go_wp2_with fail
  (go_ret; first | exact RetLn.no rfl (g.trans ((Gr.refl w).alloc _).drew) | exact RetLn.no HR.out (g.trans ((Gr.refl w).alloc _).drew))
theorem four_form {w : World} {v : Value} {x : ByteArray} {t : List ByteArray} (h : IsVals w v ((x :: t).map Value.string)) (hc : CapOk v) : ∃ bb o c, v = .slice (some ⟨bb, o, none⟩) (t.length + 1) c ∧ t.length + 1 ≤ c ∧ bb < w.heap.size ∧ w.cell? ⟨bb, o, none⟩ = some (.string x) ∧ Hid (∀ (i : Nat) (hi : i < t.length), w.cell? ⟨bb, o + 1 + i, none⟩ = some (.string t[i])) := by
  obtain ⟨bb, o, c, rfl, h1, h2, h3⟩ := vals_first h
  exact ⟨bb, o, c, rfl, hc _ _ _ rfl, h1, h2, h3⟩
theorem rdLeg_any (b B k : Nat) (h0 : Option Obj) (v : Value) (L : List ByteArray) (P : Pln) (a1 a2 a3 a4 : Option Addr) (c1 c2 c3 c4 m : Nat) (D : Dgm) (w0 w : World)
    (hP : IsPln w0 (plnV P (.slice a1 P.es.length c1) (.slice a2 P.js.length c2) (.slice a3 P.ss.length c3) (.slice a4 P.ls.length c4)) P) (hb : w0.heap.size ≤ b) (g : Gr w0 w)
    (hKB : KB b P (.slice a1 P.es.length c1) (.slice a2 P.js.length c2) (.slice a3 P.ss.length c3) (.slice a4 P.ls.length c4) k h0 w) (hkB : k < B) (hkb : k ≠ b) (hR : Rd 88 b 9 B w D) (hv : IsVals w v (L.map Value.string)) (hc : CapOk v) (hs : ∀ x ∈ L, x.size ≤ maxLen) (hz : SzD m D) (hm : m ≤ 40000) (hne : L ≠ []) (hll : L.length ≤ 10000000) :
    Calls Tryz.prog 87 #[.pointer (some ⟨b, 0, none⟩), v] w ((RetLn 88 w0 b 9 B (KB b P (.slice a1 P.es.length c1) (.slice a2 P.js.length c2) (.slice a3 P.ss.length c3) (.slice a4 P.ls.length c4) k h0)) (legL P D L)) := by
  cases L with
  | nil => exact absurd rfl hne
  | cons x t =>
    obtain ⟨bb, o, c, rfl, hcap, hbb, y0, ys⟩ := four_form hv hc
    unfold legL
    dsimp only
    simp only [List.length_cons] at hll
    by_cases hx : x = bTurn
    · rw [if_pos hx]
      subst hx
      by_cases hl : t.length = 3
      · obtain ⟨v, tt, n, rfl⟩ := list_three hl
        have s0 := ys.out 0 (by simp)
        have s1 := ys.out 1 (by simp)
        have s2 := ys.out 2 (by simp)
        have e1 : tt.size ≤ maxLen := hs tt (by simp)
        have e2 : n.size ≤ maxLen := hs n (by simp)
        show Calls _ _ _ _ ((RetLn 88 w0 b 9 B (KB b P (.slice a1 P.es.length c1) (.slice a2 P.js.length c2) (.slice a3 P.ss.length c3) (.slice a4 P.ls.length c4) k h0)) (leg3 P D true v tt n))
        by_cases he : D.runs = [] ∨ nmB n = false ∨ clkB tt = false ∨ (v ≠ bGo ∧ v ≠ bGate ∧ v ≠ bBuffer)
        · exact legT_no b B k h0 bb o c v tt n P a1 a2 a3 a4 c1 c2 c3 c4 m D w0 w hP hb g hKB hkB hkb hR hbb y0 s0 s1 s2 hcap e1 e2 hz hm he
        · simp only [not_or, Bool.not_eq_false] at he
          obtain ⟨h1, h2, h3, h4⟩ := he
          by_cases q1 : v = bGo
          · subst q1; exact legT_1 b B k h0 bb o c tt n P a1 a2 a3 a4 c1 c2 c3 c4 m D w0 w hP hb g hKB hkB hkb hR hbb y0 s0 s1 s2 hcap e1 e2 hz hm h1 h2 h3
          by_cases q2 : v = bGate
          · subst q2; exact legT_2 b B k h0 bb o c tt n P a1 a2 a3 a4 c1 c2 c3 c4 m D w0 w hP hb g hKB hkB hkb hR hbb y0 s0 s1 s2 hcap e1 e2 hz hm h1 h2 h3
          by_cases q3 : v = bBuffer
          · subst q3; exact legT_3 b B k h0 bb o c tt n P a1 a2 a3 a4 c1 c2 c3 c4 m D w0 w hP hb g hKB hkB hkb hR hbb y0 s0 s1 s2 hcap e1 e2 hz hm h1 h2 h3
          · exact absurd ⟨q1, q2, q3⟩ h4
      · rw [legW_len hl]
        exact legT_len b B k h0 bb o c t P a1 a2 a3 a4 c1 c2 c3 c4 D w0 w g hbb y0 hcap hl (by omega)
    · rw [if_neg hx]
      by_cases hl : t.length + 1 = 3
      · obtain ⟨tt, n, rfl⟩ := list_two (show t.length = 2 by omega)
        have s0 := ys.out 0 (by simp)
        have s1 := ys.out 1 (by simp)
        have e1 : tt.size ≤ maxLen := hs tt (by simp)
        have e2 : n.size ≤ maxLen := hs n (by simp)
        show Calls _ _ _ _ ((RetLn 88 w0 b 9 B (KB b P (.slice a1 P.es.length c1) (.slice a2 P.js.length c2) (.slice a3 P.ss.length c3) (.slice a4 P.ls.length c4) k h0)) (leg3 P D false x tt n))
        by_cases he : D.runs = [] ∨ nmB n = false ∨ clkB tt = false ∨ (x ≠ bGo ∧ x ≠ bGate ∧ x ≠ bBuffer)
        · exact legF_no b B k h0 bb o c x tt n P a1 a2 a3 a4 c1 c2 c3 c4 m D w0 w hP hb g hKB hkB hkb hR hbb y0 s0 s1 hx hcap e1 e2 hz hm he
        · simp only [not_or, Bool.not_eq_false] at he
          obtain ⟨h1, h2, h3, h4⟩ := he
          by_cases q1 : x = bGo
          · subst q1; exact legF_1 b B k h0 bb o c tt n P a1 a2 a3 a4 c1 c2 c3 c4 m D w0 w hP hb g hKB hkB hkb hR hbb y0 s0 s1 hcap e1 e2 hz hm h1 h2 h3
          by_cases q2 : x = bGate
          · subst q2; exact legF_2 b B k h0 bb o c tt n P a1 a2 a3 a4 c1 c2 c3 c4 m D w0 w hP hb g hKB hkB hkb hR hbb y0 s0 s1 hcap e1 e2 hz hm h1 h2 h3
          by_cases q3 : x = bBuffer
          · subst q3; exact legF_3 b B k h0 bb o c tt n P a1 a2 a3 a4 c1 c2 c3 c4 m D w0 w hP hb g hKB hkB hkb hR hbb y0 s0 s1 hcap e1 e2 hz hm h1 h2 h3
          · exact absurd ⟨q1, q2, q3⟩ h4
      · rw [legW_len (by simpa using hl)]
        exact legF_len b B k h0 bb o c x t P a1 a2 a3 a4 c1 c2 c3 c4 D w0 w g hbb y0 hx hl (by omega)
end Go.Proofs.YtgjnlgcdpbilfaaGreatDoor
namespace Go.Proofs.YtgjnlgcdpbilfaaGreatDoor
open Go.ChangeShapes Go.WideShapes Go.ChangeAt Go.RowKit Go.Maps
set_option linter.unusedVariables false
set_option linter.unusedSimpArgs false
set_option maxRecDepth 100000 in
set_option maxHeartbeats 4000000 in
theorem rdTrain_any (b B k : Nat) (h0 : Option Obj) (v : Value) (L : List ByteArray) (P : Pln) (a1 a2 a3 a4 : Option Addr) (c1 c2 c3 c4 m : Nat) (D : Dgm) (w0 w : World)
    (hP : IsPln w0 (plnV P (.slice a1 P.es.length c1) (.slice a2 P.js.length c2) (.slice a3 P.ss.length c3) (.slice a4 P.ls.length c4)) P) (hb : w0.heap.size ≤ b) (g : Gr w0 w)
    (hKB : KB b P (.slice a1 P.es.length c1) (.slice a2 P.js.length c2) (.slice a3 P.ss.length c3) (.slice a4 P.ls.length c4) k h0 w) (hkB : k < B) (hkb : k ≠ b) (hR : Rd 88 b 9 B w D) (hv : IsVals w v (L.map Value.string)) (hc : CapOk v) (hs : ∀ x ∈ L, x.size ≤ maxLen) (hz : SzD m D) (hm : m ≤ 40000) :
    Calls Tryz.prog 86 #[.pointer (some ⟨b, 0, none⟩), v] w (RetLn 88 w0 b 9 B (KB b P (.slice a1 P.es.length c1) (.slice a2 P.js.length c2) (.slice a3 P.ss.length c3) (.slice a4 P.ls.length c4) k h0) (trainW P D L)) := by
  have HV := Lib.hid hv
  obtain ⟨a, c, rfl, hlm, -⟩ := hv
  rw [List.length_map] at HV hlm hc ⊢
  unfold maxLen at hlm
  by_cases h5 : L.length = 5
  rotate_left
  · have HR := Lib.hid (train_len (P := P) (D := D) h5)
    have t5 : ((L.length : Int) != 5) = true := bneT (by omega)
    clear h5 hc
    go_enter Tryz.func86, Tryz.ntmps86
    go_wp2_with fail
    (go_ret; exact RetLn.no HR.out g)
  have hcap := hc _ _ _ rfl
  obtain ⟨x0, x1, x2, x3, x4, rfl⟩ := list_five h5
  have hne := HV.out
  obtain ⟨a', c', e', _, hx⟩ := hne
  simp only [Value.slice.injEq] at e'
  obtain ⟨rfl, -, rfl⟩ := e'
  rcases hx with hx | ⟨bb, o, rfl, -, -⟩
  · cases hx
  obtain ⟨z, y0, y1, y2, y3, y4, hv1⟩ := vals_five HV.out
  have HV1 := Lib.hid hv1
  have HN1 := Lib.hid (fun w' => name_any x1 (hs x1 (by simp)) w')
  have HN2 := Lib.hid (fun w' => name_any x2 (hs x2 (by simp)) w')
  have HN3 := Lib.hid (fun w' => name_any x3 (hs x3 (by simp)) w')
  have HNU0 := Lib.hid (fun (w' : World) (g : Gr w w') => hnums_any _ [x4] w' (hv1.gr g) (fun x hx => hs x (by simp only [List.mem_cons, List.not_mem_nil, or_false] at hx ⊢; exact .inr (.inr (.inr (.inr hx))))) (by simp))
  rw [nums_one] at HNU0
  have HSL := slice_fourth bb o c hcap
  have HNO := Lib.hid (fun (h : nmB x1 = false ∨ nmB x2 = false ∨ nmB x3 = false ∨ numB x4 4 = false) => train5_no (P := P) (D := D) h)
  have HAT := Lib.hid (fun h1 h2 h3 h4 => train5_at (P := P) (D := D) (n := x1) (k := x2) (s := x3) (d := x4) h1 h2 h3 h4)
  have HE : Hid (trainW P D [x0, x1, x2, x3, x4] = train5 P D x1 x2 x3 x4) := rfl
  rw [HE.out]
  generalize train5 P D x1 x2 x3 x4 = R at HNO HAT ⊢
  dsimp only [List.length] at *
  clear hv1 hs hc h5 HE
  generalize nmB x1 = q1 at HN1 HNO HAT
  generalize nmB x2 = q2 at HN2 HNO HAT
  generalize nmB x3 = q3 at HN3 HNO HAT
  cases q1
  · have HR := Lib.hid (HNO.out (by simp))
    clear HNO HAT
    go_enter Tryz.func86, Tryz.ntmps86
    go_wp2_with (first | (go_at_call 72; first | (with_reducible refine (HN1.out _).mono ?_; rintro e w3 ⟨rfl, hq⟩; obtain rfl := hq.symm) | (with_reducible refine (HN2.out _).mono ?_; rintro e w3 ⟨rfl, hq⟩; obtain rfl := hq.symm) | (with_reducible refine (HN3.out _).mono ?_; rintro e w3 ⟨rfl, hq⟩; obtain rfl := hq.symm)) | fail)
    (go_ret; exact RetLn.no HR.out g)
  cases q2
  · have HR := Lib.hid (HNO.out (by simp))
    clear HNO HAT
    go_enter Tryz.func86, Tryz.ntmps86
    go_wp2_with (first | (go_at_call 72; first | (with_reducible refine (HN1.out _).mono ?_; rintro e w3 ⟨rfl, hq⟩; obtain rfl := hq.symm) | (with_reducible refine (HN2.out _).mono ?_; rintro e w3 ⟨rfl, hq⟩; obtain rfl := hq.symm) | (with_reducible refine (HN3.out _).mono ?_; rintro e w3 ⟨rfl, hq⟩; obtain rfl := hq.symm)) | fail)
    (go_ret; exact RetLn.no HR.out g)
  cases q3
  · have HR := Lib.hid (HNO.out (by simp))
    clear HNO HAT
    go_enter Tryz.func86, Tryz.ntmps86
    go_wp2_with (first | (go_at_call 72; first | (with_reducible refine (HN1.out _).mono ?_; rintro e w3 ⟨rfl, hq⟩; obtain rfl := hq.symm) | (with_reducible refine (HN2.out _).mono ?_; rintro e w3 ⟨rfl, hq⟩; obtain rfl := hq.symm) | (with_reducible refine (HN3.out _).mono ?_; rintro e w3 ⟨rfl, hq⟩; obtain rfl := hq.symm)) | fail)
    (go_ret; exact RetLn.no HR.out g)
  by_cases h4 : numB x4 4 = true
  rotate_left
  · rw [if_neg h4] at HNU0
    have HR := Lib.hid (HNO.out (.inr (.inr (.inr (by simpa using h4)))))
    have HNU : Hid (∀ w', Gr w w' → Calls Tryz.prog 115 #[.slice (some ⟨bb, o + 4, none⟩) 1 (c - 4)] w' fun e w'' => ∃ v, e = .returned (.tuple #[v, .bool false]) ∧ Gr w' w'') := fun w' g => (HNU0.out w' g).mono fun e w2 ⟨v, he, _, hg⟩ => ⟨v, he, hg⟩
    clear HNO HAT HNU0 h4
    go_enter Tryz.func86, Tryz.ntmps86
    go_wp2_with (first | (go_at_call 72; first | (with_reducible refine (HN1.out _).mono ?_; rintro e w3 ⟨rfl, hq⟩; obtain rfl := hq.symm) | (with_reducible refine (HN2.out _).mono ?_; rintro e w3 ⟨rfl, hq⟩; obtain rfl := hq.symm) | (with_reducible refine (HN3.out _).mono ?_; rintro e w3 ⟨rfl, hq⟩; obtain rfl := hq.symm)) | (go_at_call 115; (with_reducible refine (HNU.out _ (Gr.refl _)).mono ?_); rintro e w4 ⟨v4, rfl, g4⟩) | fail)
    go_ret
    exact RetLn.no HR.out (g.trans g4)
  rw [if_pos h4] at HNU0
  have HNU : Hid (∀ w', Gr w w' → Calls Tryz.prog 115 #[.slice (some ⟨bb, o + 4, none⟩) 1 (c - 4)] w' fun e w'' => ∃ v, e = .returned (.tuple #[v, .bool true]) ∧ IsVals w'' v ([numN x4 4].map (Value.int .i64)) ∧ Gr w' w'') := HNU0.out
  have HA := Lib.hid (HAT.out rfl rfl rfl h4)
  clear HNO HAT HNU0 h4
  generalize numN x4 4 = n4 at HNU HA
  obtain ⟨sv, rv, hbx, hbB, A, M, k1, k2, k3, k4, k5, k6⟩ := hR
  have HKB := Lib.hid hKB
  have hB := hKB.1
  have hst : D.st.length ≤ maxLen := by have := hz.1; unfold maxLen; omega
  have HFD := Lib.hid (fun (w' : World) (g : Gr w w') => stFind_any sv D.st x2 w' ((k1.stks hst).gr g))
  have HSG := Lib.hid (fun (w' : World) (g : Gr w w') => sig_any _ P x3 w' (hP.gr (‹Gr w0 w›.trans g)))
  obtain ⟨sa, sc, rfl⟩ := own_form k1
  obtain ⟨ra, rc, rfl⟩ := own_form k2
  have hAl : A.length = D.runs.length := by rw [← k4]; simp
  have hAl2 : A.length ≤ 40000 := by have := hz.2.1; omega
  clear hAl
  have HBX := Lib.hid hbx
  have HPB := Lib.hid hB
  have K1 := Lib.hid k1
  have K2 := Lib.hid k2
  have K3 := Lib.hid k3
  have zb := hB.1
  obtain ⟨-, d0, d1, d2⟩ := hbx
  have hG := Lib.hid g
  have hfar := bx_far HBX.out k2 (by decide)
  generalize findN D.st x2 = fk at HFD HA
  generalize sigN P x3 = fs at HSG HA
  unfold plnV at HSG
  have K4 := Lib.hid k4
  clear hst k1 k2 k3 k4 hB hKB hz hP g
  go_enter Tryz.func86, Tryz.ntmps86
  go_wp2_with (first | (go_at_call 72; first | (with_reducible refine (HN1.out _).mono ?_; rintro e w3 ⟨rfl, hq⟩; obtain rfl := hq.symm) | (with_reducible refine (HN2.out _).mono ?_; rintro e w3 ⟨rfl, hq⟩; obtain rfl := hq.symm) | (with_reducible refine (HN3.out _).mono ?_; rintro e w3 ⟨rfl, hq⟩; obtain rfl := hq.symm)) | (go_at_call 115; (with_reducible refine (HNU.out _ (Gr.refl _)).mono ?_); rintro e w4 ⟨v4, rfl, hv4, g4⟩; obtain ⟨b4, o4, cc4, rfl, z4, m0⟩ := one_val hv4; have y1 := (g4.cell _ _ z).trans y1; have y2 := (g4.cell _ _ z).trans y2; have y3 := (g4.cell _ _ z).trans y3; have d1 := (g4.cell _ _ zb).trans d1; have d2 := (g4.cell _ _ zb).trans d2; clear hv4) | fail)
  have zb4 := Nat.lt_of_lt_of_le zb g4.size
  have z44 := Nat.lt_of_lt_of_le z g4.size
  have hcb := fun (i : GrW w4) (o : Nat) => GrW.cell zb4 i o
  have hc1 := fun (i : GrW w4) (o : Nat) => GrW.cell z44 i o
  obtain ⟨-, p0, p1, p2, p3, p4, p5, p6, p7, p8⟩ := HPB.out.gr g4
  (refine wp_region_gr (by kernel_rfl) (by kernel_rfl) ?_; (repeat (go_big_quiet_step ((first | (go_at_call 116; exact Calls.gr_of (HFD.out _ (g4.trans (GrW.gr _)))) | (go_at_call 117; exact Calls.gr_of (HSG.out _ (g4.trans (GrW.gr _)))))))); refine wpQuiet_nil ?_; intro wz hz; obtain ⟨iz, hz⟩ := hz; obtain ⟨wn, gn⟩ := iz; dsimp only at hz; obtain rfl := hz.symm)
  clear hcb hc1 p0 p1 p2 p3 p4 p5 p6 p7 p8
  have GN := g4.trans gn
  have GA := hG.out.trans GN
  by_cases hn1 : fk < 0
  · have HR : Hid (R = .inl 5) := by show _ = _; rw [HA.out, if_pos (.inl hn1)]
    go_wp2_with fail
    go_ret
    exact RetLn.no HR.out GA
  by_cases hn2 : fs < 0
  · have HR : Hid (R = .inl 5) := by show _ = _; rw [HA.out, if_pos (.inr hn2)]
    go_wp2_with fail
    go_ret
    exact RetLn.no HR.out GA
  have HR := HA.out
  rw [if_neg (by omega)] at HR
  have HRR := Lib.hid HR
  clear HR HA
  obtain ⟨i0, hi0, hi1, hi2, hi3⟩ := info_parts Tryz.infoRn
  have zbn := Nat.lt_of_lt_of_le zb GN.size
  have zzn := Nat.lt_of_lt_of_le z GN.size
  have z4n := Nat.lt_of_lt_of_le z4 gn.size
  have y1 := (gn.cell _ _ z44).trans y1
  have m0 := (gn.cell _ _ z4).trans m0
  have d2 := (gn.cell _ _ zb4).trans d2
  have hfz := (HBX.out.gr GN).frozen 11
  have hst2 : B ≤ wn.heap.size := Nat.le_trans k6 (Nat.le_trans k5 GN.size)
  have KK2 := Lib.hid (own_gr K2.out GN)
  clear y2 y3 d1
  go_upto_region 9 with fail
  go_region_law (refine step_append_lies _ (by rfl) _ _ _ (by rfl) B 51 i0 _ 5 64 Tryz.underlying29 hi0 hi1 hi2 hi3 rfl (by omega) (.slice ra A.length rc) A.length (runCs A) (by rfl) ((KK2.out.alloc _).drew) ⟨wn.heap.size, 0, none⟩ 1 1 [.string x1, .int .i64 fk, .int .i64 fs, .int .i64 n4, .slice none 0 0] (by rfl) (by rfl) (World.news_of_block (cs := #[.string x1, .int .i64 fk, .int .i64 fs, .int .i64 n4, .slice none 0 0]) (t := 51) (fr := (0, 0)) (heap_alloc_new wn _)) (by simp [Value.oneCell']) (by omega) (by unfold maxLen; omega) (by omega) (by simp; omega) (wn.heap.size + 1) (by simp) ?_; intro gg cap w9 hown hgrow hat hlt; have d2x := (hgrow.cell_far ⟨b, 11, none⟩ (by simp; omega) (by simpa using Ne.symm hfar)); have f2x := (hgrow.frozen_far ⟨b, 11, none⟩ (by simp; omega) (by simpa using Ne.symm hfar)))
  all_goals go_wp2_with fail
  all_goals
    go_ret
    exact train_end (r := ⟨x1, fk, fs, n4, []⟩) (by decide) HBX.out K1.out K2.out K3.out K4.out k5 k6 hbB hkB hkb HKB.out hG.out hb (GN.trans ((Gr.refl wn).alloc _).drew) rfl HRR.out hgrow hown
end Go.Proofs.YtgjnlgcdpbilfaaGreatDoor
namespace Go.Proofs.YtgjnlgcdpbilfaaGreatDoor
open Go.ChangeShapes Go.WideShapes Go.ChangeAt Go.RowKit
set_option linter.unusedVariables false
set_option linter.unusedSimpArgs false
end Go.Proofs.YtgjnlgcdpbilfaaGreatDoor
namespace Go.Proofs.YtgjnlgcdpbilfaaGreatDoor
open Go.ChangeShapes Go.WideShapes Go.ChangeAt Go.RowKit Go.Maps
set_option linter.unusedVariables false
set_option linter.unusedSimpArgs false
end Go.Proofs.YtgjnlgcdpbilfaaGreatDoor
namespace Go.Proofs.YtgjnlgcdpbilfaaGreatDoor
open Go.ChangeShapes Go.WideShapes Go.ChangeAt Go.RowKit Go.Maps
set_option linter.unusedVariables false
set_option linter.unusedSimpArgs false
def SeenI (l : List Int) (f : Value → Option Value) : Prop := ∀ x : Int, (x ∈ l → f (.int .i64 x) = some (.bool true)) ∧ (x ∉ l → f (.int .i64 x) = none)
theorem SeenI.nil : SeenI [] (fun _ => none) := fun x => ⟨fun h => (List.not_mem_nil h).elim, fun _ => rfl⟩
theorem SeenI.put {l : List Int} {f : Value → Option Value} (h : SeenI l f) (x : Int) : SeenI (l ++ [x]) (put f (.int .i64 x) (.bool true)) := by
  intro y
  by_cases e : y = x
  · subst e; rw [put_self]; simp
  · rw [put_else _ (fun h => e (by injection h))]
    have h1 := h y
    simp only [List.mem_append, List.mem_singleton, e, or_false]
    exact h1
end Go.Proofs.YtgjnlgcdpbilfaaGreatDoor
namespace Go.Proofs.YtgjnlgcdpbilfaaGreatDoor
open Go.ChangeShapes Go.WideShapes Go.ChangeAt Go.RowKit
set_option linter.unusedVariables false
set_option linter.unusedSimpArgs false
end Go.Proofs.YtgjnlgcdpbilfaaGreatDoor
namespace Go.Proofs.YtgjnlgcdpbilfaaGreatDoor
open Go.ChangeShapes Go.WideShapes Go.ChangeAt Go.RowKit Go.Maps
set_option linter.unusedVariables false
set_option linter.unusedSimpArgs false
def MapFn (l : List Jn) (w : World) (b n : Nat) (f : Value → Option Value) : Prop := MapIs Tryz.prog 79 w b n f ∧ FnL l f
theorem MapFn.gr {l : List Jn} {w w' : World} {b n : Nat} {f : Value → Option Value} (h : MapFn l w b n f) (g : Gr w w') : MapFn l w' b n f := ⟨h.1.gr g, h.2⟩
end Go.Proofs.YtgjnlgcdpbilfaaGreatDoor
namespace Go.Proofs.YtgjnlgcdpbilfaaGreatDoor
open Go.ChangeShapes Go.WideShapes Go.ChangeAt Go.RowKit
set_option linter.unusedVariables false
set_option linter.unusedSimpArgs false
attribute [local go_sem ↓] Go.wp_at_zero Go.wp_at_succ
end Go.Proofs.YtgjnlgcdpbilfaaGreatDoor
namespace Go.Proofs.YtgjnlgcdpbilfaaGreatDoor
open Go.ChangeShapes Go.WideShapes Go.ChangeAt Go.RowKit Go.Maps
set_option linter.unusedVariables false
set_option linter.unusedSimpArgs false
attribute [local go_sem ↓] Go.wp_at_zero Go.wp_at_succ
end Go.Proofs.YtgjnlgcdpbilfaaGreatDoor
namespace Go.Proofs.YtgjnlgcdpbilfaaGreatDoor
open Go.ChangeShapes Go.WideShapes Go.ChangeAt Go.RowKit Go.Maps
set_option linter.unusedVariables false
set_option linter.unusedSimpArgs false
end Go.Proofs.YtgjnlgcdpbilfaaGreatDoor
namespace Go.Proofs.YtgjnlgcdpbilfaaGreatDoor
open Go.ChangeShapes Go.WideShapes Go.ChangeAt Go.RowKit Go.Maps
set_option linter.unusedVariables false
set_option linter.unusedSimpArgs false
def smallP : Pln where
  es := [⟨⟨#[87]⟩, 4, 0⟩, ⟨⟨#[65]⟩, 1, 20⟩, ⟨⟨#[80]⟩, 2, 10⟩, ⟨⟨#[66]⟩, 1, 20⟩, ⟨⟨#[67]⟩, 1, 30⟩, ⟨⟨#[69]⟩, 4, 0⟩]
  js := [⟨⟨0, 0⟩, ⟨1, 0⟩⟩, ⟨⟨1, 1⟩, ⟨2, 0⟩⟩, ⟨⟨2, 1⟩, ⟨3, 0⟩⟩, ⟨⟨3, 1⟩, ⟨5, 0⟩⟩, ⟨⟨2, 2⟩, ⟨4, 0⟩⟩]
  ss := [⟨⟨#[119]⟩, ⟨0, 0⟩, false⟩, ⟨⟨#[97]⟩, ⟨1, 1⟩, false⟩, ⟨⟨#[101]⟩, ⟨5, 0⟩, false⟩, ⟨⟨#[98]⟩, ⟨3, 0⟩, false⟩, ⟨⟨#[99]⟩, ⟨4, 0⟩, false⟩]
  ls := []
  top := 10
  brake := 5
  margin := 15
  throw := 2
  hard := false
theorem join_any (a x b y : Int) (w : World) :
    Calls Tryz.prog 60 #[.int .i64 a, .int .i64 x, .int .i64 b, .int .i64 y] w fun e w' => e = .returned (.agg #[.int .i64 a, .int .i64 x, .int .i64 b, .int .i64 y]) ∧ Gr w w' := by
  go_enter Tryz.func60, Tryz.ntmps60
  go_wp2_with fail
  refine bodyPost_ret (v := .agg #[.int .i64 a, .int .i64 x, .int .i64 b, .int .i64 y]) (by simp [results, Tryz.results60, go_sem]) rfl ⟨rfl, ?_⟩
  exact (Gr.refl _).alloc _
theorem IsRow.setc {w : World} {v : Value} {sz n b o : Nat} {C : Nat → Nat → Value} (h : IsRow w v sz n C) (hne : ∀ bq, v.ownBlock = some bq → bq ≠ b) (u : Value) : IsRow (w.setCell ⟨b, o, none⟩ u) v sz n C := by
  obtain ⟨a, c, rfl, hm, hx⟩ := h
  refine ⟨a, c, rfl, hm, ?_⟩
  rcases hx with hx | ⟨bb, off, rfl, hb, hc⟩
  · exact .inl hx
  · refine .inr ⟨bb, off, rfl, by simpa using hb, fun i j hi hj => ?_⟩
    have hn := hne bb rfl
    rw [World.cell?_setCell_other _ _ _ _ (by intro e; exact hn (by injection e with e1; exact e1.symm))]
    exact hc i j hi hj
theorem row_lit {w : World} {T : TypeId} {cs : Array Value} {sz n c g : Nat} {C : Nat → Nat → Value} (hg : g = w.heap.size) (hm : n ≤ maxLen) (h : ∀ i j, i < n → j < sz → cs[i * sz + j]? = some (C i j)) : IsRow (w.alloc (.cells cs T)) (.slice (some ⟨g, 0, none⟩) n c) sz n C := by
  subst hg
  refine ⟨_, c, rfl, hm, .inr ⟨w.heap.size, 0, rfl, by simp, fun i j hi hj => ?_⟩⟩
  rw [World.cell?_alloc_mark]
  simpa using h i j hi hj
theorem row_es : ∀ i j, i < 6 → j < 3 → (#[Value.string ⟨#[87]⟩, .int .i64 4, .int .i64 0, .string ⟨#[65]⟩, .int .i64 1, .int .i64 20, .string ⟨#[80]⟩, .int .i64 2, .int .i64 10, .string ⟨#[66]⟩, .int .i64 1, .int .i64 20, .string ⟨#[67]⟩, .int .i64 1, .int .i64 30, .string ⟨#[69]⟩, .int .i64 4, .int .i64 0] : Array Value)[i * 3 + j]? = some ((smallP.es.getD i default).c j) := by
  intro i j hi hj
  have h1 : i = 0 ∨ i = 1 ∨ i = 2 ∨ i = 3 ∨ i = 4 ∨ i = 5 := by omega
  have h2 : j = 0 ∨ j = 1 ∨ j = 2 := by omega
  rcases h1 with rfl | rfl | rfl | rfl | rfl | rfl <;> rcases h2 with rfl | rfl | rfl <;> rfl
theorem row_js : ∀ i j, i < 5 → j < 4 → (#[Value.int .i64 0, .int .i64 0, .int .i64 1, .int .i64 0, .int .i64 1, .int .i64 1, .int .i64 2, .int .i64 0, .int .i64 2, .int .i64 1, .int .i64 3, .int .i64 0, .int .i64 3, .int .i64 1, .int .i64 5, .int .i64 0, .int .i64 2, .int .i64 2, .int .i64 4, .int .i64 0] : Array Value)[i * 4 + j]? = some ((smallP.js.getD i default).c j) := by
  intro i j hi hj
  have h1 : i = 0 ∨ i = 1 ∨ i = 2 ∨ i = 3 ∨ i = 4 := by omega
  have h2 : j = 0 ∨ j = 1 ∨ j = 2 ∨ j = 3 := by omega
  rcases h1 with rfl | rfl | rfl | rfl | rfl <;> rcases h2 with rfl | rfl | rfl | rfl <;> rfl
theorem row_ss : ∀ i j, i < 5 → j < 4 → (#[Value.string ⟨#[119]⟩, .int .i64 0, .int .i64 0, .bool false, .string ⟨#[97]⟩, .int .i64 1, .int .i64 1, .bool false, .string ⟨#[101]⟩, .int .i64 5, .int .i64 0, .bool false, .string ⟨#[98]⟩, .int .i64 3, .int .i64 0, .bool false, .string ⟨#[99]⟩, .int .i64 4, .int .i64 0, .bool false] : Array Value)[i * 4 + j]? = some ((smallP.ss.getD i default).c j) := by
  intro i j hi hj
  have h1 : i = 0 ∨ i = 1 ∨ i = 2 ∨ i = 3 ∨ i = 4 := by omega
  have h2 : j = 0 ∨ j = 1 ∨ j = 2 ∨ j = 3 := by omega
  rcases h1 with rfl | rfl | rfl | rfl | rfl <;> rcases h2 with rfl | rfl | rfl | rfl <;> rfl
theorem wx_size (w5 : World) (b : Nat) (E J S : Value) : (((((((((((w5.setCell ⟨b + 1, 1, none⟩ J).setCell ⟨b + 1, 2, none⟩ S).setCell ⟨b, 0, none⟩ E).setCell ⟨b, 1, none⟩ J).setCell ⟨b, 2, none⟩ S).setCell ⟨b, 3, none⟩ (.slice none 0 0)).setCell ⟨b, 4, none⟩ (.int .i64 10)).setCell ⟨b, 5, none⟩ (.int .i64 5)).setCell ⟨b, 6, none⟩ (.int .i64 15)).setCell ⟨b, 7, none⟩ (.int .i64 2)).setCell ⟨b, 8, none⟩ (.bool false)).heap.size = w5.heap.size := by simp
set_option maxRecDepth 100000 in
set_option maxHeartbeats 2000000 in
theorem small_any (w : World) : Calls Tryz.prog 25 #[] w fun e w' => ∃ v, e = .returned v ∧ IsPln w' v smallP ∧ Gr w w' := by
  have hR : Gr w (((w.alloc (.cells #[.slice none 0 0, .slice none 0 0, .slice none 0 0, .slice none 0 0, .int .i64 0, .int .i64 0, .int .i64 0, .int .i64 0, .bool false] 27)).alloc (.cells #[.slice (some ⟨w.heap.size + 1 + 1, 0, none⟩) 6 6, .slice none 0 0, .slice none 0 0, .slice none 0 0, .int .i64 10, .int .i64 5, .int .i64 15, .int .i64 2, .bool false] 27)).alloc (.cells #[.string ⟨#[87]⟩, .int .i64 4, .int .i64 0, .string ⟨#[65]⟩, .int .i64 1, .int .i64 20, .string ⟨#[80]⟩, .int .i64 2, .int .i64 10, .string ⟨#[66]⟩, .int .i64 1, .int .i64 20, .string ⟨#[67]⟩, .int .i64 1, .int .i64 30, .string ⟨#[69]⟩, .int .i64 4, .int .i64 0] 85)) := (((Gr.refl w).alloc _).alloc _).alloc _
  have HSC : Hid (∀ w', Gr (((w.alloc (.cells #[.slice none 0 0, .slice none 0 0, .slice none 0 0, .slice none 0 0, .int .i64 0, .int .i64 0, .int .i64 0, .int .i64 0, .bool false] 27)).alloc (.cells #[.slice (some ⟨w.heap.size + 1 + 1, 0, none⟩) 6 6, .slice none 0 0, .slice none 0 0, .slice none 0 0, .int .i64 10, .int .i64 5, .int .i64 15, .int .i64 2, .bool false] 27)).alloc (.cells #[.string ⟨#[87]⟩, .int .i64 4, .int .i64 0, .string ⟨#[65]⟩, .int .i64 1, .int .i64 20, .string ⟨#[80]⟩, .int .i64 2, .int .i64 10, .string ⟨#[66]⟩, .int .i64 1, .int .i64 20, .string ⟨#[67]⟩, .int .i64 1, .int .i64 30, .string ⟨#[69]⟩, .int .i64 4, .int .i64 0] 85)) w' → w.heap.size + 1 + 1 < w'.heap.size ∧ w'.cell? ⟨w.heap.size, 0, none⟩ = some (Value.slice none 0 0) ∧ w'.cell? ⟨w.heap.size, 1, none⟩ = some (Value.slice none 0 0) ∧ w'.cell? ⟨w.heap.size, 2, none⟩ = some (Value.slice none 0 0) ∧ w'.cell? ⟨w.heap.size, 3, none⟩ = some (Value.slice none 0 0) ∧ w'.cell? ⟨w.heap.size, 4, none⟩ = some (Value.int .i64 0) ∧ w'.cell? ⟨w.heap.size, 5, none⟩ = some (Value.int .i64 0) ∧ w'.cell? ⟨w.heap.size, 6, none⟩ = some (Value.int .i64 0) ∧ w'.cell? ⟨w.heap.size, 7, none⟩ = some (Value.int .i64 0) ∧ w'.cell? ⟨w.heap.size, 8, none⟩ = some (Value.bool false) ∧ w'.cell? ⟨w.heap.size + 1, 0, none⟩ = some (Value.slice (some ⟨w.heap.size + 1 + 1, 0, none⟩) 6 6) ∧ w'.cell? ⟨w.heap.size + 1, 1, none⟩ = some (Value.slice none 0 0) ∧ w'.cell? ⟨w.heap.size + 1, 2, none⟩ = some (Value.slice none 0 0) ∧ w'.cell? ⟨w.heap.size + 1, 3, none⟩ = some (Value.slice none 0 0) ∧ w'.cell? ⟨w.heap.size + 1, 4, none⟩ = some (Value.int .i64 10) ∧ w'.cell? ⟨w.heap.size + 1, 5, none⟩ = some (Value.int .i64 5) ∧ w'.cell? ⟨w.heap.size + 1, 6, none⟩ = some (Value.int .i64 15) ∧ w'.cell? ⟨w.heap.size + 1, 7, none⟩ = some (Value.int .i64 2) ∧ w'.cell? ⟨w.heap.size + 1, 8, none⟩ = some (Value.bool false) ∧ w'.frozen? ⟨w.heap.size, 0, none⟩ = false ∧ w'.frozen? ⟨w.heap.size, 1, none⟩ = false ∧ w'.frozen? ⟨w.heap.size, 2, none⟩ = false ∧ w'.frozen? ⟨w.heap.size, 3, none⟩ = false ∧ w'.frozen? ⟨w.heap.size, 4, none⟩ = false ∧ w'.frozen? ⟨w.heap.size, 5, none⟩ = false ∧ w'.frozen? ⟨w.heap.size, 6, none⟩ = false ∧ w'.frozen? ⟨w.heap.size, 7, none⟩ = false ∧ w'.frozen? ⟨w.heap.size, 8, none⟩ = false ∧ w'.frozen? ⟨w.heap.size + 1, 1, none⟩ = false ∧ w'.frozen? ⟨w.heap.size + 1, 2, none⟩ = false) := by
    intro w' g
    have hz : w.heap.size + 1 + 1 < ((((w.alloc (.cells #[.slice none 0 0, .slice none 0 0, .slice none 0 0, .slice none 0 0, .int .i64 0, .int .i64 0, .int .i64 0, .int .i64 0, .bool false] 27)).alloc (.cells #[.slice (some ⟨w.heap.size + 1 + 1, 0, none⟩) 6 6, .slice none 0 0, .slice none 0 0, .slice none 0 0, .int .i64 10, .int .i64 5, .int .i64 15, .int .i64 2, .bool false] 27)).alloc (.cells #[.string ⟨#[87]⟩, .int .i64 4, .int .i64 0, .string ⟨#[65]⟩, .int .i64 1, .int .i64 20, .string ⟨#[80]⟩, .int .i64 2, .int .i64 10, .string ⟨#[66]⟩, .int .i64 1, .int .i64 20, .string ⟨#[67]⟩, .int .i64 1, .int .i64 30, .string ⟨#[69]⟩, .int .i64 4, .int .i64 0] 85))).heap.size := by simp
    refine ⟨Nat.lt_of_lt_of_le hz g.size, ?_, ?_, ?_, ?_, ?_, ?_, ?_, ?_, ?_, ?_, ?_, ?_, ?_, ?_, ?_, ?_, ?_, ?_, ?_, ?_, ?_, ?_, ?_, ?_, ?_, ?_, ?_, ?_, ?_⟩
    all_goals first
      | exact (g.cell _ _ (by omega)).trans (by go_simp)
      | exact (g.frozen _ _ (by omega)).trans (by go_simp)
  go_enter Tryz.func25, Tryz.ntmps25
  go_wp2_with fail
  refine (join_any _ _ _ _ _).mono ?_
  rintro e w1 ⟨rfl, g1⟩
  go_wp2_with fail
  refine (join_any _ _ _ _ _).mono ?_
  rintro e w2 ⟨rfl, g2⟩
  go_wp2_with fail
  refine (join_any _ _ _ _ _).mono ?_
  rintro e w3 ⟨rfl, g3⟩
  go_wp2_with fail
  refine (join_any _ _ _ _ _).mono ?_
  rintro e w4 ⟨rfl, g4⟩
  go_wp2_with fail
  refine (join_any _ _ _ _ _).mono ?_
  rintro e w5 ⟨rfl, g5⟩
  have gg := (((g1.trans g2).trans g3).trans g4).trans g5
  obtain ⟨z5, r0, r1, r2, r3, r4, r5, r6, r7, r8, p0, p1, p2, p3, p4, p5, p6, p7, p8, f0, f1, f2, f3, f4, f5, f6, f7, f8, k1, k2⟩ := HSC.out _ gg
  have za : w.heap.size < w5.heap.size := by omega
  have zb : w.heap.size + 1 < w5.heap.size := by omega
  go_wp2_with fail
  refine bodyPost_ret (v := plnV smallP (.slice (some ⟨w.heap.size + 1 + 1, 0, none⟩) 6 6) (.slice (some ⟨w5.heap.size, 0, none⟩) 5 5) (.slice (some ⟨w5.heap.size + 1, 0, none⟩) 5 5) (.slice none 0 0)) (by simp [results, Tryz.results25, go_sem, r0, r1, r2, r3, r4, r5, r6, r7, r8, f0, f1, f2, f3, f4, f5, f6, f7, f8, za]; rfl) rfl ?_
  have hE : IsRow w5 (.slice (some ⟨w.heap.size + 1 + 1, 0, none⟩) 6 6) 3 6 (fun i j => (smallP.es.getD i default).c j) :=
    (row_lit (w := ((w.alloc (.cells #[.slice none 0 0, .slice none 0 0, .slice none 0 0, .slice none 0 0, .int .i64 0, .int .i64 0, .int .i64 0, .int .i64 0, .bool false] 27)).alloc (.cells #[.slice (some ⟨w.heap.size + 1 + 1, 0, none⟩) 6 6, .slice none 0 0, .slice none 0 0, .slice none 0 0, .int .i64 10, .int .i64 5, .int .i64 15, .int .i64 2, .bool false] 27))) (by simp) (by unfold maxLen; omega) row_es).gr gg
  have hne : ∀ b, (Value.slice (some ⟨w.heap.size + 1 + 1, 0, none⟩) 6 6).ownBlock = some b → b ≠ w.heap.size ∧ b ≠ w.heap.size + 1 := fun b e => by simp [Value.ownBlock] at e; omega
  have hn0 := fun b e => (hne b e).1
  have hn1 := fun b e => (hne b e).2
  have hE2 := (((((((((((hE.setc (o := 1) hn1 (.slice (some ⟨w5.heap.size, 0, none⟩) 5 5)).setc (o := 2) hn1 (.slice (some ⟨w5.heap.size + 1, 0, none⟩) 5 5)).setc (o := 0) hn0 (.slice (some ⟨w.heap.size + 1 + 1, 0, none⟩) 6 6)).setc (o := 1) hn0 (.slice (some ⟨w5.heap.size, 0, none⟩) 5 5)).setc (o := 2) hn0 (.slice (some ⟨w5.heap.size + 1, 0, none⟩) 5 5)).setc (o := 3) hn0 (.slice none 0 0)).setc (o := 4) hn0 (.int .i64 10)).setc (o := 5) hn0 (.int .i64 5)).setc (o := 6) hn0 (.int .i64 15)).setc (o := 7) hn0 (.int .i64 2)).setc (o := 8) hn0 (.bool false))
  have hb0 : w.heap.size ≤ w.heap.size := Nat.le_refl _
  have hb1 : w.heap.size ≤ w.heap.size + 1 := Nat.le_succ _
  have hg := (hR.trans gg)
  have hg2 := ((((((((((((hg.setCell (p := ⟨w.heap.size + 1, 1, none⟩) hb1 (.slice (some ⟨w5.heap.size, 0, none⟩) 5 5)).setCell (p := ⟨w.heap.size + 1, 2, none⟩) hb1 (.slice (some ⟨w5.heap.size + 1, 0, none⟩) 5 5)).setCell (p := ⟨w.heap.size, 0, none⟩) hb0 (.slice (some ⟨w.heap.size + 1 + 1, 0, none⟩) 6 6)).setCell (p := ⟨w.heap.size, 1, none⟩) hb0 (.slice (some ⟨w5.heap.size, 0, none⟩) 5 5)).setCell (p := ⟨w.heap.size, 2, none⟩) hb0 (.slice (some ⟨w5.heap.size + 1, 0, none⟩) 5 5)).setCell (p := ⟨w.heap.size, 3, none⟩) hb0 (.slice none 0 0)).setCell (p := ⟨w.heap.size, 4, none⟩) hb0 (.int .i64 10)).setCell (p := ⟨w.heap.size, 5, none⟩) hb0 (.int .i64 5)).setCell (p := ⟨w.heap.size, 6, none⟩) hb0 (.int .i64 15)).setCell (p := ⟨w.heap.size, 7, none⟩) hb0 (.int .i64 2)).setCell (p := ⟨w.heap.size, 8, none⟩) hb0 (.bool false)))
  have hz := wx_size w5 w.heap.size (.slice (some ⟨w.heap.size + 1 + 1, 0, none⟩) 6 6) (.slice (some ⟨w5.heap.size, 0, none⟩) 5 5) (.slice (some ⟨w5.heap.size + 1, 0, none⟩) 5 5)
  generalize World.setCell _ ⟨w.heap.size, 8, none⟩ (.bool false) = Wx at hE2 hg2 hz ⊢
  refine ⟨_, rfl, ⟨_, 6, _, 5, _, 5, none, 0, rfl, (hE2.gr ((Gr.refl _).alloc _)).gr ((Gr.refl _).alloc _), ?_, ?_, ?_⟩, (hg2.alloc _).alloc _⟩
  · exact (row_lit (w := Wx) hz.symm (by unfold maxLen; omega) row_js).gr ((Gr.refl _).alloc _)
  · exact row_lit (w := World.alloc Wx _) (by simp [hz]) (by show 5 ≤ maxLen; unfold maxLen; omega) row_ss
  · exact ⟨fun _ => .slice none 0 0, ⟨none, 0, rfl, by unfold maxLen; simp [smallP], .inl rfl⟩, fun i hi => absurd hi (by simp [smallP])⟩
end Go.Proofs.YtgjnlgcdpbilfaaGreatDoor
namespace Go.Proofs.YtgjnlgcdpbilfaaGreatDoor
open Go.ChangeShapes Go.WideShapes Go.ChangeAt Go.RowKit Go.Maps
set_option linter.unusedVariables false
set_option linter.unusedSimpArgs false
theorem fine_chk {P : Pln} (h : fineB P = true) : chk P = 0 := by
  unfold fineB at h
  simp only [Bool.and_eq_true, decide_eq_true_eq] at h
  exact h.2
theorem fine_parts {P : Pln} (h : chk P = 0) : argsB P = true ∧ joinedB P = true ∧ signalsB P = true ∧ linesB P = true := by
  unfold chk at h
  split at h
  · omega
  split at h
  · omega
  split at h
  · omega
  split at h
  · omega
  split at h
  · omega
  split at h
  · omega
  rename_i h1 h2 h3 h4 h5 h6
  exact ⟨by simpa using h2, by simpa using h4, by simpa using h5, by simpa using h6⟩
theorem fine_ele {P : Pln} (h : chk P = 0) : ∀ e ∈ P.es, nmB e.n = true ∧ (1 ≤ e.k ∧ e.k ≤ 4) ∧ 0 ≤ e.l ∧ e.l ≤ 4000 ∧ (e.k ≠ 4 → 1 ≤ e.l) ∧ (e.k = 4 → e.l = 0) := by
  intro e he
  have ha := (fine_parts h).1
  rw [argsB_eq] at ha
  simp only [Bool.and_eq_true, List.all_eq_true] at ha
  have hb := ha.1.1.2 e he
  unfold eleB inB at hb
  simp only [Bool.and_eq_true, Bool.not_eq_true', decide_eq_false_iff_not] at hb
  obtain ⟨⟨h1, h2⟩, h3⟩ := hb
  have hk : 1 ≤ e.k ∧ e.k ≤ 4 := by
    unfold endsK at h2
    omega
  refine ⟨h1, hk, ?_⟩
  by_cases h4 : e.k = 4
  · rw [if_pos h4] at h3
    simp only [decide_eq_true_eq] at h3
    omega
  · rw [if_neg h4] at h3
    simp only [Bool.and_eq_true, decide_eq_true_eq] at h3
    omega
theorem small_fine : fineB smallP = true := by kernel_rfl
end Go.Proofs.YtgjnlgcdpbilfaaGreatDoor
namespace Go.Proofs.YtgjnlgcdpbilfaaGreatDoor
open Go.ChangeShapes Go.WideShapes Go.ChangeAt Go.RowKit Go.Maps
set_option linter.unusedVariables false
set_option linter.unusedSimpArgs false
theorem lineW_cons (P : Pln) (D : Dgm) (first : Bool) (a : ByteArray) (t : List ByteArray) : lineW P D first (a :: t) = if first ≠ decide (a = bDay) then .inl 2 else if a = bDay then dayW D (a :: t) else if a = bStock then stockW D (a :: t) else if a = bTrain then trainW P D (a :: t) else if a = bTurn then legW P D true t else legW P D false (a :: t) := rfl
theorem dayW_two (D : Dgm) (a t : ByteArray) : dayW D [a, t] = if clkB t = true then .inr { D with beg := clkN t } else .inl 2 := rfl
theorem clkT_word {t : Int} (h0 : 0 ≤ t) (h1 : t < 86400) : wordB (clkT t) := by
  have hs := clkT_size t
  obtain ⟨b0, b1, b2, b3, b4, b5, b6, b7⟩ := bt_clk t h0 h1
  refine wordB_of (by omega) fun j hj => ?_
  rw [hs] at hj
  match j, hj with
  | 0, _ => rw [b0]; omega
  | 1, _ => rw [b1]; omega
  | 2, _ => rw [b2]; omega
  | 3, _ => rw [b3]; omega
  | 4, _ => rw [b4]; omega
  | 5, _ => rw [b5]; omega
  | 6, _ => rw [b6]; omega
  | 7, _ => rw [b7]; omega
theorem day_word : wordB bDay := wordB_of (by decide) (by decide)
theorem train_word : wordB bTrain := wordB_of (by decide) (by decide)
theorem turn_word : wordB bTurn := wordB_of (by decide) (by decide)
theorem verb_word (e : Int) : wordB (verbW e) := by
  unfold verbW
  split
  · exact wordB_of (by decide) (by decide)
  split
  · exact wordB_of (by decide) (by decide)
  · exact wordB_of (by decide) (by decide)
theorem fst_self {α : Type} {l : List α} {f : α → ByteArray} (hn : (l.map f).Nodup) (i : Nat) (hi : i < l.length) : fstN (fun s => decide (f s = f l[i])) l = i := by
  rw [nodup_iff_lt] at hn
  refine fstN_go _ hi (by simp) fun k hk hki => ?_
  rw [decide_eq_false_iff_not]
  have := hn i k (by simpa using hi) hki
  intro e
  exact this (by simpa using e.symm)
theorem twiceB_nodup {l : List ByteArray} (h : twiceB l = false) : l.Nodup := by
  unfold twiceB at h
  simpa using h
theorem fine_names {P : Pln} (h : chk P = 0) : (P.es.map (·.n)).Nodup ∧ (P.ss.map (·.n)).Nodup ∧ (∀ s ∈ P.ss, nmB s.n = true) ∧ ∀ e ∈ P.es, nmB e.n = true := by
  have h0 := h
  unfold chk at h
  split at h
  · omega
  split at h
  · omega
  split at h
  · omega
  rename_i h1 h2 h3
  simp only [Bool.or_eq_true, not_or, Bool.not_eq_true] at h3
  refine ⟨twiceB_nodup h3.1.1, twiceB_nodup h3.1.2, ?_, fun e he => (fine_ele h0 e he).1⟩
  have ha := (fine_parts h0).1
  rw [argsB_eq] at ha
  simp only [Bool.and_eq_true, List.all_eq_true] at ha
  exact ha.1.2
theorem leg_to {P : Pln} {l : Leg} (hp : chk P = 0) (h : legTo P l = true) : (l.en = 1 ∨ l.en = 2 ∨ l.en = 3) ∧ nmB (nameTo P l) = true ∧ toW P l.en (nameTo P l) = l.dst ∧ 0 ≤ l.dst ∧ (if l.en = 1 then l.dst < P.ss.length else l.dst < P.es.length) := by
  obtain ⟨n1, n2, n3, n4⟩ := fine_names hp
  unfold legTo at h
  have key : ∀ k : Int, k ≠ 0 → kindP P l.dst = k → 0 ≤ l.dst ∧ l.dst < P.es.length := fun k hk e => by
    unfold kindP at e
    split at e
    · assumption
    · omega
  have elem : l.en ≠ 1 → 0 ≤ l.dst ∧ l.dst < P.es.length → nmB (nameTo P l) = true ∧ toW P l.en (nameTo P l) = l.dst := fun he hh => by
    obtain ⟨j, hj⟩ := Int.eq_ofNat_of_zero_le hh.1
    have hj2 : j < P.es.length := by omega
    unfold nameTo toW
    rw [if_neg he, if_neg he, hj, Int.toNat_natCast, getD_at _ _ hj2]
    exact ⟨n4 _ (List.getElem_mem hj2), fst_self (f := fun e : Ele => e.n) n1 j hj2⟩
  split at h
  · rename_i h1
    have hw := (winB_iff _ _ _).1 h
    obtain ⟨j, hj⟩ := Int.eq_ofNat_of_zero_le hw.1
    have hj2 : j < P.ss.length := by omega
    refine ⟨.inl h1, ?_, ?_, hw.1, by rw [if_pos h1]; omega⟩
    · unfold nameTo; rw [if_pos h1, hj, Int.toNat_natCast, getD_at _ _ hj2]; exact n3 _ (List.getElem_mem hj2)
    · unfold nameTo toW; rw [if_pos h1, if_pos h1, hj, Int.toNat_natCast, getD_at _ _ hj2]; exact fst_self (f := fun s : Sg => s.n) n2 j hj2
  split at h
  · rename_i h1 h2
    have hh := key 4 (by omega) (by simpa using h)
    have he := elem h1 hh
    exact ⟨.inr (.inl h2), he.1, he.2, hh.1, by rw [if_neg h1]; exact hh.2⟩
  split at h
  · rename_i h1 h2 h3
    have hh := key 1 (by omega) (by simpa using h)
    have he := elem h1 hh
    exact ⟨.inr (.inr h3), he.1, he.2, hh.1, by rw [if_neg h1]; exact hh.2⟩
  · cases h
theorem wordsL_word {P : Pln} {beg : Int} {l : Leg} (hp : chk P = 0) (h : legTo P l = true) : ∀ x ∈ wordsL P beg l, wordB x := by
  obtain ⟨-, hn, -⟩ := leg_to hp h
  intro x hx
  unfold wordsL at hx
  rw [List.mem_append] at hx
  rcases hx with hx | hx
  · cases ht : l.turn
    · rw [ht] at hx; simp at hx
    · rw [ht] at hx
      have : x = bTurn := by simpa using hx
      subst this; exact turn_word
  · simp only [List.mem_cons, List.not_mem_nil, or_false] at hx
    rcases hx with rfl | rfl | rfl
    · exact verb_word _
    · exact clkT_word (by omega) (by omega)
    · exact nm_word hn
theorem wordsL_ne (P : Pln) (beg : Int) (l : Leg) : wordsL P beg l ≠ [] := by unfold wordsL; simp
theorem verb_end {e : Int} (h : e = 1 ∨ e = 2 ∨ e = 3) : endW (verbW e) = e := by
  rcases h with rfl | rfl | rfl <;> decide
theorem verb_not (e : Int) : verbW e ≠ bDay ∧ verbW e ≠ bStock ∧ verbW e ≠ bTrain ∧ verbW e ≠ bTurn := by
  unfold verbW
  split
  · decide
  split <;> decide
theorem lineD_leg {P : Pln} {D : Dgm} {A : List Rn} {r : Rn} {l : Leg} (hp : chk P = 0) (h : legTo P l = true) (ha : 0 ≤ l.at_ ∧ l.at_ ≤ 2000) (hr : D.runs = A ++ [r]) :
    lineD P D false (jnW (wordsL P D.beg l)) = .inr { D with runs := A ++ [{ r with legs := r.legs ++ [l] }] } := by
  have hw := wordsL_word (beg := D.beg) hp h
  obtain ⟨h1, h2, h3, -⟩ := leg_to hp h
  have hc := clkN_val ((D.beg + l.at_) % 86400) (by omega) (by omega)
  have key : ∀ turn : Bool, turn = l.turn → legW P D turn [verbW l.en, clkT ((D.beg + l.at_) % 86400), nameTo P l] = .inr { D with runs := A ++ [{ r with legs := r.legs ++ [l] }] } := fun turn ht => by
    show leg3 P D turn (verbW l.en) (clkT ((D.beg + l.at_) % 86400)) (nameTo P l) = _
    unfold leg3
    rw [verb_end h1, h3]
    have hne : ¬ (D.runs = [] ∨ nmB (nameTo P l) = false ∨ clkB (clkT ((D.beg + l.at_) % 86400)) = false ∨ l.en = 0) := by
      rw [h2, hc.1, hr]
      simp only [List.append_eq_nil_iff, List.cons_ne_nil, and_false, Bool.true_eq_false, false_or]
      omega
    have hto : ¬ l.dst < 0 := by
      have := (leg_to hp h).2.2.2.1
      omega
    rw [if_neg hne, if_neg hto, hc.2]
    have e : ((D.beg + l.at_) % 86400 - D.beg) % 86400 = l.at_ := by omega
    rw [e, hr, addLeg_snoc, ht]
  unfold lineD
  rw [wdB_jnW _ (wordsL_ne P D.beg l) hw]
  dsimp only
  obtain ⟨v1, v2, v3, v4⟩ := verb_not l.en
  unfold wordsL
  cases ht : l.turn
  · show lineW P D false [verbW l.en, clkT ((D.beg + l.at_) % 86400), nameTo P l] = _
    rw [lineW_cons, if_neg (by simp [v1]), if_neg v1, if_neg v2, if_neg v3, if_neg v4]
    exact key false ht.symm
  · show lineW P D false [bTurn, verbW l.en, clkT ((D.beg + l.at_) % 86400), nameTo P l] = _
    rw [lineW_cons, if_neg (by decide), if_neg (by decide), if_neg (by decide), if_neg (by decide), if_pos rfl]
    exact key true ht.symm
theorem run_parts {P : Pln} {ns : Nat} {r : Rn} (h : runB P ns r = true) : nmB r.nm = true ∧ (0 ≤ r.st ∧ r.st < ns) ∧ (0 ≤ r.fr ∧ r.fr < P.ss.length) ∧ (0 ≤ r.lf ∧ r.lf ≤ 4000) ∧ legsB P 0 r.legs = true := by
  unfold runB at h
  simp only [Bool.and_eq_true, winB_iff] at h
  obtain ⟨⟨⟨⟨h1, h2⟩, h3⟩, h4⟩, h5⟩ := h
  exact ⟨h1, by omega, by omega, h4, h5⟩
theorem legs_parts {P : Pln} : ∀ {L : List Leg} {a : Int}, 0 ≤ a → legsB P a L = true → ∀ l ∈ L, legTo P l = true ∧ 0 ≤ l.at_ ∧ l.at_ ≤ 2000
  | [], _, _, _ => fun l hl => by cases hl
  | x :: t, a, ha, h => fun l hl => by
    rw [legsB_cons] at h
    simp only [Bool.and_eq_true, winB_iff] at h
    obtain ⟨⟨h1, h2⟩, h3⟩ := h
    rcases List.mem_cons.1 hl with rfl | hl
    · exact ⟨h2, by omega, by omega⟩
    · exact legs_parts (by omega) h3 l hl
theorem wordsR_word {P : Pln} {D : Dgm} {r : Rn} (hp : chk P = 0) (hs : checkS P.top P.brake D.st = 0) (h : runB P D.st.length r = true) : ∀ x ∈ wordsR P D r, wordB x := by
  obtain ⟨h1, h2, h3, h4, -⟩ := run_parts h
  obtain ⟨n1, n2, n3, n4⟩ := fine_names hp
  have hpl : plainE D.st = 0 := by
    unfold checkS at hs
    split at hs
    · exact hs
    · omega
  obtain ⟨-, hm, -⟩ := plain_ok hpl
  intro x hx
  simp only [wordsR, List.mem_cons, List.not_mem_nil, or_false] at hx
  rcases hx with rfl | rfl | rfl | rfl | rfl
  · exact train_word
  · exact nm_word h1
  · rw [getD_at _ _ (by omega)]
    exact nm_word (mayS_parts (hm _ (List.getElem_mem _))).1
  · rw [getD_at _ _ (by omega)]
    exact nm_word (n3 _ (List.getElem_mem _))
  · exact dgs_word _ (by omega) (by omega)
theorem check_plain {top brake : Int} {L : List Stk} (h : checkS top brake L = 0) : plainE L = 0 := by
  unfold checkS at h
  split at h
  · exact h
  · omega
theorem lineD_run {P : Pln} {D : Dgm} {r : Rn} (hp : chk P = 0) (hs : checkS P.top P.brake D.st = 0) (h : runB P D.st.length r = true) :
    lineD P D false (jnW (wordsR P D r)) = .inr { D with runs := D.runs ++ [{ r with legs := [] }] } := by
  have hw := wordsR_word hp hs h
  obtain ⟨h1, h2, h3, h4, -⟩ := run_parts h
  obtain ⟨n1, n2, n3, n4⟩ := fine_names hp
  obtain ⟨-, hm, htw⟩ := plain_ok (check_plain hs)
  unfold lineD
  rw [wdB_jnW _ (by simp [wordsR]) hw]
  dsimp only
  unfold wordsR
  rw [lineW_cons, if_neg (by decide), if_neg (by decide), if_neg (by decide), if_pos rfl]
  show train5 P D r.nm (D.st.getD r.st.toNat default).nm (P.ss.getD r.fr.toNat default).n (dgs r.lf) = _
  obtain ⟨i, hi⟩ := Int.eq_ofNat_of_zero_le h2.1
  obtain ⟨k, hk⟩ := Int.eq_ofNat_of_zero_le h3.1
  have hi2 : i < D.st.length := by omega
  have hk2 : k < P.ss.length := by omega
  have hd := num4 (n := r.lf) h4.1 (by omega)
  rw [hi, hk, Int.toNat_natCast, Int.toNat_natCast, getD_at _ _ hi2, getD_at _ _ hk2]
  have e1 := twice_find.1 htw i hi2
  have e2 : sigN P P.ss[k].n = k := fst_self (f := fun s : Sg => s.n) n2 k hk2
  unfold train5
  rw [if_pos ⟨h1, (mayS_parts (hm _ (List.getElem_mem hi2))).1, n3 _ (List.getElem_mem hk2), hd.1⟩, e1, e2, if_neg (by omega), hd.2, ← hi, ← hk]
theorem prgD_legs {P : Pln} (hp : chk P = 0) {beg : Int} {st : List Stk} {A : List Rn} : ∀ (L : List Leg) (r : Rn) (i : Nat), 0 < i → (∀ l ∈ L, legTo P l = true ∧ 0 ≤ l.at_ ∧ l.at_ ≤ 2000) →
    prgD P (L.map fun l => jnW (wordsL P beg l)) i ⟨beg, st, A ++ [r]⟩ = .inr ⟨beg, st, A ++ [{ r with legs := r.legs ++ L }]⟩
  | [], r, i, _, _ => by simp [prgD]
  | l :: t, r, i, hi, h => by
    have h0 := h l (by simp)
    have h1 := lineD_leg (D := ⟨beg, st, A ++ [r]⟩) hp h0.1 h0.2 rfl
    rw [List.map_cons]
    rw [prgD_cons, decide_eq_false (by omega : ¬ i = 0)]
    dsimp only at h1
    rw [h1]
    dsimp only
    rw [prgD_legs hp t _ (i + 1) (by omega) fun x hx => h x (List.mem_cons_of_mem _ hx)]
    simp
theorem prgD_runs {P : Pln} (hp : chk P = 0) {beg : Int} {st : List Stk} (hs : checkS P.top P.brake st = 0) (D : Dgm) (hD : D.st = st ∧ D.beg = beg) : ∀ (R A : List Rn) (i : Nat), 0 < i → (∀ r ∈ R, runB P st.length r = true) →
    prgD P (R.flatMap (rowsR P D)) i ⟨beg, st, A⟩ = .inr ⟨beg, st, A ++ R⟩
  | [], A, i, _, _ => by simp [prgD]
  | r :: t, A, i, hi, h => by
    have h0 := h r (by simp)
    obtain ⟨hd1, hd2⟩ := hD
    have e1 : wordsR P D r = wordsR P ⟨beg, st, A⟩ r := by unfold wordsR; rw [hd1]
    have h1 := lineD_run (D := ⟨beg, st, A⟩) hp hs h0
    have h2 := legs_parts (Int.le_refl 0) (run_parts h0).2.2.2.2
    rw [List.flatMap_cons, prgD_append]
    have e2 : prgD P (rowsR P D r) i ⟨beg, st, A⟩ = .inr ⟨beg, st, A ++ [r]⟩ := by
      unfold rowsR
      rw [e1, hd2]
      rw [prgD_cons, decide_eq_false (by omega : ¬ i = 0), h1]
      dsimp only
      rw [prgD_legs hp r.legs _ (i + 1) (by omega) h2]
      simp
    rw [e2]
    dsimp only
    rw [prgD_runs hp hs D ⟨hd1, hd2⟩ t (A ++ [r]) _ (by omega) fun x hx => h x (List.mem_cons_of_mem _ hx)]
    simp
theorem prgD_stock {P : Pln} {beg : Int} : ∀ (L A : List Stk) (i : Nat), 0 < i → (∀ s ∈ L, mayS s = true) → prgD P (L.map lineS) i ⟨beg, A, []⟩ = .inr ⟨beg, A ++ L, []⟩
  | [], A, i, _, _ => by simp [prgD]
  | s :: t, A, i, hi, h => by
    have h0 := h s (by simp)
    have h1 : lineD P ⟨beg, A, []⟩ false (lineS s) = .inr ⟨beg, A ++ [s], []⟩ := by
      unfold lineD lineS
      rw [wdB_jnW _ (by simp [wordsS]) (wordsS_word h0)]
      dsimp only
      have e := rowS_words h0
      unfold wordsS at e ⊢
      rw [lineW_cons, if_neg (by decide), if_neg (by decide), if_pos rfl]
      unfold stockW
      rw [e]
    rw [List.map_cons]
    rw [prgD_cons, decide_eq_false (by omega : ¬ i = 0), h1]
    dsimp only
    rw [prgD_stock t (A ++ [s]) (i + 1) (by omega) fun x hx => h x (List.mem_cons_of_mem _ hx)]
    simp
theorem day_words {beg : Int} (h : 0 ≤ beg ∧ beg ≤ 86399) : ∀ x ∈ [bDay, clkT beg], wordB x := by
  intro x hx
  simp only [List.mem_cons, List.not_mem_nil, or_false] at hx
  rcases hx with rfl | rfl
  · exact day_word
  · exact clkT_word h.1 (by omega)
theorem lineD_day {P : Pln} {beg : Int} (h : 0 ≤ beg ∧ beg ≤ 86399) : lineD P dgm0 true (jnW [bDay, clkT beg]) = .inr ⟨beg, [], []⟩ := by
  have hc := clkN_val beg h.1 (by omega)
  unfold lineD
  rw [wdB_jnW _ (by simp) (day_words h)]
  dsimp only
  rw [lineW_cons, if_neg (by decide), if_pos rfl]
  rw [dayW_two, if_pos hc.1, hc.2]
  rfl
theorem rowsD_line {P : Pln} {D : Dgm} (hp : chk P = 0) (h : chkD P D = 0) : ∀ x ∈ rowsD P D, lineB x := by
  obtain ⟨h1, h2, h3, h4, h5, h6⟩ := chkD_ok h
  obtain ⟨-, hm, -⟩ := plain_ok (check_plain h3)
  intro x hx
  unfold rowsD at hx
  rw [List.mem_cons, List.mem_append] at hx
  rcases hx with rfl | hx | hx
  · exact jnW_line _ fun y hy => word_line (day_words h4 y hy)
  · obtain ⟨s, hs, rfl⟩ := List.mem_map.1 hx
    exact jnW_line _ fun y hy => word_line (wordsS_word (hm s hs) y hy)
  · obtain ⟨r, hr, hx⟩ := List.mem_flatMap.1 hx
    unfold rowsR at hx
    rcases List.mem_cons.1 hx with rfl | hx
    · exact jnW_line _ fun y hy => word_line (wordsR_word hp h3 (h5 r hr) y hy)
    · obtain ⟨l, hl, rfl⟩ := List.mem_map.1 hx
      have := legs_parts (Int.le_refl 0) (run_parts (h5 r hr)).2.2.2.2 l hl
      exact jnW_line _ fun y hy => word_line (wordsL_word hp this.1 y hy)
theorem lnB_printD {P : Pln} {D : Dgm} (hp : chk P = 0) (h : chkD P D = 0) : lnB (printD P D) = rowsD P D := lnB_unl _ (rowsD_line hp h)
theorem prgD_print {P : Pln} {D : Dgm} (hp : chk P = 0) (h : chkD P D = 0) : prgD P (rowsD P D) 0 dgm0 = .inr D := by
  obtain ⟨h1, h2, h3, h4, h5, h6⟩ := chkD_ok h
  obtain ⟨-, hm, -⟩ := plain_ok (check_plain h3)
  unfold rowsD
  rw [prgD_cons, decide_eq_true (rfl : (0 : Nat) = 0), lineD_day h4]
  dsimp only
  rw [prgD_append, prgD_stock D.st [] (0 + 1) (by omega) hm]
  dsimp only
  rw [List.nil_append, prgD_runs hp h3 D ⟨rfl, rfl⟩ D.runs [] _ (by omega) h5]
  rfl
theorem parD_print {P : Pln} {D : Dgm} (hp : chk P = 0) (h : chkD P D = 0) (hs : (printD P D).size ≤ 32768) : parD P (printD P D) = (D, ((rowsD P D).length : Int), 0) := by
  have hl := lnB_printD hp h
  have hg := prgD_print hp h
  rw [← hl] at hg
  rw [parD_good (by omega) hg (by rw [hl]; unfold rowsD; simp), if_pos h, hl]
end Go.Proofs.YtgjnlgcdpbilfaaGreatDoor
