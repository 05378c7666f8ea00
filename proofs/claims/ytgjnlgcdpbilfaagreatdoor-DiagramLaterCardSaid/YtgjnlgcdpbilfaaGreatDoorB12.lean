/- DgQ: (*reader).line.
Kde: the reference's Kind; the length of an element.
DgA: diagram.in, kind, leads, Last; the reference's within, Last.
DgC: diagram.may; the reference's legs.
DgE: slices.IndexFunc and ContainsFunc over runs, for the three closures of diagram.Check (printed by gen_dge.py).
StZ: stock.Check and the reference's; Fits. -/
import Derived.Test.YtgjnlgcdpbilfaaGreatDoorRows
import Derived.Test.YtgjnlgcdpbilfaaGreatDoorB11
import Derived.Test.YtgjnlgcdpbilfaaGreatDoorB8
import Derived.Deep.RegionLaw
import Derived.Deep.AppendLies
import Derived.Test.YtgjnlgcdpbilfaaGreatDoorB6
import Derived.Test.YtgjnlgcdpbilfaaGreatDoorB1
import Derived.Test.YtgjnlgcdpbilfaaGreatDoorB7
import Derived.Test.YtgjnlgcdpbilfaaGreatDoorB2
namespace Go.Proofs.YtgjnlgcdpbilfaaGreatDoor
open Go.ChangeShapes Go.WideShapes Go.ChangeAt Go.RowKit Go.Maps
set_option linter.unusedVariables false
set_option linter.unusedSimpArgs false
theorem bx_nine {T : TypeId} {b B : Nat} {w : World} {D : Dgm} (h : Rd T b 9 B w D) : w.cell? ⟨b, 9, none⟩ = some (.int .i64 D.beg) ∧ w.frozen? ⟨b, 9, none⟩ = false := by
  obtain ⟨sv, rv, h1, -⟩ := h
  exact ⟨h1.2.1, h1.frozen 9⟩
theorem five_at (w : World) {g : Nat} (hg : g = w.heap.size) (u0 u1 u2 u3 u4 : Value) (T : TypeId) : ∀ j u, [u0, u1, u2, u3, u4][j]? = some u → ((w.alloc (.cells #[u0, u1, u2, u3, u4] T)).drew).cell? ((⟨g, 0, none⟩ : Addr).add j) = some u := by
  subst hg
  intro j u h
  show (w.alloc _).cell? _ = _
  rw [Go.WideShapes.add_plain, World.cell?_alloc_mark]
  simpa using h
theorem dayL : bDay.toList = [100, 97, 121] := by rw [ByteArray.toList_eq]; rfl
theorem trainL : bTrain.toList = [116, 114, 97, 105, 110] := by rw [ByteArray.toList_eq]; rfl
theorem str_eqL {x y : ByteArray} {l : List UInt8} (hy : y.toList = l) : (x.toList == l) = decide (x = y) := by
  by_cases h : x = y
  · subst h; rw [hy]; simp
  · rw [← hy, str_ne h]; simp [h]
theorem dayW_len {D : Dgm} {x : ByteArray} {t : List ByteArray} (h : t.length + 1 ≠ 2) : dayW D (x :: t) = .inl 2 := by
  match t, h with
  | [], _ => rfl
  | [_], h => exact absurd rfl h
  | _ :: _ :: _, _ => rfl
set_option maxRecDepth 100000 in
set_option maxHeartbeats 4000000 in
theorem rdLine_any (b B k : Nat) (h0 : Option Obj) (s : ByteArray) (f : Bool) (P : Pln) (a1 a2 a3 a4 : Option Addr) (c1 c2 c3 c4 m : Nat) (D : Dgm) (w0 w : World) (ht : w.ShapedOpen Tryz.prog)
    (hP : IsPln w0 (plnV P (.slice a1 P.es.length c1) (.slice a2 P.js.length c2) (.slice a3 P.ss.length c3) (.slice a4 P.ls.length c4)) P) (hb : w0.heap.size ≤ b) (g : Gr w0 w)
    (hKB : KB b P (.slice a1 P.es.length c1) (.slice a2 P.js.length c2) (.slice a3 P.ss.length c3) (.slice a4 P.ls.length c4) k h0 w) (hkB : k < B) (hkb : k ≠ b) (hR : Rd 88 b 9 B w D) (hs : s.size ≤ 1048576) (hz : SzD m D) (hm : m ≤ 40000) :
    Calls Tryz.prog 52 #[.pointer (some ⟨b, 0, none⟩), .string s, .bool f] w ((RetLn 88 w0 b 9 B (KB b P (.slice a1 P.es.length c1) (.slice a2 P.js.length c2) (.slice a3 P.ss.length c3) (.slice a4 P.ls.length c4) k h0)) (lineD P D f s)) := by
  have HW := words_cap s hs w ht
  have HG0 := Lib.hid g
  unfold lineD
  cases hw : wdB s with
  | none =>
    dsimp only
    have HR : Hid ((.inl 2 : Int ⊕ Dgm) = .inl 2) := rfl
    have HW1 : Hid (Calls Tryz.prog 83 #[.string s] w fun e w'' => ∃ v, e = .returned (.tuple #[v, .bool false]) ∧ Gr w w'') := by
      rw [hw] at HW
      exact HW.mono fun e w2 ⟨v, he, _, _, hg⟩ => ⟨v, he, hg⟩
    clear HW hw hz hR hKB hP g
    go_enter Tryz.func52, Tryz.ntmps52
    go_wp2_with (first | (go_at_call 83; (with_reducible refine (HW1.out).mono ?_); rintro e w4 ⟨v4, rfl, g4⟩) | fail)
    (go_ret; first | exact RetLn.no rfl (HG0.out.trans g4) | exact RetLn.no HR.out (HG0.out.trans g4))
  | some L =>
    dsimp only
    have HW1 : Hid (Calls Tryz.prog 83 #[.string s] w fun e w'' => ∃ v, e = .returned (.tuple #[v, .bool true]) ∧ IsVals w'' v (L.map Value.string) ∧ CapOk v ∧ Gr w w'') := by
      rw [hw] at HW
      exact HW
    obtain ⟨hne, hll, hsz⟩ := wdS_ne hw
    have hszm : ∀ x ∈ L, x.size ≤ maxLen := fun x hx => by have := hsz x hx; unfold maxLen; omega
    clear HW hw hsz
    cases L with
    | nil => exact absurd rfl hne
    | cons x t =>
      clear hne
      simp only [List.length_cons] at hll
      have HTR := Lib.hid (fun (v : Value) (w' : World) (h1 : IsVals w' v ((x :: t).map Value.string)) (h2 : CapOk v) (g' : Gr w w') => rdTrain_any b B k h0 v (x :: t) P a1 a2 a3 a4 c1 c2 c3 c4 m D w0 w' hP hb (HG0.out.trans g') (hKB.gr g') hkB hkb (hR.gr g') h1 h2 hszm hz hm)
      have HLG := Lib.hid (fun (v : Value) (w' : World) (h1 : IsVals w' v ((x :: t).map Value.string)) (h2 : CapOk v) (g' : Gr w w') => rdLeg_any b B k h0 v (x :: t) P a1 a2 a3 a4 c1 c2 c3 c4 m D w0 w' hP hb (HG0.out.trans g') (hKB.gr g') hkB hkb (hR.gr g') h1 h2 hszm hz hm (by simp) (by simp; omega))
      have HSK := Lib.hid (fun (v : Value) (w' : World) (h1 : IsVals w' v ((x :: t).map Value.string)) (h2 : CapOk v) => halfStock_any v (x :: t) w' h1 h2 hszm)
      have td := str_eqL (x := x) dayL
      have hLW : ∀ r, lineW P D f (x :: t) = r → Hid (lineW P D f (x :: t) = r) := fun r h => h
      have HKB := Lib.hid hKB
      have HB := Lib.hid hKB.1
      have HRD := Lib.hid hR
      clear hKB hR g hP
      by_cases hx : x = bDay
      · subst hx
        have td2 : decide (bDay = bDay) = true := by simp
        rw [td2] at td
        cases f
        · have HR : Hid (lineW P D false (bDay :: t) = .inl 2) := by
            show _ = _
            rw [lineW_cons, td2, if_pos (by simp)]
          clear HTR HLG HSK hLW
          go_enter Tryz.func52, Tryz.ntmps52
          go_wp2_with (first | (go_at_call 83; (with_reducible refine (HW1.out).mono ?_); rintro e w1 ⟨v1, rfl, hv1, hc1, g1⟩; have G1 := HG0.out.trans g1; have HV1 := Lib.hid hv1; have HC1 := Lib.hid hc1; obtain ⟨bb, o, cc, rfl, hcap, zy, y0, ys⟩ := four_form hv1 hc1; have hi0 : (0 : Int) < ((t.length + 1 : Nat) : Int) := (by omega); clear hv1 hc1) | fail)
          (go_ret; first | exact RetLn.no rfl (G1) | exact RetLn.no HR.out (G1))
        have hL0 : lineW P D true (bDay :: t) = dayW D (bDay :: t) := by rw [lineW_cons, td2, if_neg (by simp), if_pos rfl]
        rw [hL0]
        clear hL0 hLW
        by_cases hl : t.length + 1 = 2
        rotate_left
        · have HR := Lib.hid (dayW_len (D := D) (x := bDay) hl)
          have t2 : (((t.length + 1 : Nat) : Int) != 2) = true := bneT (by omega)
          clear HTR HLG HSK
          go_enter Tryz.func52, Tryz.ntmps52
          go_wp2_with (first | (go_at_call 83; (with_reducible refine (HW1.out).mono ?_); rintro e w1 ⟨v1, rfl, hv1, hc1, g1⟩; have G1 := HG0.out.trans g1; have HV1 := Lib.hid hv1; have HC1 := Lib.hid hc1; obtain ⟨bb, o, cc, rfl, hcap, zy, y0, ys⟩ := four_form hv1 hc1; have hi0 : (0 : Int) < ((t.length + 1 : Nat) : Int) := (by omega); clear hv1 hc1) | fail)
          (go_ret; first | exact RetLn.no rfl (G1) | exact RetLn.no HR.out (G1))
        obtain ⟨y, rfl⟩ : ∃ y, t = [y] := by
          match t, hl with
          | [y], _ => exact ⟨y, rfl⟩
        have HCK := Lib.hid (fun w' => parse_any y w' (hszm y (by simp)))
        rw [dayW_two]
        clear HTR HLG HSK hl
        generalize clkN y = n at HCK ⊢
        generalize clkB y = q at HCK ⊢
        cases q
        · have HR : Hid ((if false = true then .inr { D with beg := n } else .inl 2 : Int ⊕ Dgm) = .inl 2) := rfl
          go_enter Tryz.func52, Tryz.ntmps52
          go_wp2_with (first | ((go_at_call 83; (with_reducible refine (HW1.out).mono ?_); rintro e w1 ⟨v1, rfl, hv1, hc1, g1⟩; have G1 := HG0.out.trans g1; have HV1 := Lib.hid hv1; have HC1 := Lib.hid hc1; obtain ⟨bb, o, cc, rfl, hcap, zy, y0, ys⟩ := four_form hv1 hc1; clear hv1 hc1); have y1 : w1.cell? ⟨bb, o + 1, none⟩ = some (.string y) := ys.out 0 (by simp)) | (go_at_call 84; (with_reducible refine (HCK.out _).mono ?_); rintro e w4 ⟨rfl, g4⟩) | fail)
          (go_ret; first | exact RetLn.no rfl (G1.trans g4) | exact RetLn.no HR.out (G1.trans g4))
        · have HR : Hid ((if true = true then .inr { D with beg := n } else .inl 2 : Int ⊕ Dgm) = .inr { D with beg := n }) := rfl
          go_enter Tryz.func52, Tryz.ntmps52
          go_wp2_with (first | ((go_at_call 83; (with_reducible refine (HW1.out).mono ?_); rintro e w1 ⟨v1, rfl, hv1, hc1, g1⟩; have G1 := HG0.out.trans g1; have HV1 := Lib.hid hv1; have HC1 := Lib.hid hc1; obtain ⟨bb, o, cc, rfl, hcap, zy, y0, ys⟩ := four_form hv1 hc1; clear hv1 hc1); have y1 : w1.cell? ⟨bb, o + 1, none⟩ = some (.string y) := ys.out 0 (by simp)) | (go_at_call 84; (with_reducible refine (HCK.out _).mono ?_); rintro e w4 ⟨rfl, g4⟩; have GA := g1.trans g4; have HR4 := Lib.hid (HRD.out.gr GA); have zb := (HB.out.gr GA).1; obtain ⟨d9, fz⟩ := bx_nine HR4.out) | fail)
          go_ret
          exact RetLn.yes rfl ((G1.trans g4).setCell hb _) ((HKB.out.gr GA).set (.inr (by simp)) hkb _) (HR4.out.day n)
      have td2 : decide (x = bDay) = false := by simp [hx]
      rw [td2] at td
      cases f
      rotate_left
      · have HR : Hid (lineW P D true (x :: t) = .inl 2) := by
          show _ = _
          rw [lineW_cons, td2, if_pos (by simp)]
        clear HTR HLG HSK hLW
        go_enter Tryz.func52, Tryz.ntmps52
        go_wp2_with (first | (go_at_call 83; (with_reducible refine (HW1.out).mono ?_); rintro e w1 ⟨v1, rfl, hv1, hc1, g1⟩; have G1 := HG0.out.trans g1; have HV1 := Lib.hid hv1; have HC1 := Lib.hid hc1; obtain ⟨bb, o, cc, rfl, hcap, zy, y0, ys⟩ := four_form hv1 hc1; have hi0 : (0 : Int) < ((t.length + 1 : Nat) : Int) := (by omega); clear hv1 hc1) | fail)
        (go_ret; first | exact RetLn.no rfl (G1) | exact RetLn.no HR.out (G1))
      have hL0 : lineW P D false (x :: t) = if x = bStock then stockW D (x :: t) else if x = bTrain then trainW P D (x :: t) else legL P D (x :: t) := by
        show (if false ≠ decide (x = bDay) then (.inl 2 : Int ⊕ Dgm) else if x = bDay then dayW D (x :: t) else if x = bStock then stockW D (x :: t) else if x = bTrain then trainW P D (x :: t) else legL P D (x :: t)) = _
        rw [td2, if_neg (by simp), if_neg hx]
      rw [hL0]
      clear hL0 hLW
      have ts := str_eqL (x := x) stockL
      by_cases hx2 : x = bStock
      · subst hx2
        rw [if_pos rfl]
        have ts2 : decide (bStock = bStock) = true := by simp
        rw [ts2] at ts
        obtain ⟨kn, kl, kt, ka, kb, hf, hsm⟩ := stkR_form (rowS (bStock :: t))
        rw [hf] at HSK
        unfold stockW
        clear HTR HLG hf
        cases hr : rowS (bStock :: t) with
        | none =>
          dsimp only
          rw [hr] at HSK
          have HS1 : Hid (∀ v w', IsVals w' v ((bStock :: t).map Value.string) → CapOk v → Calls Tryz.prog 85 #[v] w' fun e w'' => e = .returned (.tuple #[.agg #[.string kn, .int .i64 kl, .int .i64 kt, .int .i64 ka, .int .i64 kb], .bool false]) ∧ Gr w' w'') := HSK.out
          have HR : Hid ((.inl 2 : Int ⊕ Dgm) = .inl 2) := rfl
          clear HSK hr hsm
          go_enter Tryz.func52, Tryz.ntmps52
          go_wp2_with (first | (go_at_call 83; (with_reducible refine (HW1.out).mono ?_); rintro e w1 ⟨v1, rfl, hv1, hc1, g1⟩; have G1 := HG0.out.trans g1; have HV1 := Lib.hid hv1; have HC1 := Lib.hid hc1; obtain ⟨bb, o, cc, rfl, hcap, zy, y0, ys⟩ := four_form hv1 hc1; have hi0 : (0 : Int) < ((t.length + 1 : Nat) : Int) := (by omega); clear hv1 hc1) | (go_at_call 85; (with_reducible refine (HS1.out _ _ HV1.out HC1.out).mono ?_); rintro e w4 ⟨rfl, g4⟩) | fail)
          (go_ret; first | exact RetLn.no rfl ((G1.trans g4).alloc _) | exact RetLn.no HR.out ((G1.trans g4).alloc _))
        | some kx =>
          dsimp only
          rw [hr] at HSK
          obtain rfl := hsm kx hr
          have HS1 : Hid (∀ v w', IsVals w' v ((bStock :: t).map Value.string) → CapOk v → Calls Tryz.prog 85 #[v] w' fun e w'' => e = .returned (.tuple #[.agg #[.string kn, .int .i64 kl, .int .i64 kt, .int .i64 ka, .int .i64 kb], .bool true]) ∧ Gr w' w'') := HSK.out
          obtain ⟨i0, hi0', hi1', hi2', hi3'⟩ := info_parts Tryz.infoK
          clear HSK hr hsm
          go_enter Tryz.func52, Tryz.ntmps52
          go_upto_region 17 with (first | (go_at_call 83; (with_reducible refine (HW1.out).mono ?_); rintro e w1 ⟨v1, rfl, hv1, hc1, g1⟩; have G1 := HG0.out.trans g1; have HV1 := Lib.hid hv1; have HC1 := Lib.hid hc1; obtain ⟨bb, o, cc, rfl, hcap, zy, y0, ys⟩ := four_form hv1 hc1; have hi0 : (0 : Int) < ((t.length + 1 : Nat) : Int) := (by omega); clear hv1 hc1) | (go_at_call 85; (with_reducible refine (HS1.out _ _ HV1.out HC1.out).mono ?_); rintro e w4 ⟨rfl, g4⟩) | fail)
          have G2 := g1.trans g4
          obtain ⟨sv, rv, hbx, hdt⟩ := HRD.out.gr G2
          obtain ⟨hbB, A, M, k1, k2, k3, k4, k5, k6⟩ := id hdt
          have hBz : B ≤ w4.heap.size := Nat.le_trans k6 k5
          obtain ⟨sa, sc, rfl⟩ := own_form k1
          have hfar := bx_far hbx k1 (by decide)
          have hstl : D.st.length ≤ 40000 := by have := hz.1; omega
          have hfz := hbx.frozen 10
          have zb := hbx.lt
          have KK := Lib.hid k1
          have HBX := Lib.hid hbx
          have HDT := Lib.hid hdt
          have d1 := hbx.2.2.1
          clear hbx hdt k1 k2 k3 k4 k5 k6 y0 ys hcap hi0 HV1 HC1 HS1 HW1
          have QG : Gr w (w4.alloc (.cells #[.string kn, .int .i64 kl, .int .i64 kt, .int .i64 ka, .int .i64 kb] 64)) := G2.alloc _
          have zx : w4.heap.size < (w4.alloc (.cells #[.string kn, .int .i64 kl, .int .i64 kt, .int .i64 ka, .int .i64 kb] 64)).heap.size := by simp
          go_region_law ((refine step_append_lies _ (by rfl) _ _ _ (by rfl) B 64 i0 _ 5 48 Tryz.underlying28 hi0' hi1' hi2' hi3' rfl (by omega) (.slice sa D.st.length sc) D.st.length (D.st.flatMap Stk.cs) (by rfl) (((KK.out.alloc _).alloc _).drew) ⟨w4.heap.size + 1, 0, none⟩ 1 1 [.string kn, .int .i64 kl, .int .i64 kt, .int .i64 ka, .int .i64 kb] (by rfl) (by rfl) (five_at (w4.alloc _) (by simp) _ _ _ _ _ 64) (by simp [Value.oneCell']) (by omega) (by unfold maxLen; omega) (by omega) (by simp; omega) (w4.heap.size + 1 + 1) (by simp) ?_; intro g9 cap w9 hown hgrow hat hlt; have cu9 := (hgrow.cell_far ⟨b, 10, none⟩ (by simp; omega) (by simpa using Ne.symm hfar)); have fu9 := (hgrow.frozen_far ⟨b, 10, none⟩ (by simp; omega) (by simpa using Ne.symm hfar))))
          all_goals go_wp2_with fail
          all_goals go_ret
          all_goals exact stock_end (kk := ⟨kn, kl, kt, ka, kb⟩) (by decide) HBX.out hkB hkb HDT.out (HKB.out.gr G2) (HG0.out.trans G2) hb (((Gr.refl w4).alloc _).alloc _).drew rfl hgrow hown
      rw [if_neg hx2]
      have ts2 : decide (x = bStock) = false := by simp [hx2]
      rw [ts2] at ts
      have tr := str_eqL (x := x) trainL
      by_cases hx3 : x = bTrain
      · rw [if_pos hx3]
        have tr2 : decide (x = bTrain) = true := by simp [hx3]
        rw [tr2] at tr
        clear HLG HSK hx hx2 hx3
        generalize trainW P D (x :: t) = r at HTR ⊢
        cases r with
        | inl n =>
          have HT1 : Hid (∀ v w', IsVals w' v ((x :: t).map Value.string) → CapOk v → Gr w w' → Calls Tryz.prog 86 #[.pointer (some ⟨b, 0, none⟩), v] w' fun e w'' => e = .returned (.int .i64 n) ∧ Gr w0 w'') := HTR.out
          have HR : Hid ((.inl n : Int ⊕ Dgm) = .inl n) := rfl
          clear HTR
          go_enter Tryz.func52, Tryz.ntmps52
          go_wp2_with (first | (go_at_call 83; (with_reducible refine (HW1.out).mono ?_); rintro e w1 ⟨v1, rfl, hv1, hc1, g1⟩; have G1 := HG0.out.trans g1; have HV1 := Lib.hid hv1; have HC1 := Lib.hid hc1; obtain ⟨bb, o, cc, rfl, hcap, zy, y0, ys⟩ := four_form hv1 hc1; have hi0 : (0 : Int) < ((t.length + 1 : Nat) : Int) := (by omega); clear hv1 hc1) | (go_at_call 86; (with_reducible refine (HT1.out _ _ HV1.out HC1.out g1).mono ?_); rintro e w4 ⟨rfl, g4⟩) | fail)
          (go_ret; first | exact RetLn.no rfl (g4) | exact RetLn.no HR.out (g4))
        | inr D' =>
          have HT1 : Hid (∀ v w', IsVals w' v ((x :: t).map Value.string) → CapOk v → Gr w w' → Calls Tryz.prog 86 #[.pointer (some ⟨b, 0, none⟩), v] w' fun e w'' => e = .returned (.int .i64 0) ∧ Gr w0 w'' ∧ KB b P (.slice a1 P.es.length c1) (.slice a2 P.js.length c2) (.slice a3 P.ss.length c3) (.slice a4 P.ls.length c4) k h0 w'' ∧ Rd 88 b 9 B w'' D') := HTR.out
          clear HTR
          go_enter Tryz.func52, Tryz.ntmps52
          go_wp2_with (first | (go_at_call 83; (with_reducible refine (HW1.out).mono ?_); rintro e w1 ⟨v1, rfl, hv1, hc1, g1⟩; have G1 := HG0.out.trans g1; have HV1 := Lib.hid hv1; have HC1 := Lib.hid hc1; obtain ⟨bb, o, cc, rfl, hcap, zy, y0, ys⟩ := four_form hv1 hc1; have hi0 : (0 : Int) < ((t.length + 1 : Nat) : Int) := (by omega); clear hv1 hc1) | (go_at_call 86; (with_reducible refine (HT1.out _ _ HV1.out HC1.out g1).mono ?_); rintro e w4 ⟨rfl, g4, h4, k4⟩; have H4 := Lib.hid h4; have K4 := Lib.hid k4; clear h4 k4) | fail)
          go_ret
          exact RetLn.yes rfl g4 H4.out K4.out
      rw [if_neg hx3]
      have tr2 : decide (x = bTrain) = false := by simp [hx3]
      rw [tr2] at tr
      clear HTR HSK hx hx2 hx3
      generalize legL P D (x :: t) = r at HLG ⊢
      cases r with
      | inl n =>
        have HT1 : Hid (∀ v w', IsVals w' v ((x :: t).map Value.string) → CapOk v → Gr w w' → Calls Tryz.prog 87 #[.pointer (some ⟨b, 0, none⟩), v] w' fun e w'' => e = .returned (.int .i64 n) ∧ Gr w0 w'') := HLG.out
        have HR : Hid ((.inl n : Int ⊕ Dgm) = .inl n) := rfl
        clear HLG
        go_enter Tryz.func52, Tryz.ntmps52
        go_wp2_with (first | (go_at_call 83; (with_reducible refine (HW1.out).mono ?_); rintro e w1 ⟨v1, rfl, hv1, hc1, g1⟩; have G1 := HG0.out.trans g1; have HV1 := Lib.hid hv1; have HC1 := Lib.hid hc1; obtain ⟨bb, o, cc, rfl, hcap, zy, y0, ys⟩ := four_form hv1 hc1; have hi0 : (0 : Int) < ((t.length + 1 : Nat) : Int) := (by omega); clear hv1 hc1) | (go_at_call 87; (with_reducible refine (HT1.out _ _ HV1.out HC1.out g1).mono ?_); rintro e w4 ⟨rfl, g4⟩) | fail)
        (go_ret; first | exact RetLn.no rfl (g4) | exact RetLn.no HR.out (g4))
      | inr D' =>
        have HT1 : Hid (∀ v w', IsVals w' v ((x :: t).map Value.string) → CapOk v → Gr w w' → Calls Tryz.prog 87 #[.pointer (some ⟨b, 0, none⟩), v] w' fun e w'' => e = .returned (.int .i64 0) ∧ Gr w0 w'' ∧ KB b P (.slice a1 P.es.length c1) (.slice a2 P.js.length c2) (.slice a3 P.ss.length c3) (.slice a4 P.ls.length c4) k h0 w'' ∧ Rd 88 b 9 B w'' D') := HLG.out
        clear HLG
        go_enter Tryz.func52, Tryz.ntmps52
        go_wp2_with (first | (go_at_call 83; (with_reducible refine (HW1.out).mono ?_); rintro e w1 ⟨v1, rfl, hv1, hc1, g1⟩; have G1 := HG0.out.trans g1; have HV1 := Lib.hid hv1; have HC1 := Lib.hid hc1; obtain ⟨bb, o, cc, rfl, hcap, zy, y0, ys⟩ := four_form hv1 hc1; have hi0 : (0 : Int) < ((t.length + 1 : Nat) : Int) := (by omega); clear hv1 hc1) | (go_at_call 87; (with_reducible refine (HT1.out _ _ HV1.out HC1.out g1).mono ?_); rintro e w4 ⟨rfl, g4, h4, k4⟩; have H4 := Lib.hid h4; have K4 := Lib.hid k4; clear h4 k4) | fail)
        go_ret
        exact RetLn.yes rfl g4 H4.out K4.out
end Go.Proofs.YtgjnlgcdpbilfaaGreatDoor
namespace Go.Proofs.YtgjnlgcdpbilfaaGreatDoor
open Go.ChangeShapes Go.WideShapes Go.ChangeAt Go.RowKit Go.Maps
set_option linter.unusedVariables false
set_option linter.unusedSimpArgs false
theorem kindE2_any (v : Value) (P : Pln) (i : Int) (w : World) (hP : IsPln w v P) :
    Calls Tryz.prog 74 #[v, .int .i64 i] w fun e w' => e = .returned (.int .i64 (kindP P i)) ∧ Gr w w' := by
  have HPI := Lib.hid hP
  obtain ⟨a1, c1, a2, c2, a3, c3, a4, c4, rfl, -⟩ := hP
  have hw0 : Gr w (w.alloc (.cells #[.slice a1 P.es.length c1, .slice a2 P.js.length c2, .slice a3 P.ss.length c3, .slice a4 P.ls.length c4, .int .i64 P.top, .int .i64 P.brake, .int .i64 P.margin, .int .i64 P.throw, .bool P.hard] 27)) := (Gr.refl _).alloc _
  have HK := Lib.hid (kind_any _ P i _ (HPI.out.gr hw0))
  unfold plnV at HK ⊢
  clear HPI
  go_enter Tryz.func74, Tryz.ntmps74
  go_wp2_with (first | (go_at_call 98; (with_reducible refine HK.out.mono ?_); rintro e w1 ⟨rfl, g1⟩) | fail)
  go_ret
  exact ⟨rfl, hw0.trans g1⟩
end Go.Proofs.YtgjnlgcdpbilfaaGreatDoor
namespace Go.Proofs.YtgjnlgcdpbilfaaGreatDoor
open Go.ChangeShapes Go.WideShapes Go.ChangeAt Go.RowKit Go.Maps
set_option linter.unusedVariables false
set_option linter.unusedSimpArgs false
theorem dgIn_any (n most : Int) (w : World) :
    Calls Tryz.prog 33 #[.int .i64 n, .int .i64 most] w fun e w' => e = .returned (.bool (winB n 0 most)) ∧ w' = w := by
  go_enter Tryz.func33, Tryz.ntmps33
  go_wp2
  all_goals go_ret
  all_goals (refine ⟨ret_bool ?_, rfl⟩; unfold winB; by_cases a1 : 0 ≤ n <;> by_cases a2 : n ≤ most <;> simp [a1, a2] <;> omega)
theorem within30_any (n lo hi : Int) (w : World) :
    Calls Tryz.prog 37 #[.int .i64 n, .int .i64 lo, .int .i64 hi] w fun e w' => e = .returned (.bool (winB n lo hi)) ∧ w' = w := by
  go_enter Tryz.func37, Tryz.ntmps37
  go_wp2
  all_goals go_ret
  all_goals (refine ⟨ret_bool ?_, rfl⟩; unfold winB; by_cases a1 : lo ≤ n <;> by_cases a2 : n ≤ hi <;> simp [a1, a2] <;> omega)
theorem dgKind_any (v : Value) (P : Pln) (i : Int) (w : World) (hP : IsPln w v P) :
    Calls Tryz.prog 107 #[v, .int .i64 i] w fun e w' => e = .returned (.int .i64 (kindP P i)) ∧ Gr w w' := by
  obtain ⟨a1, c1, a2, c2, a3, c3, a4, c4, rfl, h1, -, -, -⟩ := hP
  unfold plnV
  have hm := IsRow.len h1
  unfold maxLen at hm
  have HI := Lib.hid (fun w' => dgIn_any i ((P.es.length : Int) - 1) w')
  have tw : IntKind.i64.wrap ((P.es.length : Int) - 1) = (P.es.length : Int) - 1 := IntWalk.i64_in _ (by omega)
  by_cases hi : 0 ≤ i ∧ i < P.es.length
  · obtain ⟨k, rfl⟩ := Int.eq_ofNat_of_zero_le hi.1
    have hk : k < P.es.length := by omega
    have HN := Lib.hid (kindP_in P k hk)
    obtain ⟨b, o, rfl, hb, -, x1, -⟩ := h1.at k hk
    have hq : winB (k : Int) 0 ((P.es.length : Int) - 1) = true := (winB_iff _ _ _).2 (by omega)
    rw [hq] at HI
    clear hi h1 hq
    go_enter Tryz.func107, Tryz.ntmps107
    go_wp2_with (first | (go_at_call 33; (with_reducible refine (HI.out _).mono ?_); rintro e w2 ⟨rfl, hq⟩; obtain rfl := hq.symm) | fail)
    go_ret
    exact ⟨ret_int HN.out.symm, (Gr.refl _).alloc _⟩
  · have HN := Lib.hid (kindP_out P i hi)
    have hq : winB i 0 ((P.es.length : Int) - 1) = false := winB_no (by omega)
    rw [hq] at HI
    clear hi h1 hq
    go_enter Tryz.func107, Tryz.ntmps107
    go_wp2_with (first | (go_at_call 33; (with_reducible refine (HI.out _).mono ?_); rintro e w2 ⟨rfl, hq⟩; obtain rfl := hq.symm) | fail)
    go_ret
    exact ⟨ret_int HN.out.symm, (Gr.refl _).alloc _⟩
set_option maxHeartbeats 1000000 in
theorem dgLeads_any (v : Value) (P : Pln) (l : Leg) (w : World) (hP : IsPln w v P) :
    Calls Tryz.prog 73 #[v, l.v] w fun e w' => e = .returned (.bool (legTo P l)) ∧ Gr w w' := by
  have HPI := Lib.hid hP
  obtain ⟨a1, c1, a2, c2, a3, c3, a4, c4, rfl, h1, h2, h3, h4⟩ := hP
  have hm := IsRow.len h3
  unfold maxLen at hm
  obtain ⟨tn, at_, en, tg⟩ := l
  have g0 : Gr w ((w.alloc (.cells #[.slice a1 P.es.length c1, .slice a2 P.js.length c2, .slice a3 P.ss.length c3, .slice a4 P.ls.length c4, .int .i64 P.top, .int .i64 P.brake, .int .i64 P.margin, .int .i64 P.throw, .bool P.hard] 27)).alloc (.cells #[.bool tn, .int .i64 at_, .int .i64 en, .int .i64 tg] 54)) := ((Gr.refl _).alloc _).alloc _
  have HI := Lib.hid (fun w' => dgIn_any tg ((P.ss.length : Int) - 1) w')
  have HK := Lib.hid (dgKind_any _ P tg _ (HPI.out.gr g0))
  have tw : IntKind.i64.wrap ((P.ss.length : Int) - 1) = (P.ss.length : Int) - 1 := IntWalk.i64_in _ (by omega)
  have HR : Hid (legTo P ⟨tn, at_, en, tg⟩ = if en = 1 then winB tg 0 ((P.ss.length : Int) - 1) else if en = 2 then decide (kindP P tg = 4) else if en = 3 then decide (kindP P tg = 1) else false) := rfl
  generalize legTo P ⟨tn, at_, en, tg⟩ = R at HR ⊢
  unfold plnV at HK ⊢
  unfold Leg.v
  dsimp only
  generalize winB tg 0 ((P.ss.length : Int) - 1) = q at HI HR
  generalize kindP P tg = K at HK HR
  clear HPI h1 h2 h3 h4
  by_cases e1 : en = 1
  · have HR1 : Hid (R = q) := by show _ = _; rw [HR.out, if_pos e1]
    subst e1
    clear HR
    go_enter Tryz.func73, Tryz.ntmps73
    go_wp2_with (first | (go_at_call 33; (with_reducible refine (HI.out _).mono ?_); rintro e w2 ⟨rfl, hq⟩; obtain rfl := hq.symm) | fail)
    go_ret
    exact ⟨ret_bool HR1.out.symm, g0⟩
  have t1 : (en == 1) = false := beqF e1
  by_cases e2 : en = 2
  · have HR1 : Hid (R = decide (K = 4)) := by show _ = _; rw [HR.out, if_neg e1, if_pos e2]
    subst e2
    clear HR
    go_enter Tryz.func73, Tryz.ntmps73
    go_wp2_with (first | (go_at_call 107; (with_reducible refine (HK.out).mono ?_); rintro e w2 ⟨rfl, g2⟩) | fail)
    go_ret
    exact ⟨ret_bool (by rw [HR1.out]; by_cases k : K = 4 <;> simp [k]), g0.trans g2⟩
  have t2 : (en == 2) = false := beqF e2
  by_cases e3 : en = 3
  · have HR1 : Hid (R = decide (K = 1)) := by show _ = _; rw [HR.out, if_neg e1, if_neg e2, if_pos e3]
    subst e3
    clear HR
    go_enter Tryz.func73, Tryz.ntmps73
    go_wp2_with (first | (go_at_call 107; (with_reducible refine (HK.out).mono ?_); rintro e w2 ⟨rfl, g2⟩) | fail)
    go_ret
    exact ⟨ret_bool (by rw [HR1.out]; by_cases k : K = 1 <;> simp [k]), g0.trans g2⟩
  have t3 : (en == 3) = false := beqF e3
  have HR1 : Hid (R = false) := by show _ = _; rw [HR.out, if_neg e1, if_neg e2, if_neg e3]
  clear HR e1 e2 e3
  go_enter Tryz.func73, Tryz.ntmps73
  go_wp2_with fail
  go_ret
  exact ⟨ret_bool HR1.out.symm, g0⟩
end Go.Proofs.YtgjnlgcdpbilfaaGreatDoor
namespace Go.Proofs.YtgjnlgcdpbilfaaGreatDoor
open Go.ChangeShapes Go.WideShapes Go.ChangeAt Go.RowKit Go.Maps
set_option linter.unusedVariables false
set_option linter.unusedSimpArgs false
theorem runB_eq (P : Pln) (ns : Nat) (nm : ByteArray) (st fr lf : Int) (L : List Leg) : runB P ns ⟨nm, st, fr, lf, L⟩ = (nmB nm && winB st 0 ((ns : Int) - 1) && winB fr 0 ((P.ss.length : Int) - 1) && winB lf 0 4000 && legsB P 0 L) := rfl
set_option maxRecDepth 100000 in
set_option maxHeartbeats 2000000 in
theorem dgMay_any (pv : Value) (P : Pln) (beg : Int) (s1 s2 : Option Addr) (ns nr k1 k2 : Nat) (nm : ByteArray) (st fr lf : Int) (la : Option Addr) (lc : Nat) (L : List Leg) (w : World) (hP : IsPln w pv P) (hL : IsLegs w (.slice la L.length lc) L) (hn : nm.size ≤ maxLen) (hns : ns ≤ maxLen) :
    Calls Tryz.prog 35 #[pv, .agg #[.int .i64 beg, .slice s1 ns k1, .slice s2 nr k2], .agg #[.string nm, .int .i64 st, .int .i64 fr, .int .i64 lf, .slice la L.length lc]] w fun e w' => e = .returned (.bool (runB P ns ⟨nm, st, fr, lf, L⟩)) ∧ Gr w w' := by
  have HPI := Lib.hid hP
  have HLG := Lib.hid hL
  obtain ⟨a1, c1, a2, c2, a3, c3, a4, c4, rfl, -, -, h3, -⟩ := hP
  have hm3 := IsRow.len h3
  obtain ⟨-, -, -, hlm, -⟩ := hL.form
  unfold maxLen at hm3 hlm hns
  have g0 : Gr w (((w.alloc (.cells #[.slice a1 P.es.length c1, .slice a2 P.js.length c2, .slice a3 P.ss.length c3, .slice a4 P.ls.length c4, .int .i64 P.top, .int .i64 P.brake, .int .i64 P.margin, .int .i64 P.throw, .bool P.hard] 27)).alloc (.cells #[.int .i64 beg, .slice s1 ns k1, .slice s2 nr k2] 31)).alloc (.cells #[.string nm, .int .i64 st, .int .i64 fr, .int .i64 lf, .slice la L.length lc] 51)) := (((Gr.refl _).alloc _).alloc _).alloc _
  have HNM := Lib.hid (fun w' => name_any nm hn w')
  have H2 := Lib.hid (fun w' => dgIn_any st ((ns : Int) - 1) w')
  have H3 := Lib.hid (fun w' => dgIn_any fr ((P.ss.length : Int) - 1) w')
  have H4 := Lib.hid (fun w' => dgIn_any lf 4000 w')
  have HB := Lib.hid (fun (w' : World) (g : Gr (((w.alloc (.cells #[.slice a1 P.es.length c1, .slice a2 P.js.length c2, .slice a3 P.ss.length c3, .slice a4 P.ls.length c4, .int .i64 P.top, .int .i64 P.brake, .int .i64 P.margin, .int .i64 P.throw, .bool P.hard] 27)).alloc (.cells #[.int .i64 beg, .slice s1 ns k1, .slice s2 nr k2] 31)).alloc (.cells #[.string nm, .int .i64 st, .int .i64 fr, .int .i64 lf, .slice la L.length lc] 51)) w') => (PBox.new w P (.slice a1 P.es.length c1) (.slice a2 P.js.length c2) (.slice a3 P.ss.length c3) (.slice a4 P.ls.length c4)).gr ((((Gr.refl _).alloc _).alloc _).trans g))
  have HR := Lib.hid (runB_eq P ns nm st fr lf L)
  generalize runB P ns ⟨nm, st, fr, lf, L⟩ = R at HR ⊢
  unfold plnV at HPI ⊢
  generalize nmB nm = q1 at HNM HR
  generalize winB st 0 ((ns : Int) - 1) = q2 at H2 HR
  generalize winB fr 0 ((P.ss.length : Int) - 1) = q3 at H3 HR
  generalize winB lf 0 4000 = q4 at H4 HR
  clear hL h3
  cases q1
  · have HQ : Hid (R = false) := by show _ = _; rw [HR.out]; simp
    clear HR
    go_enter Tryz.func35, Tryz.ntmps35
    go_wp2_with (first | (go_at_call 72; (with_reducible refine (HNM.out _).mono ?_); rintro e w2 ⟨rfl, hq⟩; obtain rfl := hq.symm) | fail)
    go_ret
    exact ⟨ret_bool HQ.out.symm, g0⟩
  cases q2
  · have HQ : Hid (R = false) := by show _ = _; rw [HR.out]; simp
    clear HR
    go_enter Tryz.func35, Tryz.ntmps35
    go_wp2_with (first | (go_at_call 72; (with_reducible refine (HNM.out _).mono ?_); rintro e w2 ⟨rfl, hq⟩; obtain rfl := hq.symm) | (go_at_call 33; (with_reducible refine (H2.out _).mono ?_); rintro e w2 ⟨rfl, hq⟩; obtain rfl := hq.symm) | fail)
    go_ret
    exact ⟨ret_bool HQ.out.symm, g0⟩
  cases q3
  · have HQ : Hid (R = false) := by show _ = _; rw [HR.out]; simp
    clear HR
    go_enter Tryz.func35, Tryz.ntmps35
    go_wp2_with (first | (go_at_call 72; (with_reducible refine (HNM.out _).mono ?_); rintro e w2 ⟨rfl, hq⟩; obtain rfl := hq.symm) | (go_at_call 33; (with_reducible refine (H2.out _).mono ?_); rintro e w2 ⟨rfl, hq⟩; obtain rfl := hq.symm) | (go_at_call 33; (with_reducible refine (H3.out _).mono ?_); rintro e w2 ⟨rfl, hq⟩; obtain rfl := hq.symm) | fail)
    go_ret
    exact ⟨ret_bool HQ.out.symm, g0⟩
  cases q4
  · have HQ : Hid (R = false) := by show _ = _; rw [HR.out]; simp
    clear HR
    go_enter Tryz.func35, Tryz.ntmps35
    go_wp2_with (first | (go_at_call 72; (with_reducible refine (HNM.out _).mono ?_); rintro e w2 ⟨rfl, hq⟩; obtain rfl := hq.symm) | (go_at_call 33; (with_reducible refine (H2.out _).mono ?_); rintro e w2 ⟨rfl, hq⟩; obtain rfl := hq.symm) | (go_at_call 33; (with_reducible refine (H3.out _).mono ?_); rintro e w2 ⟨rfl, hq⟩; obtain rfl := hq.symm) | (go_at_call 33; (with_reducible refine (H4.out _).mono ?_); rintro e w2 ⟨rfl, hq⟩; obtain rfl := hq.symm) | fail)
    go_ret
    exact ⟨ret_bool HQ.out.symm, g0⟩
  have HQ : Hid (R = legsB P 0 L) := by show _ = _; rw [HR.out]; simp
  clear HR
  go_enter Tryz.func35, Tryz.ntmps35
  go_wp2_with (first | (go_at_call 72; (with_reducible refine (HNM.out _).mono ?_); rintro e w2 ⟨rfl, hq⟩; obtain rfl := hq.symm) | (go_at_call 33; (with_reducible refine (H2.out _).mono ?_); rintro e w2 ⟨rfl, hq⟩; obtain rfl := hq.symm) | (go_at_call 33; (with_reducible refine (H3.out _).mono ?_); rintro e w2 ⟨rfl, hq⟩; obtain rfl := hq.symm) | (go_at_call 33; (with_reducible refine (H4.out _).mono ?_); rintro e w2 ⟨rfl, hq⟩; obtain rfl := hq.symm) | fail)
  go_loopw [7, 43] (fun x y wr => ∃ (k : Nat) (a : Int), x = .int .i64 a ∧ y = .int .i64 k ∧ k ≤ L.length ∧ Gr (((w.alloc (.cells #[.slice a1 P.es.length c1, .slice a2 P.js.length c2, .slice a3 P.ss.length c3, .slice a4 P.ls.length c4, .int .i64 P.top, .int .i64 P.brake, .int .i64 P.margin, .int .i64 P.throw, .bool P.hard] 27)).alloc (.cells #[.int .i64 beg, .slice s1 ns k1, .slice s2 nr k2] 31)).alloc (.cells #[.string nm, .int .i64 st, .int .i64 fr, .int .i64 lf, .slice la L.length lc] 51)) wr ∧ Hid (LegK P L k a)) (fun _ y _ => L.length - (intOf y).toNat)
  case atStart => exact ⟨0, 0, rfl, rfl, Nat.zero_le _, Gr.refl _, LegK.start P L⟩
  case round =>
    obtain ⟨k, a, rfl, rfl, hk, g, HA⟩ := hrel
    have gw := g0.trans g
    by_cases hlt : k < L.length
    · have hk1 : (k : Int) < (L.length : Int) := by omega
      obtain ⟨bb, o, hs, z, y0, y1, y2, y3⟩ := (HLG.out.gr gw).at k hlt
      subst hs
      obtain ⟨zb, p0, p1, p2, p3, p4, p5, p6, p7, p8⟩ := HB.out _ g
      have HI := Lib.hid (fun w' => dgIn_any L[k].at_ 2000 w')
      have HLE := Lib.hid (fun (w' : World) (g : Gr w w') => dgLeads_any _ P L[k] w' (HPI.out.gr g))
      have HNo : Hid (winB L[k].at_ a 2000 = false ∨ legTo P L[k] = false → R = false) := fun h => HQ.out.trans (HA.out.no hlt h)
      have HYe : Hid (winB L[k].at_ a 2000 = true → legTo P L[k] = true → LegK P L (k + 1) L[k].at_) := fun h1 h2 => HA.out.yes hlt h1 h2
      have ha := HA.out.2
      clear HA
      unfold plnV Leg.v at HLE
      generalize legTo P L[k] = q at HLE HNo HYe
      generalize L[k] = l at y0 y1 y2 y3 HI HLE HNo HYe
      obtain ⟨tn, at_, en, tg⟩ := l
      dsimp only at y0 y1 y2 y3 HI HLE HNo HYe
      have zl : w.heap.size < wr.heap.size + 1 := by omega
      by_cases c1 : 0 ≤ at_ ∧ at_ ≤ 2000
      · rw [(winB_iff at_ 0 2000).2 c1] at HI
        by_cases c2 : at_ < a
        · have HF := Lib.hid (HNo.out (.inl (winB_no (by omega))))
          clear HNo HYe c1
          go_wp2_with (first | (go_at_call 33; (with_reducible refine (HI.out _).mono ?_); rintro e w2 ⟨rfl, hq⟩; obtain rfl := hq.symm) | fail)
          go_ret
          exact ⟨ret_bool HF.out.symm, gw.alloc _⟩
        cases q
        · have HF := Lib.hid (HNo.out (.inr rfl))
          clear HNo HYe c1
          go_wp2_with (first | (go_at_call 33; (with_reducible refine (HI.out _).mono ?_); rintro e w2 ⟨rfl, hq⟩; obtain rfl := hq.symm) | (go_at_call 73; (with_reducible refine (HLE.out _ (gw.alloc _)).mono ?_); rintro e w3 ⟨rfl, g3⟩) | fail)
          go_ret
          exact ⟨ret_bool HF.out.symm, (gw.alloc _).trans g3⟩
        · have HK := Lib.hid (HYe.out ((winB_iff _ _ _).2 (by omega)) rfl)
          clear HNo HYe c1
          go_wp2_with (first | (go_at_call 33; (with_reducible refine (HI.out _).mono ?_); rintro e w2 ⟨rfl, hq⟩; obtain rfl := hq.symm) | (go_at_call 73; (with_reducible refine (HLE.out _ (gw.alloc _)).mono ?_); rintro e w3 ⟨rfl, g3⟩; have n1 := (g3.cell wr.heap.size 1 (by simp)).trans (show _ = some (Value.int .i64 at_) by rw [World.cell?_alloc_mark]; rfl); have zn : wr.heap.size < w3.heap.size := Nat.lt_of_lt_of_le (by simp) g3.size) | fail)
          go_roundw
          case rel => exact ⟨k + 1, at_, rfl, by go_num, hlt, (g.alloc _).trans g3, HK.out⟩
          case measure => simp [intOf]; omega
      · rw [winB_no c1] at HI
        have HF := Lib.hid (HNo.out (.inl (winB_no (by omega))))
        clear HNo HYe c1
        go_wp2_with (first | (go_at_call 33; (with_reducible refine (HI.out _).mono ?_); rintro e w2 ⟨rfl, hq⟩; obtain rfl := hq.symm) | fail)
        go_ret
        exact ⟨ret_bool HF.out.symm, gw.alloc _⟩
    · have hk1 : ¬ (k : Int) < (L.length : Int) := by omega
      have HF := Lib.hid (HQ.out.trans (HA.out.done hlt))
      go_wp2_with fail
      go_ret
      exact ⟨ret_bool HF.out.symm, gw⟩
end Go.Proofs.YtgjnlgcdpbilfaaGreatDoor
namespace Go.Proofs.YtgjnlgcdpbilfaaGreatDoor
open Go.ChangeShapes Go.WideShapes Go.ChangeAt Go.RowKit Go.Maps
set_option linter.unusedVariables false
set_option linter.unusedSimpArgs false
set_option maxHeartbeats 400000 in
theorem idxRun1_any (L : List Rn) (p : Rn → Bool) (v : Value) (w : World) (hL : IsRuns w v L)
    (hc : ∀ (w' : World), Gr w w' → ∀ (i : Nat) (hi : i < L.length) (la : Option Addr) (lc : Nat), IsLegs w' (.slice la L[i].legs.length lc) L[i].legs → Calls Tryz.prog 31 #[.agg #[.string L[i].nm, .int .i64 L[i].st, .int .i64 L[i].fr, .int .i64 L[i].lf, .slice la L[i].legs.length lc]] w' fun e w'' => e = .returned (.bool (p L[i])) ∧ Gr w' w'') :
    Calls Tryz.prog 68 #[v, .func (.func 31) #[] #[]] w fun e w' => e = .returned (.int .i64 (fstN p L)) ∧ Gr w w' := by
  have HL := Lib.hid hL
  obtain ⟨a, c, rfl, hm, -⟩ := hL.form
  unfold maxLen at hm
  have HC := Lib.hid hc
  clear hc hL
  go_enter Tryz.func68, Tryz.ntmps68
  go_wp2_with fail
  go_loopw [5, 8] (fun _ x wr => ∃ k : Nat, x = .int .i64 k ∧ k ≤ L.length ∧ Gr w wr ∧ Hid (∀ i (hi : i < L.length), i < k → p L[i] = false)) (fun _ x _ => L.length - (intOf x).toNat)
  case atStart => exact ⟨0, rfl, Nat.zero_le _, Gr.refl _, fun i _ h => by omega⟩
  case round =>
    obtain ⟨k, rfl, hk, g, HA⟩ := hrel
    by_cases hlt : k < L.length
    · have hk1 : (k : Int) < (L.length : Int) := by omega
      obtain ⟨bb, o, la, lc, hs, z, y0, y1, y2, y3, y4, hlg⟩ := (HL.out.gr g).at k hlt
      subst hs
      have HLG := Lib.hid hlg
      have HP := Lib.hid (fun w' (h : Gr w w') (hl : IsLegs w' (.slice la L[k].legs.length lc) L[k].legs) => HC.out w' h k hlt la lc hl)
      have HY : Hid (p L[k] = true → fstN p L = k) := fun h => fstN_go p hlt h fun i hi hik => HA.out i hi hik
      have HN : Hid (p L[k] = false → ∀ i (hi : i < L.length), i < k + 1 → p L[i] = false) := fun h i hi hik => by
        by_cases e : i = k
        · subst e; exact h
        · exact HA.out i hi (by omega)
      clear HA hlg
      generalize p L[k] = q at HP HY HN
      generalize L[k] = s at y0 y1 y2 y3 y4 HP HLG
      obtain ⟨nm, st, fr, lf, lg⟩ := s
      dsimp only at y0 y1 y2 y3 y4 HP HLG
      cases q
      · have HN2 := Lib.hid (HN.out rfl)
        clear HY HN
        go_wp2_with (first | (go_at_call 31; (with_reducible refine (HP.out _ g HLG.out).mono ?_); rintro e w2 ⟨rfl, g2⟩) | fail)
        go_roundw
        case rel => exact ⟨k + 1, by go_num, hlt, g.trans g2, HN2.out⟩
        case measure => simp [intOf]; omega
      · have HY2 := Lib.hid (HY.out rfl)
        clear HY HN
        go_wp2_with (first | (go_at_call 31; (with_reducible refine (HP.out _ g HLG.out).mono ?_); rintro e w2 ⟨rfl, g2⟩) | fail)
        go_ret
        exact ⟨ret_int HY2.out.symm, g.trans g2⟩
    · have hk1 : ¬ (k : Int) < (L.length : Int) := by omega
      have HR := Lib.hid (fstN_no p fun i hi => HA.out i hi (by omega))
      go_wp2_with fail
      go_ret
      exact ⟨ret_int HR.out.symm, g⟩
theorem contRun1_any (L : List Rn) (p : Rn → Bool) (v : Value) (w : World) (hL : IsRuns w v L)
    (hc : ∀ (w' : World), Gr w w' → ∀ (i : Nat) (hi : i < L.length) (la : Option Addr) (lc : Nat), IsLegs w' (.slice la L[i].legs.length lc) L[i].legs → Calls Tryz.prog 31 #[.agg #[.string L[i].nm, .int .i64 L[i].st, .int .i64 L[i].fr, .int .i64 L[i].lf, .slice la L[i].legs.length lc]] w' fun e w'' => e = .returned (.bool (p L[i])) ∧ Gr w' w'') :
    Calls Tryz.prog 30 #[v, .func (.func 31) #[] #[]] w fun e w' => e = .returned (.bool (L.any p)) ∧ Gr w w' := by
  have HI := Lib.hid (idxRun1_any L p v w hL hc)
  have HA := Lib.hid (fstN_any p L)
  generalize fstN p L = q at HI HA
  clear hc
  go_enter Tryz.func30, Tryz.ntmps30
  go_wp2_with (first | (go_at_call 68; (with_reducible refine (HI.out).mono ?_); rintro e w2 ⟨rfl, g2⟩) | fail)
  go_ret
  exact ⟨ret_bool HA.out, g2⟩
set_option maxHeartbeats 400000 in
theorem idxRun2_any (L : List Rn) (p : Rn → Bool) (v : Value) (u1 : Value) (u2 : Value) (w : World) (hL : IsRuns w v L)
    (hc : ∀ (w' : World), Gr w w' → ∀ (i : Nat) (hi : i < L.length) (la : Option Addr) (lc : Nat), IsLegs w' (.slice la L[i].legs.length lc) L[i].legs → Calls Tryz.prog 34 #[.agg #[.string L[i].nm, .int .i64 L[i].st, .int .i64 L[i].fr, .int .i64 L[i].lf, .slice la L[i].legs.length lc], u1, u2] w' fun e w'' => e = .returned (.bool (p L[i])) ∧ Gr w' w'') :
    Calls Tryz.prog 68 #[v, .func (.func 34) #[] #[u1, u2]] w fun e w' => e = .returned (.int .i64 (fstN p L)) ∧ Gr w w' := by
  have HL := Lib.hid hL
  obtain ⟨a, c, rfl, hm, -⟩ := hL.form
  unfold maxLen at hm
  have HC := Lib.hid hc
  clear hc hL
  go_enter Tryz.func68, Tryz.ntmps68
  go_wp2_with fail
  go_loopw [5, 8] (fun _ x wr => ∃ k : Nat, x = .int .i64 k ∧ k ≤ L.length ∧ Gr w wr ∧ Hid (∀ i (hi : i < L.length), i < k → p L[i] = false)) (fun _ x _ => L.length - (intOf x).toNat)
  case atStart => exact ⟨0, rfl, Nat.zero_le _, Gr.refl _, fun i _ h => by omega⟩
  case round =>
    obtain ⟨k, rfl, hk, g, HA⟩ := hrel
    by_cases hlt : k < L.length
    · have hk1 : (k : Int) < (L.length : Int) := by omega
      obtain ⟨bb, o, la, lc, hs, z, y0, y1, y2, y3, y4, hlg⟩ := (HL.out.gr g).at k hlt
      subst hs
      have HLG := Lib.hid hlg
      have HP := Lib.hid (fun w' (h : Gr w w') (hl : IsLegs w' (.slice la L[k].legs.length lc) L[k].legs) => HC.out w' h k hlt la lc hl)
      have HY : Hid (p L[k] = true → fstN p L = k) := fun h => fstN_go p hlt h fun i hi hik => HA.out i hi hik
      have HN : Hid (p L[k] = false → ∀ i (hi : i < L.length), i < k + 1 → p L[i] = false) := fun h i hi hik => by
        by_cases e : i = k
        · subst e; exact h
        · exact HA.out i hi (by omega)
      clear HA hlg
      generalize p L[k] = q at HP HY HN
      generalize L[k] = s at y0 y1 y2 y3 y4 HP HLG
      obtain ⟨nm, st, fr, lf, lg⟩ := s
      dsimp only at y0 y1 y2 y3 y4 HP HLG
      cases q
      · have HN2 := Lib.hid (HN.out rfl)
        clear HY HN
        go_wp2_with (first | (go_at_call 34; (with_reducible refine (HP.out _ g HLG.out).mono ?_); rintro e w2 ⟨rfl, g2⟩) | fail)
        go_roundw
        case rel => exact ⟨k + 1, by go_num, hlt, g.trans g2, HN2.out⟩
        case measure => simp [intOf]; omega
      · have HY2 := Lib.hid (HY.out rfl)
        clear HY HN
        go_wp2_with (first | (go_at_call 34; (with_reducible refine (HP.out _ g HLG.out).mono ?_); rintro e w2 ⟨rfl, g2⟩) | fail)
        go_ret
        exact ⟨ret_int HY2.out.symm, g.trans g2⟩
    · have hk1 : ¬ (k : Int) < (L.length : Int) := by omega
      have HR := Lib.hid (fstN_no p fun i hi => HA.out i hi (by omega))
      go_wp2_with fail
      go_ret
      exact ⟨ret_int HR.out.symm, g⟩
theorem contRun2_any (L : List Rn) (p : Rn → Bool) (v : Value) (u1 : Value) (u2 : Value) (w : World) (hL : IsRuns w v L)
    (hc : ∀ (w' : World), Gr w w' → ∀ (i : Nat) (hi : i < L.length) (la : Option Addr) (lc : Nat), IsLegs w' (.slice la L[i].legs.length lc) L[i].legs → Calls Tryz.prog 34 #[.agg #[.string L[i].nm, .int .i64 L[i].st, .int .i64 L[i].fr, .int .i64 L[i].lf, .slice la L[i].legs.length lc], u1, u2] w' fun e w'' => e = .returned (.bool (p L[i])) ∧ Gr w' w'') :
    Calls Tryz.prog 30 #[v, .func (.func 34) #[] #[u1, u2]] w fun e w' => e = .returned (.bool (L.any p)) ∧ Gr w w' := by
  have HI := Lib.hid (idxRun2_any L p v u1 u2 w hL hc)
  have HA := Lib.hid (fstN_any p L)
  generalize fstN p L = q at HI HA
  clear hc
  go_enter Tryz.func30, Tryz.ntmps30
  go_wp2_with (first | (go_at_call 68; (with_reducible refine (HI.out).mono ?_); rintro e w2 ⟨rfl, g2⟩) | fail)
  go_ret
  exact ⟨ret_bool HA.out, g2⟩
set_option maxHeartbeats 400000 in
theorem idxRun3_any (L : List Rn) (p : Rn → Bool) (v : Value) (u1 : Value) (w : World) (hL : IsRuns w v L)
    (hc : ∀ (w' : World), Gr w w' → ∀ (i : Nat) (hi : i < L.length) (la : Option Addr) (lc : Nat), IsLegs w' (.slice la L[i].legs.length lc) L[i].legs → Calls Tryz.prog 36 #[.agg #[.string L[i].nm, .int .i64 L[i].st, .int .i64 L[i].fr, .int .i64 L[i].lf, .slice la L[i].legs.length lc], u1] w' fun e w'' => e = .returned (.bool (p L[i])) ∧ Gr w' w'') :
    Calls Tryz.prog 68 #[v, .func (.func 36) #[] #[u1]] w fun e w' => e = .returned (.int .i64 (fstN p L)) ∧ Gr w w' := by
  have HL := Lib.hid hL
  obtain ⟨a, c, rfl, hm, -⟩ := hL.form
  unfold maxLen at hm
  have HC := Lib.hid hc
  clear hc hL
  go_enter Tryz.func68, Tryz.ntmps68
  go_wp2_with fail
  go_loopw [5, 8] (fun _ x wr => ∃ k : Nat, x = .int .i64 k ∧ k ≤ L.length ∧ Gr w wr ∧ Hid (∀ i (hi : i < L.length), i < k → p L[i] = false)) (fun _ x _ => L.length - (intOf x).toNat)
  case atStart => exact ⟨0, rfl, Nat.zero_le _, Gr.refl _, fun i _ h => by omega⟩
  case round =>
    obtain ⟨k, rfl, hk, g, HA⟩ := hrel
    by_cases hlt : k < L.length
    · have hk1 : (k : Int) < (L.length : Int) := by omega
      obtain ⟨bb, o, la, lc, hs, z, y0, y1, y2, y3, y4, hlg⟩ := (HL.out.gr g).at k hlt
      subst hs
      have HLG := Lib.hid hlg
      have HP := Lib.hid (fun w' (h : Gr w w') (hl : IsLegs w' (.slice la L[k].legs.length lc) L[k].legs) => HC.out w' h k hlt la lc hl)
      have HY : Hid (p L[k] = true → fstN p L = k) := fun h => fstN_go p hlt h fun i hi hik => HA.out i hi hik
      have HN : Hid (p L[k] = false → ∀ i (hi : i < L.length), i < k + 1 → p L[i] = false) := fun h i hi hik => by
        by_cases e : i = k
        · subst e; exact h
        · exact HA.out i hi (by omega)
      clear HA hlg
      generalize p L[k] = q at HP HY HN
      generalize L[k] = s at y0 y1 y2 y3 y4 HP HLG
      obtain ⟨nm, st, fr, lf, lg⟩ := s
      dsimp only at y0 y1 y2 y3 y4 HP HLG
      cases q
      · have HN2 := Lib.hid (HN.out rfl)
        clear HY HN
        go_wp2_with (first | (go_at_call 36; (with_reducible refine (HP.out _ g HLG.out).mono ?_); rintro e w2 ⟨rfl, g2⟩) | fail)
        go_roundw
        case rel => exact ⟨k + 1, by go_num, hlt, g.trans g2, HN2.out⟩
        case measure => simp [intOf]; omega
      · have HY2 := Lib.hid (HY.out rfl)
        clear HY HN
        go_wp2_with (first | (go_at_call 36; (with_reducible refine (HP.out _ g HLG.out).mono ?_); rintro e w2 ⟨rfl, g2⟩) | fail)
        go_ret
        exact ⟨ret_int HY2.out.symm, g.trans g2⟩
    · have hk1 : ¬ (k : Int) < (L.length : Int) := by omega
      have HR := Lib.hid (fstN_no p fun i hi => HA.out i hi (by omega))
      go_wp2_with fail
      go_ret
      exact ⟨ret_int HR.out.symm, g⟩
theorem contRun3_any (L : List Rn) (p : Rn → Bool) (v : Value) (u1 : Value) (w : World) (hL : IsRuns w v L)
    (hc : ∀ (w' : World), Gr w w' → ∀ (i : Nat) (hi : i < L.length) (la : Option Addr) (lc : Nat), IsLegs w' (.slice la L[i].legs.length lc) L[i].legs → Calls Tryz.prog 36 #[.agg #[.string L[i].nm, .int .i64 L[i].st, .int .i64 L[i].fr, .int .i64 L[i].lf, .slice la L[i].legs.length lc], u1] w' fun e w'' => e = .returned (.bool (p L[i])) ∧ Gr w' w'') :
    Calls Tryz.prog 30 #[v, .func (.func 36) #[] #[u1]] w fun e w' => e = .returned (.bool (L.any p)) ∧ Gr w w' := by
  have HI := Lib.hid (idxRun3_any L p v u1 w hL hc)
  have HA := Lib.hid (fstN_any p L)
  generalize fstN p L = q at HI HA
  clear hc
  go_enter Tryz.func30, Tryz.ntmps30
  go_wp2_with (first | (go_at_call 68; (with_reducible refine (HI.out).mono ?_); rintro e w2 ⟨rfl, g2⟩) | fail)
  go_ret
  exact ⟨ret_bool HA.out, g2⟩
theorem check1r_any (nm : ByteArray) (st fr lf : Int) (la : Option Addr) (n lc : Nat) (hn : n ≤ maxLen) (w : World) :
    Calls Tryz.prog 31 #[.agg #[.string nm, .int .i64 st, .int .i64 fr, .int .i64 lf, .slice la n lc]] w fun e w' => e = .returned (.bool (decide (12 < n))) ∧ Gr w w' := by
  unfold maxLen at hn
  by_cases h : 12 < n
  · have h1 : (12 : Int) < (n : Int) := by omega
    go_enter Tryz.func31, Tryz.ntmps31
    go_wp2_with fail
    go_ret
    exact ⟨ret_bool (by first | (rw [decide_eq_true h]; done) | simp [h]), (Gr.refl _).alloc _⟩
  · have h1 : ¬ (12 : Int) < (n : Int) := by omega
    go_enter Tryz.func31, Tryz.ntmps31
    go_wp2_with fail
    go_ret
    exact ⟨ret_bool (by first | (rw [decide_eq_false h]; done) | (simp [h])), (Gr.refl _).alloc _⟩
set_option maxRecDepth 100000 in
theorem check2r_any (P : Pln) (a1 a2 a3 a4 : Option Addr) (c1 c2 c3 c4 : Nat) (beg : Int) (s1 s2 : Option Addr) (ns nr k1 k2 : Nat) (nm : ByteArray) (st fr lf : Int) (la : Option Addr) (lc : Nat) (L : List Leg) (bp bd : Nat) (w : World)
    (hP : IsPln w (plnV P (.slice a1 P.es.length c1) (.slice a2 P.js.length c2) (.slice a3 P.ss.length c3) (.slice a4 P.ls.length c4)) P) (hb : PBox w bp P (.slice a1 P.es.length c1) (.slice a2 P.js.length c2) (.slice a3 P.ss.length c3) (.slice a4 P.ls.length c4))
    (hd : bd < w.heap.size ∧ w.cell? ⟨bd, 0, none⟩ = some (.int .i64 beg) ∧ w.cell? ⟨bd, 1, none⟩ = some (.slice s1 ns k1) ∧ w.cell? ⟨bd, 2, none⟩ = some (.slice s2 nr k2)) (hL : IsLegs w (.slice la L.length lc) L) (hn : nm.size ≤ maxLen) (hns : ns ≤ maxLen) :
    Calls Tryz.prog 34 #[.agg #[.string nm, .int .i64 st, .int .i64 fr, .int .i64 lf, .slice la L.length lc], .pointer (some ⟨bp, 0, none⟩), .pointer (some ⟨bd, 0, none⟩)] w fun e w' => e = .returned (.bool (!runB P ns ⟨nm, st, fr, lf, L⟩)) ∧ Gr w w' := by
  have g0 : Gr w (w.alloc (.cells #[.string nm, .int .i64 st, .int .i64 fr, .int .i64 lf, .slice la L.length lc] 51)) := (Gr.refl _).alloc _
  have HM := Lib.hid (dgMay_any _ P beg s1 s2 ns nr k1 k2 nm st fr lf la lc L _ (hP.gr g0) (hL.gr g0) hn hns)
  generalize runB P ns ⟨nm, st, fr, lf, L⟩ = R at HM ⊢
  unfold plnV at HM
  obtain ⟨zb, p0, p1, p2, p3, p4, p5, p6, p7, p8⟩ := hb
  obtain ⟨zd, d0, d1, d2⟩ := hd
  have zz : bp < w.heap.size + 1 := by omega
  have zy : bd < w.heap.size + 1 := by omega
  clear hP hL
  cases R
  all_goals
    go_enter Tryz.func34, Tryz.ntmps34
    go_wp2_with (first | (go_at_call 35; (with_reducible refine (HM.out).mono ?_); rintro e w2 ⟨rfl, g2⟩) | fail)
    go_ret
    exact ⟨rfl, g0.trans g2⟩
theorem check3r_any (nm : ByteArray) (st fr lf : Int) (la : Option Addr) (n lc : Nat) (m : ByteArray) (b : Nat) (w : World) (hb : b < w.heap.size) (hc : w.cell? ⟨b, 0, none⟩ = some (.string m)) :
    Calls Tryz.prog 36 #[.agg #[.string nm, .int .i64 st, .int .i64 fr, .int .i64 lf, .slice la n lc], .pointer (some ⟨b, 0, none⟩)] w fun e w' => e = .returned (.bool (decide (nm = m))) ∧ Gr w w' := by
  go_enter Tryz.func36, Tryz.ntmps36
  go_wp2_with fail
  go_ret
  exact ⟨ret_bool (str_dec _ _), (Gr.refl _).alloc _⟩
end Go.Proofs.YtgjnlgcdpbilfaaGreatDoor
namespace Go.Proofs.YtgjnlgcdpbilfaaGreatDoor
open Go.ChangeShapes Go.WideShapes Go.ChangeAt Go.RowKit Go.Maps
set_option linter.unusedVariables false
set_option linter.unusedSimpArgs false
theorem contCheck_any (L : List Stk) (p : Stk → Bool) (v cap : Value) (w : World) (hL : IsStks w v L)
    (hc : ∀ (w' : World), Gr w w' → ∀ (i : Nat) (hi : i < L.length), Calls Tryz.prog 71 #[L[i].v, cap] w' fun e w'' => e = .returned (.bool (p L[i])) ∧ Gr w' w'') :
    Calls Tryz.prog 70 #[v, .func (.func 71) #[] #[cap]] w fun e w' => e = .returned (.bool (L.any p)) ∧ Gr w w' := by
  have HI := Lib.hid (idxCheck_any L p v cap w hL hc)
  have HA := Lib.hid (fstN_any p L)
  generalize fstN p L = q at HI HA
  clear hc
  go_enter Tryz.func70, Tryz.ntmps70
  go_wp2_with (first | (go_at_call 105; (with_reducible refine (HI.out).mono ?_); rintro e w2 ⟨rfl, g2⟩) | fail)
  go_ret
  exact ⟨ret_bool HA.out, g2⟩
set_option maxHeartbeats 1000000 in
theorem stCheck_any (pv v : Value) (P : Pln) (L : List Stk) (w : World) (hP : IsPln w pv P) (hL : IsStks w v L) (hok : ∀ s ∈ L, s.nm.size ≤ maxLen) :
    Calls Tryz.prog 32 #[pv, v] w fun e w' => e = .returned (.int .i64 (checkS P.top P.brake L)) ∧ Gr w w' := by
  obtain ⟨a1, c1, a2, c2, a3, c3, a4, c4, rfl, -⟩ := hP
  have g0 : Gr w (w.alloc (.cells #[.slice a1 P.es.length c1, .slice a2 P.js.length c2, .slice a3 P.ss.length c3, .slice a4 P.ls.length c4, .int .i64 P.top, .int .i64 P.brake, .int .i64 P.margin, .int .i64 P.throw, .bool P.hard] 27)) := (Gr.refl _).alloc _
  have HW := Lib.hid (fun (w' : World) (g : Gr w w') => wrong_any v L w' (hL.gr g) hok)
  have HC := Lib.hid (fun (w' : World) (g : Gr (w.alloc (.cells #[.slice a1 P.es.length c1, .slice a2 P.js.length c2, .slice a3 P.ss.length c3, .slice a4 P.ls.length c4, .int .i64 P.top, .int .i64 P.brake, .int .i64 P.margin, .int .i64 P.throw, .bool P.hard] 27)) w') => contCheck_any L (shortS P.top P.brake) v (.pointer (some ⟨w.heap.size, 0, none⟩)) w' (hL.gr (g0.trans g)) (fun w2 g2 i hi => by
    obtain ⟨z, q0, q1, q2, q3, q4, q5, q6, q7, q8⟩ := (PBox.new w P (.slice a1 P.es.length c1) (.slice a2 P.js.length c2) (.slice a3 P.ss.length c3) (.slice a4 P.ls.length c4)).gr (g.trans g2)
    exact check1_any L[i] P.top P.brake w.heap.size w2 z q4 q5))
  have HE : Hid (checkS P.top P.brake L = if plainE L ≠ 0 then plainE L else if L.any (shortS P.top P.brake) then 9 else 0) := rfl
  unfold plnV
  generalize checkS P.top P.brake L = R at HE ⊢
  generalize plainE L = E at HW HE
  by_cases hE : E = 0
  · have tE : (E != 0) = false := bneF hE
    generalize L.any (shortS P.top P.brake) = q at HC HE
    cases q
    · have HR : Hid (R = 0) := by show _ = _; rw [HE.out, if_neg (by omega)]; rfl
      subst hE
      go_enter Tryz.func32, Tryz.ntmps32
      go_wp2_with (first | (go_at_call 69; (with_reducible refine (HW.out _ g0).mono ?_); rintro e w2 ⟨rfl, g2⟩) | (go_at_call 70; (with_reducible refine (HC.out _ g2).mono ?_); rintro e w3 ⟨rfl, g3⟩) | fail)
      go_ret
      exact ⟨ret_int HR.out.symm, (g0.trans g2).trans g3⟩
    · have HR : Hid (R = 9) := by show _ = _; rw [HE.out, if_neg (by omega)]; rfl
      subst hE
      go_enter Tryz.func32, Tryz.ntmps32
      go_wp2_with (first | (go_at_call 69; (with_reducible refine (HW.out _ g0).mono ?_); rintro e w2 ⟨rfl, g2⟩) | (go_at_call 70; (with_reducible refine (HC.out _ g2).mono ?_); rintro e w3 ⟨rfl, g3⟩) | fail)
      go_ret
      exact ⟨ret_int HR.out.symm, (g0.trans g2).trans g3⟩
  · have tE : (E != 0) = true := bneT hE
    have HR : Hid (R = E) := by show _ = _; rw [HE.out, if_pos hE]
    clear hE
    go_enter Tryz.func32, Tryz.ntmps32
    go_wp2_with (first | (go_at_call 69; (with_reducible refine (HW.out _ g0).mono ?_); rintro e w2 ⟨rfl, g2⟩) | fail)
    go_ret
    exact ⟨ret_int HR.out.symm, g0.trans g2⟩
set_option maxHeartbeats 1000000 in
theorem refCheckS_any (pv v : Value) (P : Pln) (L : List Stk) (w : World) (hP : IsPln w pv P) (hL : IsStks w v L) (hok : ∀ s ∈ L, s.nm.size ≤ maxLen) :
    Calls Tryz.prog 24 #[pv, v] w fun e w' => e = .returned (.int .i64 (checkS P.top P.brake L)) ∧ Gr w w' := by
  obtain ⟨a1, c1, a2, c2, a3, c3, a4, c4, rfl, -⟩ := hP
  have g0 : Gr w (w.alloc (.cells #[.slice a1 P.es.length c1, .slice a2 P.js.length c2, .slice a3 P.ss.length c3, .slice a4 P.ls.length c4, .int .i64 P.top, .int .i64 P.brake, .int .i64 P.margin, .int .i64 P.throw, .bool P.hard] 27)) := (Gr.refl _).alloc _
  have HL := Lib.hid hL
  obtain ⟨a, c, rfl, hm, -⟩ := hL.form
  unfold maxLen at hm
  have HW := Lib.hid (fun (w' : World) (g : Gr w w') => plain_any _ L w' (HL.out.gr g) hok)
  have HB := Lib.hid (fun (w' : World) (g : Gr (w.alloc (.cells #[.slice a1 P.es.length c1, .slice a2 P.js.length c2, .slice a3 P.ss.length c3, .slice a4 P.ls.length c4, .int .i64 P.top, .int .i64 P.brake, .int .i64 P.margin, .int .i64 P.throw, .bool P.hard] 27)) w') => (PBox.new w P (.slice a1 P.es.length c1) (.slice a2 P.js.length c2) (.slice a3 P.ss.length c3) (.slice a4 P.ls.length c4)).gr g)
  have HE : Hid (checkS P.top P.brake L = if plainE L ≠ 0 then plainE L else if L.any (shortS P.top P.brake) then 9 else 0) := rfl
  unfold plnV
  generalize checkS P.top P.brake L = R at HE ⊢
  generalize plainE L = E at HW HE
  clear hL hok
  by_cases hE : E = 0
  · have tE : (E != 0) = false := bneF hE
    have HR0 : Hid (R = if L.any (shortS P.top P.brake) then 9 else 0) := by show _ = _; rw [HE.out, if_neg (by omega)]
    subst hE
    clear HE
    go_enter Tryz.func24, Tryz.ntmps24
    go_wp2_with (first | (go_at_call 59; (with_reducible refine (HW.out _ g0).mono ?_); rintro e w2 ⟨rfl, g2⟩) | fail)
    have gw2 := g0.trans g2
    go_loopw [15] (fun y wr => ∃ (k : Nat), y = .int .i64 k ∧ k ≤ L.length ∧ Gr w2 wr ∧ Hid (∀ i (hi : i < L.length), i < k → shortS P.top P.brake L[i] = false)) (fun y _ => L.length - (intOf y).toNat)
    case atStart => exact ⟨0, rfl, Nat.zero_le _, Gr.refl _, fun i _ h => by omega⟩
    case round =>
      obtain ⟨k, rfl, hk, g3, HA⟩ := hrel
      have g := gw2.trans g3
      obtain ⟨zb, p0, p1, p2, p3, p4, p5, p6, p7, p8⟩ := HB.out _ (g2.trans g3)
      by_cases hlt : k < L.length
      · have hk1 : (k : Int) < (L.length : Int) := by omega
        obtain ⟨bb, o, hs, z, y0, y1, y2, y3, y4⟩ := (HL.out.gr g).at k hlt
        subst hs
        have HN1 : Hid (shortS P.top P.brake L[k] = true → L.any (shortS P.top P.brake) = true) := fun h => List.any_eq_true.2 ⟨_, List.getElem_mem hlt, h⟩
        have HA2 : Hid (shortS P.top P.brake L[k] = false → ∀ i (hi : i < L.length), i < k + 1 → shortS P.top P.brake L[i] = false) := fun h i hi hik => by
          by_cases e : i = k
          · subst e; exact h
          · exact HA.out i hi (by omega)
        have e : shortS P.top P.brake L[k] = (decide (P.top < L[k].t) || decide (L[k].b < P.brake)) := rfl
        rw [e] at HN1 HA2
        clear e HA
        generalize hL0 : L[k] = s at y0 y1 y2 y3 y4 HN1 HA2
        clear hL0
        obtain ⟨nm, l, t, a', b⟩ := s
        dsimp only at y0 y1 y2 y3 y4 HN1 HA2
        have zz : w.heap.size < wr.heap.size + 1 := by omega
        by_cases h1 : P.top < t
        · have HR : Hid (R = 9) := by show _ = _; rw [HR0.out, HN1.out (by simp [h1])]; rfl
          clear HN1 HA2
          go_wp2_with fail
          go_ret
          exact ⟨ret_int HR.out.symm, g.alloc _⟩
        by_cases h2 : b < P.brake
        · have HR : Hid (R = 9) := by show _ = _; rw [HR0.out, HN1.out (by simp [h2])]; rfl
          clear HN1 HA2
          go_wp2_with fail
          go_ret
          exact ⟨ret_int HR.out.symm, g.alloc _⟩
        have HA3 := Lib.hid (HA2.out (by simp [h1, h2]))
        clear HN1 HA2
        go_wp2_with fail
        go_roundw
        case rel => exact ⟨k + 1, by go_num, hlt, g3.alloc _, HA3.out⟩
        case measure => simp [intOf]; omega
      · have hk1 : ¬ (k : Int) < (L.length : Int) := by omega
        have HR : Hid (R = 0) := by
          show _ = _
          rw [HR0.out]
          have : L.any (shortS P.top P.brake) = false := by
            rw [List.any_eq_false]
            intro x hx
            obtain ⟨i, hi, rfl⟩ := List.getElem_of_mem hx
            rw [HA.out i hi (by omega)]; decide
          rw [this]; rfl
        go_wp2_with fail
        go_ret
        exact ⟨ret_int HR.out.symm, g⟩
  · have tE : (E != 0) = true := bneT hE
    have HR : Hid (R = E) := by show _ = _; rw [HE.out, if_pos hE]
    clear hE
    go_enter Tryz.func24, Tryz.ntmps24
    go_wp2_with (first | (go_at_call 59; (with_reducible refine (HW.out _ g0).mono ?_); rintro e w2 ⟨rfl, g2⟩) | fail)
    go_ret
    exact ⟨ret_int HR.out.symm, g0.trans g2⟩
end Go.Proofs.YtgjnlgcdpbilfaaGreatDoor
