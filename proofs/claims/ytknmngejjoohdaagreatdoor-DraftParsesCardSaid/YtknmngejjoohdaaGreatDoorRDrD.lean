/- (*reader).elem. -/
import Derived.Test.YtknmngejjoohdaaGreatDoorRows
import Derived.Test.YtknmngejjoohdaaGreatDoorRDrC
import Derived.Test.YtknmngejjoohdaaGreatDoorB13
import Derived.Test.YtknmngejjoohdaaGreatDoorB1
import Derived.Maps.OwnOps
import Derived.StringKeys
import Derived.Deep.AppendLies
namespace Go.Proofs.YtknmngejjoohdaaGreatDoor
open Go.ChangeShapes Go.WideShapes Go.ChangeAt Go.RowKit Go.Maps
open Go.WideMaps (keyOf_string_mk)
set_option linter.unusedVariables false
set_option linter.unusedSimpArgs false
theorem three_new (w : World) (a b c : Value) (T : TypeId) : (w.alloc (.cells #[a, b, c] T)).cell? ⟨w.heap.size, 0, none⟩ = some a ∧ (w.alloc (.cells #[a, b, c] T)).cell? ⟨w.heap.size, 1, none⟩ = some b ∧ (w.alloc (.cells #[a, b, c] T)).cell? ⟨w.heap.size, 2, none⟩ = some c := by
  refine ⟨?_, ?_, ?_⟩ <;> (rw [World.cell?_alloc_mark]; rfl)
noncomputable def kindF : Value → Option Value := put (put (put (put (fun _ => none) (.string bTrack) (.int .i64 1)) (.string bPoints) (.int .i64 2)) (.string bCross) (.int .i64 3)) (.string bGateE) (.int .i64 4)
theorem kindF_at (x : ByteArray) : (kindF (.string x)).getD (.int .i64 0) = .int .i64 (kindW x) := by
  have e1 : bTrack ≠ bPoints := by decide
  have e2 : bTrack ≠ bCross := by decide
  have e3 : bTrack ≠ bGateE := by decide
  have e4 : bPoints ≠ bCross := by decide
  have e5 : bPoints ≠ bGateE := by decide
  have e6 : bCross ≠ bGateE := by decide
  unfold kindF put kindW
  simp only [Value.string.injEq]
  by_cases h1 : x = bTrack
  · subst h1; simp [e1, e2, e3]
  by_cases h2 : x = bPoints
  · subst h2; simp [e1, e4, e5, h1]
  by_cases h3 : x = bCross
  · subst h3; simp [e6, h1, h2]
  by_cases h4 : x = bGateE
  · subst h4; simp [h1, h2, h3]
  · simp [h1, h2, h3, h4]
theorem kind_map (w : World) : ∃ w1 w2 w3 w4, (Instr.mapUpdate 186 (.map (some w.heap.size)) (.string bTrack) (.int .i64 1)).run Tryz.prog (w.alloc (.map #[] 0)) = .ok () w1 ∧ (Instr.mapUpdate 186 (.map (some w.heap.size)) (.string bPoints) (.int .i64 2)).run Tryz.prog w1 = .ok () w2 ∧
    (Instr.mapUpdate 186 (.map (some w.heap.size)) (.string bCross) (.int .i64 3)).run Tryz.prog w2 = .ok () w3 ∧ (Instr.mapUpdate 186 (.map (some w.heap.size)) (.string bGateE) (.int .i64 4)).run Tryz.prog w3 = .ok () w4 ∧ Gr w w4 ∧
    ∀ x, x.size ≤ maxLen → (Instr.lookup 186 (.map (some w.heap.size)) (.string x) false).run Tryz.prog w4 = .ok (.int .i64 (kindW x)) w4 := by
  have hk : ∀ x : ByteArray, x.size ≤ maxLen → ∃ kl, keyOf Tryz.prog 9 (.string x) = some kl := fun x hx => ⟨_, keyOf_string_mk (P := Tryz.prog) Tryz.underlying9 hx⟩
  obtain ⟨k1, hk1⟩ := hk bTrack (by decide)
  obtain ⟨k2, hk2⟩ := hk bPoints (by decide)
  obtain ⟨k3, hk3⟩ := hk bCross (by decide)
  obtain ⟨k4, hk4⟩ := hk bGateE (by decide)
  have m0 := MapIs.made w Tryz.prog 9
  obtain ⟨w1, r1, m1, g1⟩ := m0.update (t := 186) (e := 3) (val := .int .i64 1) str_keyed Tryz.underlying186 (by decide) hk1
  obtain ⟨w2, r2, m2, g2⟩ := m1.update (t := 186) (e := 3) (val := .int .i64 2) str_keyed Tryz.underlying186 (by decide) hk2
  obtain ⟨w3, r3, m3, g3⟩ := m2.update (t := 186) (e := 3) (val := .int .i64 3) str_keyed Tryz.underlying186 (by decide) hk3
  obtain ⟨w4, r4, m4, g4⟩ := m3.update (t := 186) (e := 3) (val := .int .i64 4) str_keyed Tryz.underlying186 (by decide) hk4
  refine ⟨w1, w2, w3, w4, r1, r2, r3, r4, ?_, fun x hx => ?_⟩
  · exact Gr.grownM (Gr.grownM (Gr.grownM (Gr.grownM ((Gr.refl w).alloc _) g1 (Nat.le_refl _)) g2 (Nat.le_refl _)) g3 (Nat.le_refl _)) g4 (Nat.le_refl _)
  · obtain ⟨kl, hkl⟩ := hk x hx
    rw [m4.lookup (t := 186) (e := 3) str_keyed Tryz.underlying186 (z := .int .i64 0) (by kernel_rfl) hkl]
    exact congrArg (fun v => Result.ok v w4) (kindF_at x)
set_option maxRecDepth 100000 in
set_option maxHeartbeats 4000000 in
theorem rdElem_any (b B k : Nat) (h0 : Option Obj) (v : Value) (x : ByteArray) (t : List ByteArray) (P : Pln) (m : Nat) (w0 w : World) (hb : w0.heap.size ≤ b) (g : Gr w0 w) (hK : KL k h0 w) (hkB : k < B) (hkb : k ≠ b) (hR : RdP 72 b B w P (some true)) (hv : IsVals w v ((x :: t).map Value.string)) (hs : ∀ y ∈ x :: t, y.size ≤ maxLen) (hx : kindW x ≠ 0) (hl : t ≠ []) (hz : P.es.length ≤ 1000000) :
    Calls Tryz.prog 74 #[.pointer (some ⟨b, 0, none⟩), v] w ((RetR 72 w0 b B (KL k h0) (some true)) (elemW P (x :: t))) := by
  obtain ⟨bb, o, c, rfl, hbb, hlm, HC⟩ := vals_form hv (by simp)
  cases t with
  | nil => exact absurd rfl hl
  | cons n t =>
  have y0 : w.cell? ⟨bb, o, none⟩ = some (.string x) := HC.out 0 (by simp)
  have y1 : w.cell? ⟨bb, o + 1, none⟩ = some (.string n) := HC.out 1 (by simp)
  obtain ⟨w1, w2, w3, w4, E1, E2, E3, E4, G4, EL⟩ := kind_map w
  have EX := EL x (hs x (by simp))
  have HNM := Lib.hid (fun w' => name_any n (hs n (by simp)) w')
  have hmm := @run_makeMap Tryz.prog
  unfold bTrack at E1
  unfold bPoints at E2
  unfold bCross at E3
  unfold bGateE at E4
  have hbb4 := Nat.lt_of_lt_of_le hbb G4.size
  replace y0 := (G4.cell _ _ hbb).trans y0
  replace y1 := (G4.cell _ _ hbb).trans y1
  have hkd := kindW_bd x
  clear EL
  obtain ⟨K, hKx⟩ : ∃ K, K = kindW x := ⟨_, rfl⟩
  rw [← hKx] at hkd hx EX
  have HKX := Lib.hid hKx
  clear hKx
  have GG := g.trans G4
  have HRD := Lib.hid (hR.gr G4)
  have HKK := Lib.hid (hK.gr G4)
  clear hR hK hv
  simp only [List.length_cons] at hlm ⊢
  unfold maxLen at hlm
  by_cases h4 : K = 4
  · have t4 : (K == 4) = true := beqT h4
    have t4' : (K != 4) = false := bneF h4
    by_cases hl2 : t.length = 0
    rotate_left
    · have HR : Hid (elemW P (x :: n :: t) = .inl 2) := by
        show _ = _
        match t, hl2 with
        | [d], _ =>
          show (if kindW x ≠ 4 ∧ nmB n = true ∧ numB d 5 = true then .inr { P with es := P.es ++ [⟨n, kindW x, numN d 5⟩] } else .inl 2 : Int ⊕ Pln) = .inl 2
          rw [← HKX.out, if_neg (fun e => e.1 h4)]
        | _ :: _ :: _, _ => rfl
      have t2 : (((t.length + 1 + 1 : Nat) : Int) != 2) = true := bneT (by omega)
      clear hs HC h4 HRD HKK
      have hz0 : (0 : Int) < ((t.length + 1 + 1 : Nat) : Int) := by omega
      have hz1 : (1 : Int) < ((t.length + 1 + 1 : Nat) : Int) := by omega
      generalize t.length + 1 + 1 = z at *
      go_enter Tryz.func74, Tryz.ntmps74
      go_wp2_with (first | (go_at_call 132; (with_reducible refine (HNM.out _).mono ?_); rintro e w5 ⟨rfl, hq⟩; obtain rfl := hq.symm) | fail)
      (go_ret; first | exact RetR.no rfl (GG.alloc _) | exact RetR.no HR.out (GG.alloc _))
    obtain rfl : t = [] := List.length_eq_zero_iff.1 hl2
    have hE : elemW P [x, n] = if K = 4 ∧ nmB n = true then .inr { P with es := P.es ++ [⟨n, 4, 0⟩] } else .inl 2 := by rw [HKX.out]; rfl
    rw [hE]
    clear hE hl2 hs HC
    simp only [List.length_nil] at *
    cases hq : nmB n
    · have HR : Hid ((if K = 4 ∧ false = true then .inr { P with es := P.es ++ [⟨n, 4, 0⟩] } else .inl 2 : Int ⊕ Pln) = .inl 2) := if_neg (by simp)
      rw [hq] at HNM
      generalize (if K = 4 ∧ false = true then .inr { P with es := P.es ++ [⟨n, 4, 0⟩] } else .inl 2 : Int ⊕ Pln) = R at HR ⊢
      clear HRD HKK
      go_enter Tryz.func74, Tryz.ntmps74
      go_wp2_with (first | (go_at_call 132; (with_reducible refine (HNM.out _).mono ?_); rintro e w5 ⟨rfl, hq⟩; obtain rfl := hq.symm) | fail)
      (go_ret; first | exact RetR.no rfl (GG.alloc _) | exact RetR.no HR.out (GG.alloc _))
    · have HR : Hid ((if K = 4 ∧ true = true then .inr { P with es := P.es ++ [⟨n, 4, 0⟩] } else .inl 2 : Int ⊕ Pln) = .inr { P with es := P.es ++ [⟨n, 4, 0⟩] }) := if_pos ⟨h4, rfl⟩
      rw [hq] at HNM
      generalize (if K = 4 ∧ true = true then .inr { P with es := P.es ++ [⟨n, 4, 0⟩] } else .inl 2 : Int ⊕ Pln) = R at HR ⊢
      clear hq
      subst h4
      go_enter Tryz.func74, Tryz.ntmps74
      go_upto_region 11 with (first | (go_at_call 132; (with_reducible refine (HNM.out _).mono ?_); rintro e w5 ⟨rfl, hq⟩; obtain rfl := hq.symm) | fail)
      have QG : Gr w4 (w4.alloc (.cells #[.string n, .int .i64 4, .int .i64 0] 80)) := (Gr.refl _).alloc _
      obtain ⟨e, j, s, l, h1, h2⟩ := HRD.out.gr QG
      have zb := h1.lt
      obtain ⟨hbB, hBz, k1, k2⟩ := id h2
      obtain ⟨ea, ec, rfl⟩ := own_form k1
      have c0 := h1.2.1.2.1
      have fz := h1.frozen 0
      have hfar := bp_far h1 k1 (by decide)
      obtain ⟨x0, x1, x2⟩ := three_new w4 (.string n) (.int .i64 4) (.int .i64 0) 80
      have zx : w4.heap.size < ((w4.alloc (.cells #[.string n, .int .i64 4, .int .i64 0] 80))).heap.size := by simp
      have H1 := Lib.hid h1
      have H2 := Lib.hid h2
      have K1 := Lib.hid k1
      have HKQ := Lib.hid (HKK.out.gr QG)
      have GQ := GG.trans QG
      clear h1 h2 k1 k2 HRD HKK EX E1 E2 E3 E4 y0 y1
      generalize (w4.alloc (.cells #[.string n, .int .i64 4, .int .i64 0] 80)) = wq at *
      generalize w4.heap.size = eb at *
      obtain ⟨i0, hi0, hi1, hi2, hi3⟩ := info_parts Tryz.infoEl
      go_region_law ((refine step_append_lies _ (by rfl) _ _ _ (by rfl) B 80 i0 _ 3 32 Tryz.underlying23 hi0 hi1 hi2 hi3 rfl (by decide) (.slice ea P.es.length ec) P.es.length (P.es.flatMap Ele.cs) (by rfl) ((own_gr K1.out ((Gr.refl _).alloc _)).drew) ⟨wq.heap.size, 0, none⟩ 1 1 [.string n, .int .i64 4, .int .i64 0] (by rfl) (by rfl) (World.news_of_block (heap_alloc_new wq _)) (by simp [Value.oneCell']) (by omega) (by unfold maxLen; omega) (by omega) (by simp; omega) (wq.heap.size + 1) (by simp) ?_; intro gg cap w9 hown hgrow hat hlt; have cu9 := (hgrow.cell_far ⟨b, 0, none⟩ (by simp; omega) (by simpa using Ne.symm hfar)); have fu9 := (hgrow.frozen_far ⟨b, 0, none⟩ (by simp; omega) (by simpa using Ne.symm hfar))))
      all_goals go_wp2_with fail
      all_goals go_ret
      all_goals exact elem_end (x := ⟨n, 4, 0⟩) (by decide) hkB hkb H1.out H2.out HKQ.out GQ hb (((Gr.refl wq).alloc _).drew) HR.out hgrow hown
  · have hk4 : K ≠ 4 := h4
    have t4 : (K == 4) = false := beqF h4
    have t4' : (K != 4) = true := bneT h4
    by_cases hl2 : t.length = 1
    rotate_left
    · have HR : Hid (elemW P (x :: n :: t) = .inl 2) := by
        show _ = _
        match t, hl2 with
        | [], _ =>
          show (if kindW x = 4 ∧ nmB n = true then .inr { P with es := P.es ++ [⟨n, 4, 0⟩] } else .inl 2 : Int ⊕ Pln) = .inl 2
          rw [← HKX.out, if_neg (fun e => h4 e.1)]
        | _ :: _ :: _, _ => rfl
      have t2 : (((t.length + 1 + 1 : Nat) : Int) != 3) = true := bneT (by omega)
      have hz0 : (0 : Int) < ((t.length + 1 + 1 : Nat) : Int) := by omega
      have hz1 : (1 : Int) < ((t.length + 1 + 1 : Nat) : Int) := by omega
      clear hs HC h4 HRD HKK hl2
      generalize t.length + 1 + 1 = z at *
      go_enter Tryz.func74, Tryz.ntmps74
      go_wp2_with (first | (go_at_call 132; (with_reducible refine (HNM.out _).mono ?_); rintro e w5 ⟨rfl, hq⟩; obtain rfl := hq.symm) | fail)
      (go_ret; first | exact RetR.no rfl (GG.alloc _) | exact RetR.no HR.out (GG.alloc _))
    obtain ⟨d, rfl⟩ : ∃ d, t = [d] := by
      match t, hl2 with
      | [d], _ => exact ⟨d, rfl⟩
    have y2 : w4.cell? ⟨bb, o + 2, none⟩ = some (.string d) := (G4.cell _ _ hbb).trans (HC.out 2 (by simp))
    have HNU := Lib.hid (fun w' => number_any d 5 (hs d (by simp)) w')
    have hE : elemW P [x, n, d] = if K ≠ 4 ∧ nmB n = true ∧ numB d 5 = true then .inr { P with es := P.es ++ [⟨n, K, numN d 5⟩] } else .inl 2 := by rw [HKX.out]; rfl
    rw [hE]
    clear hE hl2 hs HC
    simp only [List.length_cons, List.length_nil] at *
    generalize numN d 5 = N at *
    cases hq : nmB n
    · have HR : Hid ((if K ≠ 4 ∧ false = true ∧ numB d 5 = true then .inr { P with es := P.es ++ [⟨n, K, N⟩] } else .inl 2 : Int ⊕ Pln) = .inl 2) := if_neg (by simp)
      rw [hq] at HNM
      generalize (if K ≠ 4 ∧ false = true ∧ numB d 5 = true then .inr { P with es := P.es ++ [⟨n, K, N⟩] } else .inl 2 : Int ⊕ Pln) = R at HR ⊢
      clear HRD HKK
      go_enter Tryz.func74, Tryz.ntmps74
      go_wp2_with (first | (go_at_call 132; (with_reducible refine (HNM.out _).mono ?_); rintro e w5 ⟨rfl, hq⟩; obtain rfl := hq.symm) | (go_at_call 133; (with_reducible refine (HNU.out _).mono ?_); rintro e w6 ⟨rfl, hq⟩; obtain rfl := hq.symm) | fail)
      (go_ret; first | exact RetR.no rfl (GG.alloc _) | exact RetR.no HR.out (GG.alloc _))
    rw [hq] at HNM
    cases hq2 : numB d 5
    · have HR : Hid ((if K ≠ 4 ∧ true = true ∧ false = true then .inr { P with es := P.es ++ [⟨n, K, N⟩] } else .inl 2 : Int ⊕ Pln) = .inl 2) := if_neg (by simp)
      rw [hq2] at HNU
      generalize (if K ≠ 4 ∧ true = true ∧ false = true then .inr { P with es := P.es ++ [⟨n, K, N⟩] } else .inl 2 : Int ⊕ Pln) = R at HR ⊢
      clear HRD HKK
      go_enter Tryz.func74, Tryz.ntmps74
      go_wp2_with (first | (go_at_call 132; (with_reducible refine (HNM.out _).mono ?_); rintro e w5 ⟨rfl, hq⟩; obtain rfl := hq.symm) | (go_at_call 133; (with_reducible refine (HNU.out _).mono ?_); rintro e w6 ⟨rfl, hq⟩; obtain rfl := hq.symm) | fail)
      (go_ret; first | exact RetR.no rfl (GG.alloc _) | exact RetR.no HR.out (GG.alloc _))
    · have HR : Hid ((if K ≠ 4 ∧ true = true ∧ true = true then .inr { P with es := P.es ++ [⟨n, K, N⟩] } else .inl 2 : Int ⊕ Pln) = .inr { P with es := P.es ++ [⟨n, K, N⟩] }) := if_pos ⟨h4, rfl, rfl⟩
      rw [hq2] at HNU
      generalize (if K ≠ 4 ∧ true = true ∧ true = true then .inr { P with es := P.es ++ [⟨n, K, N⟩] } else .inl 2 : Int ⊕ Pln) = R at HR ⊢
      clear hq hq2
      go_enter Tryz.func74, Tryz.ntmps74
      go_upto_region 11 with (first | (go_at_call 132; (with_reducible refine (HNM.out _).mono ?_); rintro e w5 ⟨rfl, hq⟩; obtain rfl := hq.symm) | (go_at_call 133; (with_reducible refine (HNU.out _).mono ?_); rintro e w6 ⟨rfl, hq⟩; obtain rfl := hq.symm) | fail)
      have QG : Gr w4 (w4.alloc (.cells #[.string n, .int .i64 K, .int .i64 N] 80)) := (Gr.refl _).alloc _
      obtain ⟨e, j, s, l, h1, h2⟩ := HRD.out.gr QG
      have zb := h1.lt
      obtain ⟨hbB, hBz, k1, k2⟩ := id h2
      obtain ⟨ea, ec, rfl⟩ := own_form k1
      have c0 := h1.2.1.2.1
      have fz := h1.frozen 0
      have hfar := bp_far h1 k1 (by decide)
      obtain ⟨x0, x1, x2⟩ := three_new w4 (.string n) (.int .i64 K) (.int .i64 N) 80
      have zx : w4.heap.size < ((w4.alloc (.cells #[.string n, .int .i64 K, .int .i64 N] 80))).heap.size := by simp
      have H1 := Lib.hid h1
      have H2 := Lib.hid h2
      have K1 := Lib.hid k1
      have HKQ := Lib.hid (HKK.out.gr QG)
      have GQ := GG.trans QG
      clear h1 h2 k1 k2 HRD HKK EX E1 E2 E3 E4 y0 y1
      generalize (w4.alloc (.cells #[.string n, .int .i64 K, .int .i64 N] 80)) = wq at *
      generalize w4.heap.size = eb at *
      obtain ⟨i0, hi0, hi1, hi2, hi3⟩ := info_parts Tryz.infoEl
      go_region_law ((refine step_append_lies _ (by rfl) _ _ _ (by rfl) B 80 i0 _ 3 32 Tryz.underlying23 hi0 hi1 hi2 hi3 rfl (by decide) (.slice ea P.es.length ec) P.es.length (P.es.flatMap Ele.cs) (by rfl) ((own_gr K1.out ((Gr.refl _).alloc _)).drew) ⟨wq.heap.size, 0, none⟩ 1 1 [.string n, .int .i64 K, .int .i64 N] (by rfl) (by rfl) (World.news_of_block (heap_alloc_new wq _)) (by simp [Value.oneCell']) (by omega) (by unfold maxLen; omega) (by omega) (by simp; omega) (wq.heap.size + 1) (by simp) ?_; intro gg cap w9 hown hgrow hat hlt; have cu9 := (hgrow.cell_far ⟨b, 0, none⟩ (by simp; omega) (by simpa using Ne.symm hfar)); have fu9 := (hgrow.frozen_far ⟨b, 0, none⟩ (by simp; omega) (by simpa using Ne.symm hfar))))
      all_goals go_wp2_with fail
      all_goals go_ret
      all_goals exact elem_end (x := ⟨n, K, N⟩) (by decide) hkB hkb H1.out H2.out HKQ.out GQ hb (((Gr.refl wq).alloc _).drew) HR.out hgrow hown
end Go.Proofs.YtknmngejjoohdaaGreatDoor
