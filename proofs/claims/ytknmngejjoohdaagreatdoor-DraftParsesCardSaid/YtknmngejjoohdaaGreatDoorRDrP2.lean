/- The reference's lineRow (printed by gen_drp2.py out of DrG's rdLine_any). -/
import Derived.Test.YtknmngejjoohdaaGreatDoorRows
import Derived.Test.YtknmngejjoohdaaGreatDoorRDrG
import Derived.Test.YtknmngejjoohdaaGreatDoorRDrP1
namespace Go.Proofs.YtknmngejjoohdaaGreatDoor
open Go.ChangeShapes Go.WideShapes Go.ChangeAt Go.RowKit Go.Maps
set_option linter.unusedVariables false
set_option linter.unusedSimpArgs false
set_option maxRecDepth 100000 in
set_option maxHeartbeats 4000000 in
theorem refLineRow_any (b B k : Nat) (h0 : Option Obj) (v : Value) (x0 : ByteArray) (T : List ByteArray) (P : Pln) (w0 w : World) (hb : w0.heap.size ≤ b) (g : Gr w0 w) (hK : KL k h0 w) (hkB : k < B) (hkb : k ≠ b) (hR : RdP 28 b B w P none) (hv : IsVals w v ((x0 :: T).map Value.string)) (hs : ∀ y ∈ T, y.size ≤ maxLen) (hz : SzP 1000000 P) (h3 : ¬ (T.length + 1 < 3 ∨ 42 < T.length + 1)) :
    Calls Tryz.prog 91 #[.pointer (some ⟨b, 0, none⟩), v] w ((RetR 28 w0 b B (KL k h0) none) (lineWd P (x0 :: T))) := by
  obtain ⟨bb, o, c, rfl, hbb, hlm, HC⟩ := vals_form hv (by simp)
  simp only [List.length_cons] at hlm ⊢
  unfold maxLen at hlm
  cases T with
  | nil => exact absurd (.inl (by simp)) h3
  | cons n t =>
  simp only [List.length_cons, not_or] at *
  have ht0 : t ≠ [] := fun e => by rw [e] at h3; simp at h3
  have hl40 : t.length ≤ 40 := by omega
  have HN1 := Lib.hid (fun kk (hk : kk < (n :: t).length) => lineWd_name (P := P) (v := x0) (n := n) (t := t) (k := kk) hk)
  have HN2 := Lib.hid (fun h kk hk => lineWd_find (P := P) (v := x0) (n := n) (t := t) ht0 hl40 h (k := kk) hk)
  have HN3 := Lib.hid (lineWd_ok (P := P) (v := x0) (n := n) (t := t) ht0 hl40)
  generalize lineWd P (x0 :: n :: t) = R at HN1 HN2 HN3 ⊢
  have hz1 : (1 : Int) < ((t.length + 1 + 1 : Nat) : Int) := by omega
  have y1 : w.cell? ⟨bb, o + 1, none⟩ = some (.string n) := HC.out 1 (by simp)
  have HY : Hid (∀ i (hi : i < (n :: t).length), w.cell? ⟨bb, o + (i + 1), none⟩ = some (.string (n :: t)[i])) := fun i hi => by
    have := HC.out (i + 1) (by simp at hi ⊢; omega)
    exact this
  have HY2 : Hid (∀ i (hi : i < t.length), w.cell? ⟨bb, o + (i + 2), none⟩ = some (.string t[i])) := fun i hi => by
    have := HC.out (i + 2) (by simp; omega)
    exact this
  have HSZ := Lib.hid hs
  have HRD := Lib.hid hR
  have HKK := Lib.hid hK
  obtain ⟨e, j, s, l, h1, h2⟩ := hR
  have hpl := h2.pln (by have := hz.es; unfold maxLen; omega) (by have := hz.js; unfold maxLen; omega) (by have := hz.ss; unfold maxLen; omega) (by have := hz.ls; unfold maxLen; omega)
  have HPL := Lib.hid hpl
  obtain ⟨a1, c1, a2, c2, a3, c3, a4, c4, hpv, -⟩ := hpl
  unfold plnV at hpv HPL
  simp only [Value.agg.injEq, Array.mk.injEq, List.cons.injEq, and_true] at hpv
  obtain ⟨rfl, rfl, rfl, rfl⟩ := hpv
  have H1 := Lib.hid h1
  have H2 := Lib.hid h2
  have hls := hz.ls
  clear h1 h2 hv HC hK hs hz h3
  go_enter Tryz.func91, Tryz.ntmps91
  go_wp2_with fail
  go_loopw [5] (fun x wr => ∃ kk : Nat, x = .int .i64 ((kk : Int) + 1) ∧ kk ≤ t.length + 1 ∧ wr = w ∧ Hid (∀ i (hi : i < (n :: t).length), i < kk → nmB (n :: t)[i] = true)) (fun x _ => t.length + 2 - (intOf x).toNat)
  case atStart => exact ⟨0, rfl, Nat.zero_le _, rfl, fun i _ h => by omega⟩
  case round =>
    obtain ⟨kk, rfl, hkk, hwr, HG⟩ := hrel
    obtain rfl := hwr.symm
    have jn : ((kk : Int) + 1).toNat = kk + 1 := by omega
    have jw : IntKind.i64.wrap ((kk : Int) + 1 + 1) = (kk : Int) + 1 + 1 := IntWalk.i64_in _ (by omega)
    by_cases hlt : kk < t.length + 1
    · have hk1 : (kk : Int) + 1 < ((t.length + 1 + 1 : Nat) : Int) := by omega
      have hlt' : kk < (n :: t).length := by simpa using hlt
      have y := HY.out kk hlt'
      have HNM := Lib.hid (fun w' => refName_any (n :: t)[kk] (HSZ.out _ (List.getElem_mem hlt')) w')
      have HB := Lib.hid (HN1.out kk hlt')
      have HG1 : Hid (nmB (n :: t)[kk] = true → ∀ i (hi : i < (n :: t).length), i < kk + 1 → nmB (n :: t)[i] = true) := fun h i hi hik => by
        by_cases e : i = kk
        · subst e; exact h
        · exact HG.out i hi (by omega)
      clear HG
      generalize nmB (n :: t)[kk] = q at HNM HB HG1
      generalize (n :: t)[kk] = x at y HNM
      cases q
      · have HR := Lib.hid (HB.out rfl)
        go_wp2_with (first | (go_at_call 88; (with_reducible refine (HNM.out _).mono ?_); rintro e w5 ⟨rfl, hq⟩; obtain rfl := hq.symm) | fail)
        go_ret
        exact RetR.no HR.out g
      · have HG2 := Lib.hid (HG1.out rfl)
        go_wp2_with (first | (go_at_call 88; (with_reducible refine (HNM.out _).mono ?_); rintro e w5 ⟨rfl, hq⟩; obtain rfl := hq.symm) | fail)
        go_roundw
        case rel => exact ⟨kk + 1, by go_num, by omega, by first | rfl | trivial, HG2⟩
        case measure => simp [intOf]; omega
    · have hk1 : ¬ (kk : Int) + 1 < ((t.length + 1 + 1 : Nat) : Int) := by omega
      have hall : ∀ i (hi : i < (n :: t).length), nmB (n :: t)[i] = true := fun i hi => HG.out i hi (by simp at hi; omega)
      have HF2 := Lib.hid (HN2.out hall)
      have HF3 := Lib.hid (HN3.out hall)
      clear HG HN1 HN2 HN3 hall hkk
      have g1 : Gr w (w.alloc (.cells #[.string n, .slice none 0 0] 86)) := (Gr.refl _).alloc _
      have hL0 : ((w.alloc (.cells #[.string n, .slice none 0 0] 86))).heap[w.heap.size]? = some (.cells #[.string n, .slice none 0 0] 86) := heap_alloc_new w _
      obtain ⟨i1, hi1, hi2, hi3, hi4⟩ := info_parts Tryz.infoI
      go_wp2_with fail
      go_loopw [7, 8] (fun x _ wr => ∃ (kk : Nat) (u : Value), x = .int .i64 ((kk : Int) + 2) ∧ kk ≤ t.length ∧ Gr w wr ∧ wr.heap[w.heap.size]? = some (.cells #[.string n, u] 86) ∧ OwnI (w.heap.size + 1) wr u ((t.take kk).map (eleN P)) ∧ Hid (∀ i (hi : i < t.length), i < kk → 0 ≤ eleN P t[i])) (fun x _ _ => t.length + 2 - (intOf x).toNat)
      case atStart => exact ⟨0, _, rfl, Nat.zero_le _, g1, hL0, OwnI.nil _ _, fun i _ h => by omega⟩
      case round =>
        obtain ⟨kk, u, rfl, hkk, gq, hLB, ho, HG⟩ := hrel
        clear hk1 hlt g1 hL0 y1 hz1
        obtain ⟨ua, uc, rfl⟩ := own_form ho
        have hlk : ((t.take kk).map (eleN P)).length = kk := by rw [List.length_map, List.length_take, Nat.min_eq_left hkk]
        rw [hlk] at hLB
        have ho' := ho
        rw [hlk] at ho'
        obtain ⟨zb, p0, p1, p2, p3, p4, p5, p6, p7, p8⟩ := H1.out.2.1.gr gq
        have zl : w.heap.size < wr.heap.size := by
          rcases Nat.lt_or_ge w.heap.size wr.heap.size with h | h
          · exact h
          · rw [Array.getElem?_eq_none h] at hLB; cases hLB
        have jn : ((kk : Int) + 2).toNat = kk + 2 := by omega
        have jw : IntKind.i64.wrap ((kk : Int) + 2 + 1) = (kk : Int) + 2 + 1 := IntWalk.i64_in _ (by omega)
        by_cases hlt : kk < t.length
        · have hk1 : (kk : Int) + 2 < ((t.length + 1 + 1 : Nat) : Int) := by omega
          have y := (gq.cell _ (o + (kk + 2)) hbb).trans (HY2.out kk hlt)
          have zbb := Nat.lt_of_lt_of_le hbb gq.size
          have HF := Lib.hid (fun (w' : World) (g' : Gr wr w') => eleRef_any _ P t[kk] w' (HPL.out.gr (gq.trans g')))
          have HB := Lib.hid (HF2.out kk hlt)
          have HG1 : Hid (0 ≤ eleN P t[kk] → ∀ i (hi : i < t.length), i < kk + 1 → 0 ≤ eleN P t[i]) := fun h i hi hik => by
            by_cases e : i = kk
            · subst e; exact h
            · exact HG.out i hi (by omega)
          have HM : Hid ((t.take (kk + 1)).map (eleN P) = (t.take kk).map (eleN P) ++ [eleN P t[kk]]) := by
            show _ = _
            rw [List.take_succ_eq_append_getElem hlt, List.map_append]; rfl
          have HO : Hid (wr.ownsRow (w.heap.size + 1) 3 1 (.slice ua kk uc) kk (((t.take kk).map (eleN P)).map (Value.int .i64))) := by
            have := ho'
            unfold OwnI at this
            rw [hlk] at this
            exact this
          clear HG ho ho'
          generalize (t.take kk).map (eleN P) = A at *
          generalize eleN P t[kk] = en at HF HB HG1 HM
          generalize t[kk] = xt at y HF
          have hL2 : ∀ w', Gr wr w' → w'.heap[w.heap.size]? = some (.cells #[.string n, .slice ua kk uc] 86) := fun w' g' => (g'.block _ zl).trans hLB
          have HL2 := Lib.hid hL2
          clear hL2
          by_cases hen : en < 0
          · have HR := Lib.hid (HB.out hen)
            go_upto_region 10 with fail
            have hcb := fun (i : GrW wr) (o : Nat) => GrW.cell zb i o
            have hcy := fun (i : GrW wr) (o : Nat) => GrW.cell zbb i o
            (refine wp_region_gr (by kernel_rfl) (by kernel_rfl) ?_; (repeat (go_big_quiet_step ((go_at_call 143; (with_reducible exact Calls.gr_of (HF.out _ (GrW.gr _))))))); refine wpQuiet_nil ?_; intro wz hz; obtain ⟨iz, hz⟩ := hz; obtain ⟨wn, gn⟩ := iz; dsimp only at hz; obtain rfl := hz.symm)
            have g4 := gn
            clear hcb hcy
            go_wp2_with fail
            go_ret
            exact RetR.no HR.out (g.trans (gq.trans g4))
          · have HG2 := Lib.hid (HG1.out (by omega))
            clear HB HG1
            go_upto_region 10 with fail
            have hcb := fun (i : GrW wr) (o : Nat) => GrW.cell zb i o
            have hcy := fun (i : GrW wr) (o : Nat) => GrW.cell zbb i o
            (refine wp_region_gr (by kernel_rfl) (by kernel_rfl) ?_; (repeat (go_big_quiet_step ((go_at_call 143; (with_reducible exact Calls.gr_of (HF.out _ (GrW.gr _))))))); refine wpQuiet_nil ?_; intro wz hz; obtain ⟨iz, hz⟩ := hz; obtain ⟨wn, gn⟩ := iz; dsimp only at hz; obtain rfl := hz.symm)
            have g4 := gn
            clear hcb hcy
            have hL4 := HL2.out _ g4
            have l0 := cell_of_row wn w.heap.size 0 _ _ _ hL4
            have l1 := cell_of_row wn w.heap.size 1 _ _ _ hL4
            have z4 := Nat.lt_of_lt_of_le zl g4.size
            have HO4 := Lib.hid (own_gr HO.out g4)
            clear hL4
            go_wp2_with (first | (at_builtin; refine wpList_append_own _ rfl _ _ 43 rfl (w.heap.size + 1) 3 i1 (.int .i64 0) 1 8 Tryz.underlying43 hi1 hi2 hi3 hi4 rfl (by decide) _ _ _ rfl (HO4.out.alloc _) ⟨wn.heap.size, 0, none⟩ 1 1 [.int .i64 en] rfl rfl (by exact cell_one_new _ _ _) (by simp [Value.oneCell']) (by unfold maxLen; omega) (by omega) (by have := g4.size; simp; omega) ?_) | fail)
            intro v' w5 hown' hgrow _
            have hg1 : Gr w w5 := Gr.grown ((gq.trans g4).alloc _) hgrow (own_base_le HO.out (Nat.le_succ _))
            obtain ⟨na, nc, rfl⟩ := own_form hown'
            rw [← hlk] at hown'
            have h7 := OwnI.snoc hown'
            rw [hlk] at h7
            have ho1 := Lib.hid h7
            clear h7
            have hL5 : w5.heap[w.heap.size]? = some (.cells #[.string n, .slice ua kk uc] 86) := (hgrow.block _ (by have := g4.size; simp; omega) (own_ne HO.out hLB (by decide))).trans (((g4.trans ((Gr.refl wn).alloc _)).block _ zl).trans hLB)
            have f5 := frozen_of_row w5 w.heap.size 1 _ _ hL5
            have l5 := cell_of_row w5 w.heap.size 1 _ _ _ hL5
            have z5 : w.heap.size < w5.heap.size := by have := hgrow.size; have := g4.size; simp at *; omega
            go_wp2_with fail
            go_roundw
            case rel => exact ⟨kk + 1, _, by go_num, hlt, hg1.setCell (Nat.le_refl _) _, by rw [heap_setCell_same w5 w.heap.size 1 _ _ _ hL5]; rfl, by rw [HM.out]; exact ownsRow_setCell_below (a := ⟨w.heap.size, 1, none⟩) ho1.out (show w.heap.size < w.heap.size + 1 by omega) _, HG2⟩
            case measure => simp [intOf]; omega
        · have hk1 : ¬ (kk : Int) + 2 < ((t.length + 1 + 1 : Nat) : Int) := by omega
          have hR := HF3.out fun i hi => HG.out i hi (by omega)
          have HR := Lib.hid hR
          rw [List.take_of_length_le (show t.length ≤ kk by omega)] at ho'
          have HE := Lib.hid ho'
          obtain rfl : kk = t.length := by omega
          have l0 := cell_of_row wr w.heap.size 0 _ _ _ hLB
          have l1 := cell_of_row wr w.heap.size 1 _ _ _ hLB
          clear HG ho ho' hR HF2 HF3
          have hKQ := HKK.out.gr gq
          have H1q := Lib.hid (H1.out.gr gq)
          obtain ⟨hbB, hBz, k1, k2, k3, A, k4, k5, k6⟩ := H2.out.gr gq
          have hAl : A.length = P.ls.length := by rw [← k6]; simp
          obtain ⟨la, lc, hlf⟩ := own_form k4
          simp only [Value.slice.injEq] at hlf
          obtain ⟨rfl, hA2, rfl⟩ := hlf
          have fz := H1q.out.frozen 3
          have hfar := bp_far H1q.out k4 (by decide)
          have K1 := Lib.hid k1
          have K2 := Lib.hid k2
          have K3 := Lib.hid k3
          have K4 := Lib.hid k4
          have K5 := Lib.hid k5
          have K6 := Lib.hid k6
          have HKQ := Lib.hid hKQ
          have GQ := g.trans gq
          have hBw : B ≤ w.heap.size + 1 := by have := H2.out.2.1; omega
          have HAL := Lib.hid hAl
          clear k1 k2 k3 k4 k5 k6 hKQ hAl hA2 hLB
          obtain ⟨i0, hi0', hi1', hi2', hi3'⟩ := info_parts Tryz.infoLn
          go_upto_region 14 with fail
          go_region_law ((refine step_append_lies _ (by rfl) _ _ _ (by rfl) B 86 i0 _ 2 40 Tryz.underlying26 hi0' hi1' hi2' hi3' rfl (by decide) (.slice a4 P.ls.length c4) A.length (lnCs A) (by rfl) ((own_gr K4.out ((Gr.refl _).alloc _)).drew) ⟨wr.heap.size, 0, none⟩ 1 1 [.string n, .slice ua t.length uc] (by rfl) (by rfl) (World.news_of_block (heap_alloc_new wr _)) (by simp [Value.oneCell']) (by omega) (by have := HAL.out; unfold maxLen; omega) (by have := HAL.out; omega) (by simp; omega) (wr.heap.size + 1) (by simp) ?_; intro gg cap w9 hown hgrow hat hlt; have cu9 := (hgrow.cell_far ⟨b, 3, none⟩ (by simp; omega) (by simpa using Ne.symm hfar)); have fu9 := (hgrow.frozen_far ⟨b, 3, none⟩ (by simp; omega) (by simpa using Ne.symm hfar))))
          all_goals go_wp2_with fail
          all_goals go_ret
          all_goals exact line_end (x := ⟨n, t.map (eleN P)⟩) (by decide) hkB hkb H1q.out hbB hBz K1.out K2.out K3.out K4.out K5.out K6.out (own_gr (own_base_le HE.out hBw) (((Gr.refl wr).alloc _).drew)) (by simp; unfold maxLen; omega) HKQ.out GQ hb (((Gr.refl wr).alloc _).drew) HR.out hgrow hown
end Go.Proofs.YtknmngejjoohdaaGreatDoor
