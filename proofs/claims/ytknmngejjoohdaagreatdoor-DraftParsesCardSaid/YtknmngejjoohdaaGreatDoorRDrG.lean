/- (*reader).signal, whole; (*reader).line. -/
import Derived.Test.YtknmngejjoohdaaGreatDoorRows
import Derived.Test.YtknmngejjoohdaaGreatDoorRDrF
import Derived.Test.YtknmngejjoohdaaGreatDoorB6
namespace Go.Proofs.YtknmngejjoohdaaGreatDoor
open Go.ChangeShapes Go.WideShapes Go.ChangeAt Go.RowKit Go.Maps
set_option linter.unusedVariables false
set_option linter.unusedSimpArgs false
set_option maxRecDepth 100000 in
set_option maxHeartbeats 4000000 in
theorem rdSignal_any (b B k : Nat) (h0 : Option Obj) (v : Value) (L : List ByteArray) (P : Pln) (w0 w : World) (hb : w0.heap.size ≤ b) (g : Gr w0 w) (hK : KL k h0 w) (hkB : k < B) (hkb : k ≠ b) (hR : RdP 72 b B w P (some true)) (hv : IsVals w v (L.map Value.string)) (hne : L ≠ []) (hs : ∀ y ∈ L, y.size ≤ 1048576) (hz : SzP 1000000 P) :
    Calls Tryz.prog 76 #[.pointer (some ⟨b, 0, none⟩), v] w ((RetR 72 w0 b B (KL k h0) (some true)) (signalW P L)) := by
  obtain ⟨bb, o, c, rfl, hbb, hlm, HC⟩ := vals_form hv hne
  unfold maxLen at hlm
  by_cases h3 : L.length = 3
  · obtain ⟨x0, xa, xb, rfl⟩ : ∃ x y z, L = [x, y, z] := by
      match L, h3 with
      | [x, y, z], _ => exact ⟨x, y, z, rfl⟩
    exact rdSig_go b B k h0 bb o c 3 xa xb false P w0 w hb g hK hkB hkb hR hbb (HC.out 1 (by simp)) (HC.out 2 (by simp)) (.inl ⟨rfl, rfl⟩) (by have := hs xa (by simp); unfold maxLen; omega) (hs xb (by simp)) hz
  by_cases h4 : L.length = 4
  · obtain ⟨x0, xa, xb, xq, rfl⟩ : ∃ x y z q, L = [x, y, z, q] := by
      match L, h4 with
      | [x, y, z, q], _ => exact ⟨x, y, z, q, rfl⟩
    have y3 : w.cell? ⟨bb, o + 3, none⟩ = some (.string xq) := HC.out 3 (by simp)
    have hsw : signalW P [x0, xa, xb, xq] = if xq = bAuto then sig3 P xa xb true else .inl 2 := rfl
    rw [hsw]
    by_cases hq : xq = bAuto
    · subst hq
      rw [if_pos rfl]
      exact rdSig_go b B k h0 bb o c 4 xa xb true P w0 w hb g hK hkB hkb hR hbb (HC.out 1 (by simp)) (HC.out 2 (by simp)) (.inr ⟨rfl, rfl, y3⟩) (by have := hs xa (by simp); unfold maxLen; omega) (hs xb (by simp)) hz
    · rw [if_neg hq]
      have ta := str_eqD (x := xq) autoL
      have ta2 := str_neD (x := xq) autoL
      rw [decide_eq_false hq] at ta ta2
      simp only [Bool.not_false] at ta2
      clear hv HC hR hK hsw
      simp only [List.length_cons, List.length_nil] at *
      go_enter Tryz.func76, Tryz.ntmps76
      go_wp2_with fail
      go_ret
      exact RetR.no rfl g
  · have HR := Lib.hid (signalW_len (P := P) h3 h4)
    generalize signalW P L = R at HR ⊢
    have t3 : ((L.length : Int) != 3) = true := bneT (by omega)
    have t4 : ((L.length : Int) != 4) = true := bneT (by omega)
    clear hv HC h3 h4 hR hK
    generalize L.length = n at *
    go_enter Tryz.func76, Tryz.ntmps76
    go_wp2_with fail
    go_ret
    exact RetR.no HR.out g
theorem lineWd_len {P : Pln} {v n : ByteArray} {t : List ByteArray} (h : t = [] ∨ 40 < t.length) : lineWd P (v :: n :: t) = .inl 2 := by
  show (if t = [] ∨ 40 < t.length ∨ (n :: t).all nmB = false then .inl 2 else if t.any (fun s => decide (eleN P s < 0)) then .inl 5 else .inr { P with ls := P.ls ++ [⟨n, t.map (eleN P)⟩] } : Int ⊕ Pln) = _
  rw [if_pos (by rcases h with h | h <;> simp [h])]
theorem lineWd_name {P : Pln} {v n : ByteArray} {t : List ByteArray} {k : Nat} (hk : k < (n :: t).length) (h : nmB (n :: t)[k] = false) : lineWd P (v :: n :: t) = .inl 2 := by
  show (if t = [] ∨ 40 < t.length ∨ (n :: t).all nmB = false then .inl 2 else if t.any (fun s => decide (eleN P s < 0)) then .inl 5 else .inr { P with ls := P.ls ++ [⟨n, t.map (eleN P)⟩] } : Int ⊕ Pln) = _
  rw [if_pos (.inr (.inr (List.all_eq_false.2 ⟨_, List.getElem_mem hk, by rw [h]; simp⟩)))]
theorem lineWd_all {P : Pln} {v n : ByteArray} {t : List ByteArray} (h0 : t ≠ []) (h40 : t.length ≤ 40) (h : ∀ i (hi : i < (n :: t).length), nmB (n :: t)[i] = true) : lineWd P (v :: n :: t) = if t.any (fun s => decide (eleN P s < 0)) then .inl 5 else .inr { P with ls := P.ls ++ [⟨n, t.map (eleN P)⟩] } := by
  show (if t = [] ∨ 40 < t.length ∨ (n :: t).all nmB = false then .inl 2 else if t.any (fun s => decide (eleN P s < 0)) then .inl 5 else .inr { P with ls := P.ls ++ [⟨n, t.map (eleN P)⟩] } : Int ⊕ Pln) = _
  rw [if_neg]
  rintro (e | e | e)
  · exact h0 e
  · omega
  · have : (n :: t).all nmB = true := List.all_eq_true.2 fun x hx => by
      obtain ⟨i, hi, rfl⟩ := List.getElem_of_mem hx
      exact h i hi
    rw [this] at e; cases e
theorem lineWd_find {P : Pln} {v n : ByteArray} {t : List ByteArray} (h0 : t ≠ []) (h40 : t.length ≤ 40) (h : ∀ i (hi : i < (n :: t).length), nmB (n :: t)[i] = true) {k : Nat} (hk : k < t.length) (hf : eleN P t[k] < 0) : lineWd P (v :: n :: t) = .inl 5 := by
  rw [lineWd_all h0 h40 h, if_pos (List.any_eq_true.2 ⟨_, List.getElem_mem hk, by simpa using hf⟩)]
theorem lineWd_ok {P : Pln} {v n : ByteArray} {t : List ByteArray} (h0 : t ≠ []) (h40 : t.length ≤ 40) (h : ∀ i (hi : i < (n :: t).length), nmB (n :: t)[i] = true) (hf : ∀ i (hi : i < t.length), 0 ≤ eleN P t[i]) : lineWd P (v :: n :: t) = .inr { P with ls := P.ls ++ [⟨n, t.map (eleN P)⟩] } := by
  rw [lineWd_all h0 h40 h, if_neg]
  rw [List.any_eq_true]
  rintro ⟨x, hx, hh⟩
  obtain ⟨i, hi, rfl⟩ := List.getElem_of_mem hx
  have := hf i hi
  simp at hh
  omega
theorem slice_2nd (b o n c : Nat) (hn : 3 ≤ n) (hc : n ≤ c) (w' : World) : (Instr.slice 57 (.slice (some ⟨b, o, none⟩) n c) (some (.int .i64 2)) none none).run Tryz.prog w' = .ok (.slice (some ⟨b, o + 2, none⟩) (n - 2) (c - 2)) w' := by
  rw [run_slice_l (w := w') (P := Tryz.prog) 57 _ n c (by kernel_rfl) .i64 2 (by omega) (by omega)]
  have hs : (sizeOf (Tryz.prog.elem 57)).run Tryz.prog w' = .ok 1 w' := by kernel_rfl
  rw [hs]
  simp only [Result.andThen, sliced]
  rw [show Int.toNat 2 = 2 from rfl, if_neg (by omega)]
  rfl
set_option maxRecDepth 100000 in
set_option maxHeartbeats 4000000 in
theorem rdLine_any (b B k : Nat) (h0 : Option Obj) (v : Value) (x0 : ByteArray) (T : List ByteArray) (P : Pln) (w0 w : World) (hb : w0.heap.size ≤ b) (g : Gr w0 w) (hK : KL k h0 w) (hkB : k < B) (hkb : k ≠ b) (hR : RdP 72 b B w P (some true)) (hv : IsVals w v ((x0 :: T).map Value.string)) (hc : CapOk v) (hs : ∀ y ∈ T, y.size ≤ maxLen) (hz : SzP 1000000 P) :
    Calls Tryz.prog 77 #[.pointer (some ⟨b, 0, none⟩), v] w ((RetR 72 w0 b B (KL k h0) (some true)) (lineWd P (x0 :: T))) := by
  obtain ⟨bb, o, c, rfl, hbb, hlm, HC⟩ := vals_form hv (by simp)
  simp only [List.length_cons] at hlm ⊢
  unfold maxLen at hlm
  have hcap : T.length + 1 ≤ c := hc _ _ _ rfl
  by_cases h3 : T.length + 1 < 3 ∨ 42 < T.length + 1
  · have HR : Hid (lineWd P (x0 :: T) = .inl 2) := by
      show _ = _
      match T, h3 with
      | [], _ => rfl
      | n :: t, h3 =>
        refine lineWd_len ?_
        simp only [List.length_cons] at h3
        rcases h3 with h3 | h3
        · exact .inl (List.length_eq_zero_iff.1 (by omega))
        · exact .inr (by omega)
    generalize lineWd P (x0 :: T) = R at HR ⊢
    clear hv HC hR hK hc hs
    generalize T.length + 1 = n at *
    rcases h3 with h3 | h3
    · have t3 : (n : Int) < 3 := by omega
      go_enter Tryz.func77, Tryz.ntmps77
      go_wp2_with fail
      go_ret
      exact RetR.no HR.out g
    · have t3 : ¬ (n : Int) < 3 := by omega
      have t4 : (42 : Int) < (n : Int) := by omega
      go_enter Tryz.func77, Tryz.ntmps77
      go_wp2_with fail
      go_ret
      exact RetR.no HR.out g
  cases T with
  | nil => exact absurd (.inl (by simp)) h3
  | cons n t =>
  simp only [List.length_cons, not_or] at *
  have ht0 : t ≠ [] := fun e => by rw [e] at h3; simp at h3
  have hl40 : t.length ≤ 40 := by omega
  have HN1 := Lib.hid (fun kk (hk : kk < (n :: t).length) => lineWd_name (P := P) (v := x0) (n := n) (t := t) (k := kk) hk)
  have HN2 := Lib.hid (fun h kk hk => lineWd_find (P := P) (v := x0) (n := n) (t := t) ht0 hl40 h (k := kk) hk)
  have HN3 := Lib.hid (lineWd_ok (P := P) (v := x0) (n := n) (t := t) ht0 hl40)
  generalize lineWd P (x0 :: n :: t) = R at HN1 HN2 HN3 ⊢
  have HS1 := slice_one bb o (t.length + 1 + 1) c (by omega) hcap
  have HS2 := slice_2nd bb o (t.length + 1 + 1) c (by omega) hcap
  have t3 : ¬ (((t.length + 1 + 1 : Nat) : Int) < 3) := by omega
  have t4 : ¬ ((42 : Int) < ((t.length + 1 + 1 : Nat) : Int)) := by omega
  rw [show t.length + 1 + 1 - 1 = t.length + 1 from by omega] at HS1
  rw [show t.length + 1 + 1 - 2 = t.length from by omega] at HS2
  have hz1 : (1 : Int) < ((t.length + 1 + 1 : Nat) : Int) := by omega
  have y1 : w.cell? ⟨bb, o + 1, none⟩ = some (.string n) := HC.out 1 (by simp)
  have HY : Hid (∀ i (hi : i < (n :: t).length), w.cell? ⟨bb, o + 1 + i, none⟩ = some (.string (n :: t)[i])) := fun i hi => by
    have := HC.out (i + 1) (by simp at hi ⊢; omega)
    rw [show o + 1 + i = o + (i + 1) from by omega]
    exact this
  have HY2 : Hid (∀ i (hi : i < t.length), w.cell? ⟨bb, o + 2 + i, none⟩ = some (.string t[i])) := fun i hi => by
    have := HC.out (i + 2) (by simp; omega)
    rw [show o + 2 + i = o + (i + 2) from by omega]
    exact this
  have HSZ := Lib.hid hs
  have HRD := Lib.hid hR
  have HKK := Lib.hid hK
  obtain ⟨e, j, s, l, h1, h2⟩ := hR
  have hpl := h2.pln (by have := hz.es; unfold maxLen; omega) (by have := hz.js; unfold maxLen; omega) (by have := hz.ss; unfold maxLen; omega) (by have := hz.ls; unfold maxLen; omega)
  have HPL := Lib.hid hpl
  obtain ⟨a1, c1, a2, c2, a3, c3, a4, c4, hpv, -⟩ := hpl
  unfold plnV at hpv HPL
  simp only [Value.agg.injEq, Array.mk.injEq, List.cons.injEq, and_true] at hpv
  obtain ⟨rfl, rfl, rfl, rfl⟩ := hpv
  have H1 := Lib.hid h1
  have H2 := Lib.hid h2
  have hls := hz.ls
  clear h1 h2 hv HC hK hc hs hz h3
  go_enter Tryz.func77, Tryz.ntmps77
  go_wp2_with fail
  go_loopw [6, 22] (fun _ x wr => ∃ kk : Nat, x = .int .i64 kk ∧ kk ≤ t.length + 1 ∧ wr = w ∧ Hid (∀ i (hi : i < (n :: t).length), i < kk → nmB (n :: t)[i] = true)) (fun _ x _ => t.length + 1 - (intOf x).toNat)
  case atStart => exact ⟨0, rfl, Nat.zero_le _, rfl, fun i _ h => by omega⟩
  case round =>
    obtain ⟨kk, rfl, hkk, hwr, HG⟩ := hrel
    obtain rfl := hwr.symm
    by_cases hlt : kk < t.length + 1
    · have hk1 : (kk : Int) < ((t.length + 1 : Nat) : Int) := by omega
      have hlt' : kk < (n :: t).length := by simpa using hlt
      have y := HY.out kk hlt'
      have HNM := Lib.hid (fun w' => name_any (n :: t)[kk] (HSZ.out _ (List.getElem_mem hlt')) w')
      have HB := Lib.hid (HN1.out kk hlt')
      have HG1 : Hid (nmB (n :: t)[kk] = true → ∀ i (hi : i < (n :: t).length), i < kk + 1 → nmB (n :: t)[i] = true) := fun h i hi hik => by
        by_cases e : i = kk
        · subst e; exact h
        · exact HG.out i hi (by omega)
      clear HG
      generalize nmB (n :: t)[kk] = q at HNM HB HG1
      generalize (n :: t)[kk] = x at y HNM
      cases q
      · have HR := Lib.hid (HB.out rfl)
        go_wp2_with (first | (go_at_call 132; (with_reducible refine (HNM.out _).mono ?_); rintro e w5 ⟨rfl, hq⟩; obtain rfl := hq.symm) | fail)
        go_ret
        exact RetR.no HR.out g
      · have HG2 := Lib.hid (HG1.out rfl)
        go_wp2_with (first | (go_at_call 132; (with_reducible refine (HNM.out _).mono ?_); rintro e w5 ⟨rfl, hq⟩; obtain rfl := hq.symm) | fail)
        go_roundw
        case rel => exact ⟨kk + 1, by go_num, by omega, by first | rfl | trivial, HG2⟩
        case measure => simp [intOf]; omega
    · have hk1 : ¬ (kk : Int) < ((t.length + 1 : Nat) : Int) := by omega
      have hall : ∀ i (hi : i < (n :: t).length), nmB (n :: t)[i] = true := fun i hi => HG.out i hi (by simp at hi; omega)
      have HF2 := Lib.hid (HN2.out hall)
      have HF3 := Lib.hid (HN3.out hall)
      clear HG HN1 HN2 HN3 hall hkk
      have g1 : Gr w (w.alloc (.cells #[.string n, .slice none 0 0] 86)) := (Gr.refl _).alloc _
      have hL0 : ((w.alloc (.cells #[.string n, .slice none 0 0] 86))).heap[w.heap.size]? = some (.cells #[.string n, .slice none 0 0] 86) := heap_alloc_new w _
      obtain ⟨i1, hi1, hi2, hi3, hi4⟩ := info_parts Tryz.infoI
      go_wp2_with fail
      go_loopw [9, 10, 37] (fun _ _ x wr => ∃ (kk : Nat) (u : Value), x = .int .i64 kk ∧ kk ≤ t.length ∧ Gr w wr ∧ wr.heap[w.heap.size]? = some (.cells #[.string n, u] 86) ∧ OwnI (w.heap.size + 1) wr u ((t.take kk).map (eleN P)) ∧ Hid (∀ i (hi : i < t.length), i < kk → 0 ≤ eleN P t[i])) (fun _ _ x _ => t.length - (intOf x).toNat)
      case atStart => exact ⟨0, _, rfl, Nat.zero_le _, g1, hL0, OwnI.nil _ _, fun i _ h => by omega⟩
      case round =>
        obtain ⟨kk, u, rfl, hkk, gq, hLB, ho, HG⟩ := hrel
        clear hk1 hlt g1 hL0 y1 t3 t4 hz1
        obtain ⟨ua, uc, rfl⟩ := own_form ho
        have hlk : ((t.take kk).map (eleN P)).length = kk := by rw [List.length_map, List.length_take, Nat.min_eq_left hkk]
        rw [hlk] at hLB
        have ho' := ho
        rw [hlk] at ho'
        obtain ⟨zb, p0, p1, p2, p3, p4, p5, p6, p7, p8⟩ := H1.out.2.1.gr gq
        have zl : w.heap.size < wr.heap.size := by
          rcases Nat.lt_or_ge w.heap.size wr.heap.size with h | h
          · exact h
          · rw [Array.getElem?_eq_none h] at hLB; cases hLB
        by_cases hlt : kk < t.length
        · have hk1 : (kk : Int) < (t.length : Int) := by omega
          have y := (gq.cell _ (o + 2 + kk) hbb).trans (HY2.out kk hlt)
          have zbb := Nat.lt_of_lt_of_le hbb gq.size
          have HF := Lib.hid (fun (w' : World) (g' : Gr wr w') => ele_any _ P t[kk] w' (HPL.out.gr (gq.trans g')))
          have HB := Lib.hid (HF2.out kk hlt)
          have HG1 : Hid (0 ≤ eleN P t[kk] → ∀ i (hi : i < t.length), i < kk + 1 → 0 ≤ eleN P t[i]) := fun h i hi hik => by
            by_cases e : i = kk
            · subst e; exact h
            · exact HG.out i hi (by omega)
          have HM : Hid ((t.take (kk + 1)).map (eleN P) = (t.take kk).map (eleN P) ++ [eleN P t[kk]]) := by
            show _ = _
            rw [List.take_succ_eq_append_getElem hlt, List.map_append]; rfl
          have HO : Hid (wr.ownsRow (w.heap.size + 1) 3 1 (.slice ua kk uc) kk (((t.take kk).map (eleN P)).map (Value.int .i64))) := by
            have := ho'
            unfold OwnI at this
            rw [hlk] at this
            exact this
          clear HG ho ho'
          generalize (t.take kk).map (eleN P) = A at *
          generalize eleN P t[kk] = en at HF HB HG1 HM
          generalize t[kk] = xt at y HF
          have hL2 : ∀ w', Gr wr w' → w'.heap[w.heap.size]? = some (.cells #[.string n, .slice ua kk uc] 86) := fun w' g' => (g'.block _ zl).trans hLB
          have HL2 := Lib.hid hL2
          clear hL2
          by_cases hen : en < 0
          · have HR := Lib.hid (HB.out hen)
            go_wp2_with (first | (go_at_call 71; (with_reducible refine (HF.out _ (Gr.refl _)).mono ?_); rintro e w4 ⟨rfl, g4⟩) | fail)
            go_ret
            exact RetR.no HR.out (g.trans (gq.trans g4))
          · have HG2 := Lib.hid (HG1.out (by omega))
            clear HB HG1
            go_wp2_with (first | ((go_at_call 71; (with_reducible refine (HF.out _ (Gr.refl _)).mono ?_); rintro e w4 ⟨rfl, g4⟩); have hL4 := HL2.out _ g4; have l0 := cell_of_row w4 w.heap.size 0 _ _ _ hL4; have l1 := cell_of_row w4 w.heap.size 1 _ _ _ hL4; have z4 := Nat.lt_of_lt_of_le zl g4.size; have HO4 := Lib.hid (own_gr HO.out g4); clear hL4) | (at_builtin; refine wpList_append_own _ rfl _ _ 43 rfl (w.heap.size + 1) 3 i1 (.int .i64 0) 1 8 Tryz.underlying43 hi1 hi2 hi3 hi4 rfl (by decide) _ _ _ rfl (HO4.out.alloc _) ⟨w4.heap.size, 0, none⟩ 1 1 [.int .i64 en] rfl rfl ?c1 ?c2 ?c3 ?c4 ?c5 ?_))
            case c1 => exact cell_one_new _ _ _
            case c2 => simp [Value.oneCell']
            case c3 => unfold maxLen; omega
            case c4 => omega
            case c5 => have := g4.size; simp; omega
            intro v' w5 hown' hgrow _
            have hg1 : Gr w w5 := Gr.grown ((gq.trans g4).alloc _) hgrow (own_base_le HO.out (Nat.le_succ _))
            obtain ⟨na, nc, rfl⟩ := own_form hown'
            rw [← hlk] at hown'
            have h7 := OwnI.snoc hown'
            rw [hlk] at h7
            have ho1 := Lib.hid h7
            clear h7
            have hL5 : w5.heap[w.heap.size]? = some (.cells #[.string n, .slice ua kk uc] 86) := (hgrow.block _ (by have := g4.size; simp; omega) (own_ne HO.out hLB (by decide))).trans (((g4.trans ((Gr.refl w4).alloc _)).block _ zl).trans hLB)
            have f5 := frozen_of_row w5 w.heap.size 1 _ _ hL5
            have l5 := cell_of_row w5 w.heap.size 1 _ _ _ hL5
            have z5 : w.heap.size < w5.heap.size := by have := hgrow.size; have := g4.size; simp at *; omega
            go_wp2_with fail
            go_roundw
            case rel => exact ⟨kk + 1, _, by go_num, hlt, hg1.setCell (Nat.le_refl _) _, by rw [heap_setCell_same w5 w.heap.size 1 _ _ _ hL5]; rfl, by rw [HM.out]; exact ownsRow_setCell_below (a := ⟨w.heap.size, 1, none⟩) ho1.out (show w.heap.size < w.heap.size + 1 by omega) _, HG2⟩
            case measure => simp [intOf]; omega
        · have hk1 : ¬ (kk : Int) < (t.length : Int) := by omega
          have hR := HF3.out fun i hi => HG.out i hi (by omega)
          have HR := Lib.hid hR
          rw [List.take_of_length_le (show t.length ≤ kk by omega)] at ho'
          have HE := Lib.hid ho'
          obtain rfl : kk = t.length := by omega
          have l0 := cell_of_row wr w.heap.size 0 _ _ _ hLB
          have l1 := cell_of_row wr w.heap.size 1 _ _ _ hLB
          clear HG ho ho' hR HF2 HF3
          have hKQ := HKK.out.gr gq
          have H1q := Lib.hid (H1.out.gr gq)
          obtain ⟨hbB, hBz, k1, k2, k3, A, k4, k5, k6⟩ := H2.out.gr gq
          have hAl : A.length = P.ls.length := by rw [← k6]; simp
          obtain ⟨la, lc, hlf⟩ := own_form k4
          simp only [Value.slice.injEq] at hlf
          obtain ⟨rfl, hA2, rfl⟩ := hlf
          have fz := H1q.out.frozen 3
          have hfar := bp_far H1q.out k4 (by decide)
          have K1 := Lib.hid k1
          have K2 := Lib.hid k2
          have K3 := Lib.hid k3
          have K4 := Lib.hid k4
          have K5 := Lib.hid k5
          have K6 := Lib.hid k6
          have HKQ := Lib.hid hKQ
          have GQ := g.trans gq
          have hBw : B ≤ w.heap.size + 1 := by have := H2.out.2.1; omega
          have HAL := Lib.hid hAl
          clear k1 k2 k3 k4 k5 k6 hKQ hAl hA2 hLB
          obtain ⟨i0, hi0', hi1', hi2', hi3'⟩ := info_parts Tryz.infoLn
          go_upto_region 18 with fail
          go_region_law ((refine step_append_lies _ (by rfl) _ _ _ (by rfl) B 86 i0 _ 2 40 Tryz.underlying26 hi0' hi1' hi2' hi3' rfl (by decide) (.slice a4 P.ls.length c4) A.length (lnCs A) (by rfl) ((own_gr K4.out ((Gr.refl _).alloc _)).drew) ⟨wr.heap.size, 0, none⟩ 1 1 [.string n, .slice ua t.length uc] (by rfl) (by rfl) (World.news_of_block (heap_alloc_new wr _)) (by simp [Value.oneCell']) (by omega) (by have := HAL.out; unfold maxLen; omega) (by have := HAL.out; omega) (by simp; omega) (wr.heap.size + 1) (by simp) ?_; intro gg cap w9 hown hgrow hat hlt; have cu9 := (hgrow.cell_far ⟨b, 3, none⟩ (by simp; omega) (by simpa using Ne.symm hfar)); have fu9 := (hgrow.frozen_far ⟨b, 3, none⟩ (by simp; omega) (by simpa using Ne.symm hfar))))
          all_goals go_wp2_with fail
          all_goals go_ret
          all_goals exact line_end (x := ⟨n, t.map (eleN P)⟩) (by decide) hkB hkb H1q.out hbB hBz K1.out K2.out K3.out K4.out K5.out K6.out (own_gr (own_base_le HE.out hBw) (((Gr.refl wr).alloc _).drew)) (by simp; unfold maxLen; omega) HKQ.out GQ hb (((Gr.refl wr).alloc _).drew) HR.out hgrow hown
end Go.Proofs.YtknmngejjoohdaaGreatDoor
