/- The reference's Parse of plans. -/
import Derived.Test.YtknmngejjoohdaaGreatDoorRows
import Derived.Test.YtknmngejjoohdaaGreatDoorRDrP7
import Derived.Test.YtknmngejjoohdaaGreatDoorRDrI
import Derived.Test.YtknmngejjoohdaaGreatDoorB19
import Derived.Test.YtknmngejjoohdaaGreatDoorB17
import Derived.Test.YtknmngejjoohdaaGreatDoorB12
namespace Go.Proofs.YtknmngejjoohdaaGreatDoor
open Go.ChangeShapes Go.WideShapes Go.ChangeAt Go.RowKit Go.Maps
set_option linter.unusedVariables false
set_option linter.unusedSimpArgs false
theorem refRow_all (b B k : Nat) (h0 : Option Obj) (v : Value) (x : ByteArray) (T : List ByteArray) (P : Pln) (w0 w : World) (hb : w0.heap.size ≤ b) (g : Gr w0 w) (hK : KL k h0 w) (hkB : k < B) (hkb : k ≠ b) (hR : RdP 28 b B w P none) (hv : IsVals w v ((x :: T).map Value.string)) (hs : ∀ y ∈ T, y.size ≤ 1048576) (hz : SzP 1000000 P) :
    Calls Tryz.prog 42 #[.pointer (some ⟨b, 0, none⟩), v] w ((RetR 28 w0 b B (KL k h0) none) (rowW P (x :: T))) := by
  have hs1 : ∀ y ∈ T, y.size ≤ maxLen := fun y hy => by have := hs y hy; unfold maxLen; omega
  by_cases q1 : x = bTrack
  · have := refRow_elem b B k h0 v x T P w0 w hb g hK hkB hkb hR hv hs1 hz.es (.inl q1); subst q1; exact this
  by_cases q2 : x = bPoints
  · have := refRow_elem b B k h0 v x T P w0 w hb g hK hkB hkb hR hv hs1 hz.es (.inr (.inl q2)); subst q2; exact this
  by_cases q3 : x = bCross
  · have := refRow_elem b B k h0 v x T P w0 w hb g hK hkB hkb hR hv hs1 hz.es (.inr (.inr q3)); subst q3; exact this
  by_cases q4 : x = bGateE
  · subst q4; exact refRow_gate b B k h0 v T P w0 w hb g hK hkB hkb hR hv hs1 hz.es
  by_cases q5 : x = bJoin
  · subst q5; exact refRow_join b B k h0 v T P w0 w hb g hK hkB hkb hR hv hs hz
  by_cases q6 : x = bSignal
  · subst q6; exact refRow_signal b B k h0 v T P w0 w hb g hK hkB hkb hR hv hs hz
  by_cases q7 : x = bLine
  · subst q7; exact refRow_line b B k h0 v T P w0 w hb g hK hkB hkb hR hv hs1 hz
  · exact refRow_none b B k h0 v x T P w0 w g hv (kindW_no q1 q2 q3 q4) q5 q6 q7
theorem dvals_low {w : World} {a : Option Addr} {n c : Nat} {X : List ByteArray} (h0 : 0 < w.heap.size) (h : IsVals w (.slice a n c) (X.map Value.string)) :
    ∃ k, k < w.heap.size ∧ ∀ w', w'.heap[k]? = w.heap[k]? → k < w'.heap.size → IsVals w' (.slice a n c) (X.map Value.string) := by
  obtain ⟨a', c', e, hm, hx⟩ := h
  cases e
  rcases hx with hx | ⟨k, o, rfl, hk, hc⟩
  · exact ⟨0, h0, fun w' _ _ => ⟨a, c, rfl, hm, .inl hx⟩⟩
  · exact ⟨k, hk, fun w' hw hk' => ⟨_, c, rfl, hm, .inr ⟨k, o, rfl, hk', fun i x hi => (World.cell?_of_block (a := ⟨k, o + i, none⟩) hw).trans (hc i x hi)⟩⟩⟩
theorem firstR_head (L : List ByteArray) : firstR L = match headR L with | none => .inl 2 | some P => .inr P := by
  unfold firstR headR
  cases headW L <;> rfl
set_option maxRecDepth 100000 in
set_option maxHeartbeats 8000000 in
theorem refParsePl_any (s : ByteArray) (hs : s.size ≤ 1048576) (w : World) :
    Calls Tryz.prog 12 #[.string s] w (RetPp w (parT s)) := by
  have G02 : Gr w (w.alloc (.cells #[.slice none 0 0, .slice none 0 0, .slice none 0 0, .slice none 0 0, .int .i64 0, .int .i64 0, .int .i64 0, .int .i64 0, .bool false] 28)) := (Gr.refl _).alloc _
  have zz2 : ((w.alloc (.cells #[.slice none 0 0, .slice none 0 0, .slice none 0 0, .slice none 0 0, .int .i64 0, .int .i64 0, .int .i64 0, .int .i64 0, .bool false] 28))).heap.size = w.heap.size + 1 := by simp
  have hz2 : w.heap.size < ((w.alloc (.cells #[.slice none 0 0, .slice none 0 0, .slice none 0 0, .slice none 0 0, .int .i64 0, .int .i64 0, .int .i64 0, .int .i64 0, .bool false] 28))).heap.size := by omega
  have hwz : w.heap.size ≤ w.heap.size := Nat.le_refl _
  have HDX : Hid (∀ w', Gr (w.alloc (.cells #[.slice none 0 0, .slice none 0 0, .slice none 0 0, .slice none 0 0, .int .i64 0, .int .i64 0, .int .i64 0, .int .i64 0, .bool false] 28)) w' → w.heap.size < w'.heap.size ∧ w'.cell? ⟨w.heap.size, 0, none⟩ = some (.slice none 0 0) ∧ w'.cell? ⟨w.heap.size, 1, none⟩ = some (.slice none 0 0) ∧ w'.cell? ⟨w.heap.size, 2, none⟩ = some (.slice none 0 0) ∧ w'.cell? ⟨w.heap.size, 3, none⟩ = some (.slice none 0 0) ∧ w'.cell? ⟨w.heap.size, 4, none⟩ = some (.int .i64 0) ∧ w'.cell? ⟨w.heap.size, 5, none⟩ = some (.int .i64 0) ∧ w'.cell? ⟨w.heap.size, 6, none⟩ = some (.int .i64 0) ∧ w'.cell? ⟨w.heap.size, 7, none⟩ = some (.int .i64 0) ∧ w'.cell? ⟨w.heap.size, 8, none⟩ = some (.bool false) ∧
      w'.frozen? ⟨w.heap.size, 0, none⟩ = false ∧ w'.frozen? ⟨w.heap.size, 1, none⟩ = false ∧ w'.frozen? ⟨w.heap.size, 2, none⟩ = false ∧ w'.frozen? ⟨w.heap.size, 3, none⟩ = false ∧ w'.frozen? ⟨w.heap.size, 4, none⟩ = false ∧ w'.frozen? ⟨w.heap.size, 5, none⟩ = false ∧ w'.frozen? ⟨w.heap.size, 6, none⟩ = false ∧ w'.frozen? ⟨w.heap.size, 7, none⟩ = false ∧ w'.frozen? ⟨w.heap.size, 8, none⟩ = false) := fun w' g => by
    refine ⟨Nat.lt_of_lt_of_le hz2 g.size, ?_, ?_, ?_, ?_, ?_, ?_, ?_, ?_, ?_, ?_, ?_, ?_, ?_, ?_, ?_, ?_, ?_, ?_⟩
    all_goals first | exact (g.cell _ _ hz2).trans (by go_simp) | exact (g.frozen _ _ hz2).trans (by go_simp)
  by_cases hl : 32768 < s.size
  · have hl1 : 32768 < (s.size : Int) := by omega
    have HR := Lib.hid (parT_long hl)
    obtain ⟨z4, k0, k1, k2, k3, k4, k5, k6, k7, k8, f0, f1, f2, f3, f4, f5, f6, f7, f8⟩ := HDX.out _ (Gr.refl _)
    go_enter Tryz.func12, Tryz.ntmps12
    go_wp2_with fail
    try rw [Exit.noGoto_ret]
    (refine bodyPost_ret (v := .tuple #[.agg #[.slice none 0 0, .slice none 0 0, .slice none 0 0, .slice none 0 0, .int .i64 0, .int .i64 0, .int .i64 0, .int .i64 0, .bool false], .int .i64 0, .int .i64 3]) (by simp [results, Tryz.results12, go_sem, z4, k0, k1, k2, k3, k4, k5, k6, k7, k8, f0, f1, f2, f3, f4, f5, f6, f7, f8]) rfl ?_)
    exact RetPp.no HR.out G02
  have hl1 : ¬ 32768 < (s.size : Int) := by omega
  have HLI := Lib.hid (refLines_any s hs (w.alloc (.cells #[.slice none 0 0, .slice none 0 0, .slice none 0 0, .slice none 0 0, .int .i64 0, .int .i64 0, .int .i64 0, .int .i64 0, .bool false] 28)))
  have hbd := lnB_bd s
  have HBD := Lib.hid hbd.2
  have hlen := hbd.1
  have HPB := Lib.hid (fun (k : Nat) (S : Option Pln) (e : Int) => @parT_bad s hl k S e)
  have HPG := Lib.hid (fun (P : Pln) => @parT_good s hl P)
  have HPN := Lib.hid (@parT_none s hl)
  have hus := unl_lnB_size s
  generalize hX : lnB s = X at *
  generalize parT s = R at HPB HPG HPN ⊢
  clear hX hbd
  go_enter Tryz.func12, Tryz.ntmps12
  go_wp2_with (first | (go_at_call 40; (with_reducible refine (HLI.out).mono ?_); rintro e w1 ⟨lv, rfl, hlv, g1⟩; have hlv2 := Lib.hid hlv; obtain ⟨la, lc, rfl, hlm, -⟩ := hlv; rw [List.length_map] at hlv2 hlm; rw [List.length_map]; unfold maxLen at hlm) | fail)
  obtain ⟨kb, hkb1, HKV0⟩ := dvals_low (by have := g1.size; omega) hlv2.out
  have HKV := Lib.hid HKV0
  obtain ⟨h0, hh0⟩ : ∃ h0, w1.heap[kb]? = h0 := ⟨_, rfl⟩
  have hkb2 : kb ≠ w1.heap.size := by omega
  have hkB : kb < w1.heap.size + 1 := by omega
  have gW3 : Gr w1 (w1.alloc (.cells #[.slice none 0 0, .slice none 0 0, .slice none 0 0, .slice none 0 0, .int .i64 0, .int .i64 0, .int .i64 0, .int .i64 0, .bool false] 28)) := (Gr.refl _).alloc _
  have G21 : Gr (w.alloc (.cells #[.slice none 0 0, .slice none 0 0, .slice none 0 0, .slice none 0 0, .int .i64 0, .int .i64 0, .int .i64 0, .int .i64 0, .bool false] 28)) (w1.alloc (.cells #[.slice none 0 0, .slice none 0 0, .slice none 0 0, .slice none 0 0, .int .i64 0, .int .i64 0, .int .i64 0, .int .i64 0, .bool false] 28)) := g1.trans gW3
  have HKL : Hid (KL kb h0 (w1.alloc (.cells #[.slice none 0 0, .slice none 0 0, .slice none 0 0, .slice none 0 0, .int .i64 0, .int .i64 0, .int .i64 0, .int .i64 0, .bool false] 28))) := KL.gr ⟨hh0, hkb1⟩ gW3
  have hb3 : ((w1.alloc (.cells #[.slice none 0 0, .slice none 0 0, .slice none 0 0, .slice none 0 0, .int .i64 0, .int .i64 0, .int .i64 0, .int .i64 0, .bool false] 28))).heap[w1.heap.size]? = some (.cells #[.slice none 0 0, .slice none 0 0, .slice none 0 0, .slice none 0 0, .int .i64 0, .int .i64 0, .int .i64 0, .int .i64 0, .bool false] 28) := heap_alloc_new w1 _
  have HRD1 : Hid (RdP 28 w1.heap.size (w1.heap.size + 1) (w1.alloc (.cells #[.slice none 0 0, .slice none 0 0, .slice none 0 0, .slice none 0 0, .int .i64 0, .int .i64 0, .int .i64 0, .int .i64 0, .bool false] 28)) pln0 none) := by
    refine ⟨_, _, _, _, ⟨⟨_, hb3, by simp⟩, ⟨by simp, ?_, ?_, ?_, ?_, ?_, ?_, ?_, ?_, ?_⟩, fun x hx => by cases hx⟩, DrS.nil (by omega) (by simp)⟩
    all_goals (rw [cell_of_row _ _ _ _ _ _ hb3]; rfl)
  rw [hh0] at HKV
  have hbw : ((w.alloc (.cells #[.slice none 0 0, .slice none 0 0, .slice none 0 0, .slice none 0 0, .int .i64 0, .int .i64 0, .int .i64 0, .int .i64 0, .bool false] 28))).heap.size ≤ w1.heap.size := g1.size
  have hw1 : w.heap.size < w1.heap.size + 1 := by have := g1.size; omega
  clear HKV0 hlv2 hh0 hb3
  generalize hw3 : (w1.alloc (.cells #[.slice none 0 0, .slice none 0 0, .slice none 0 0, .slice none 0 0, .int .i64 0, .int .i64 0, .int .i64 0, .int .i64 0, .bool false] 28)) = w3 at *
  clear hw3
  generalize w1.heap.size = b at *
  generalize hBB : b + 1 = B at *
  have hbB : b < B := by omega
  clear hBB
  go_wp2_with fail
  go_loopw [7, 8, 9, 10, 11] (fun y x _ _ _ wr => ∃ (k : Nat) (S : Option Pln), x = .int .i64 k ∧ y = .bool S.isSome ∧ k ≤ X.length ∧ Gr (w.alloc (.cells #[.slice none 0 0, .slice none 0 0, .slice none 0 0, .slice none 0 0, .int .i64 0, .int .i64 0, .int .i64 0, .int .i64 0, .bool false] 28)) wr ∧ KL kb h0 wr ∧ RdP 28 b B wr (S.getD pln0) none ∧ SzO (unl (X.take k)).size S ∧ Hid (prgT (X.take k) 0 none = .inr S)) (fun _ x _ _ _ _ => X.length - (intOf x).toNat)
  case atStart => exact ⟨0, none, rfl, rfl, Nat.zero_le _, G21, HKL.out, HRD1.out, SzO.none _, rfl⟩
  case round =>
    obtain ⟨k, S, rfl, rfl, hk, g2, hkk, hrd, hsz, HG⟩ := hrel
    have gw := G02.trans g2
    have hut := unl_take_le X k
    by_cases hlt : k < X.length
    · have hk1 : (k : Int) < (X.length : Int) := by omega
      obtain ⟨bb, o, hs2, z, y0⟩ := vals_at (HKV.out wr hkk.1 hkk.2) k hlt
      subst hs2
      have hxs := HBD.out _ (List.getElem_mem hlt)
      have hunl := unl_take hlt
      have HBa := Lib.hid (fun e h => HPB.out k S e hlt HG.out h)
      have HNx := Lib.hid (fun S' (h : takeT S X[k] = .inr S') => prgT_next hlt HG.out h)
      have HSn := Lib.hid (fun S' (h : takeT S X[k] = .inr S') => takeT_sz h hsz (by omega) (by omega))
      have HEr := Lib.hid (fun e (h0 : skipB X[k] = false) (h : takeR S X[k] = .inl e) => takeR_err h0 h)
      have HSK : Hid (skipB X[k] = (decide (X[k].size = 0) || decide (bt X[k] 0 = 35))) := rfl
      rw [← hunl] at HSn
      have HRK := Lib.hid hrd
      have HKK := Lib.hid hkk
      have HSZ : Hid (SzO 1000000 S) := fun P hP => (hsz P hP).mono (by omega)
      have HXS := Lib.hid (show X[k].size ≤ 1048576 by omega)
      clear HG hkk hrd hsz hxs HBD hunl hut
      generalize hXk : X[k] = x at *
      by_cases hx0 : x.size = 0
      · have hsk : skipB x = true := by rw [HSK.out, decide_eq_true hx0]; rfl
        have htt := takeT_skip (S := S) hsk
        have HG2 := Lib.hid (HNx.out S htt)
        have HS2 := Lib.hid (HSn.out S htt)
        have e1 : x.toList.isEmpty = true := by rw [List.isEmpty_iff]; exact toList_nil.2 hx0
        have e2 : x.toList = [] := toList_nil.2 hx0
        have e3 : (x.toList == []) = true := by rw [e2]; rfl
        clear HBa HNx HSn HEr hsk htt hXk e2
        go_wp2_with fail
        go_roundw
        case rel => exact ⟨k + 1, S, by go_num, rfl, hlt, g2, HKK.out, HRK.out, HS2.out, HG2⟩
        case measure => simp [intOf]; omega
      have hpos : 0 < x.size := by omega
      have hpos1 : (0 : Int) < (x.size : Int) := by omega
      have hne : ¬ x.toList = [] := fun e => hx0 (toList_nil.1 e)
      have e1 : x.toList.isEmpty = false := by simp [List.isEmpty_iff, hne]
      have e3 : (x.toList == []) = false := by simpa using hne
      have hbt := bt_get x 0 hpos
      rw [decide_eq_false hx0, Bool.false_or, hbt] at HSK
      clear hne hbt hx0 hXk
      have HP := Lib.hid hpos
      by_cases h35 : ((x[0]).toNat : Int) = 35
      · have hsk : skipB x = true := HSK.out.trans (decide_eq_true h35)
        have htt := takeT_skip (S := S) hsk
        have HG2 := Lib.hid (HNx.out S htt)
        have HS2 := Lib.hid (HSn.out S htt)
        have t35 : (((x[0]).toNat : Int) == 35) = true := beqT h35
        clear HBa HNx HSn HEr hsk htt h35 HSK
        go_wp2_with fail
        go_roundw
        case rel => exact ⟨k + 1, S, by go_num, rfl, hlt, g2, HKK.out, HRK.out, HS2.out, HG2⟩
        case measure => simp [intOf]; omega
      have hsk : skipB x = false := HSK.out.trans (decide_eq_false h35)
      have t35 : (((x[0]).toNat : Int) == 35) = false := beqF h35
      have HSF := Lib.hid hsk
      clear h35 HSK hsk
      have HWD := Lib.hid (refWords_any x HXS.out wr)
      cases hwd : wdB x with
      | none =>
        have hq : takeR S x = .inl 2 := by unfold takeR; rw [hwd]
        rw [hwd] at HWD
        have HW1 : Hid (Calls Tryz.prog 29 #[.string x] wr fun e' w'' => ∃ v, e' = .returned (.tuple #[v, .bool false]) ∧ Gr wr w'') := (HWD.out).mono fun e w2 ⟨v, he, _, hg⟩ => ⟨v, he, hg⟩
        have HR := Lib.hid (HBa.out 2 (takeT_no HSF.out hq))
        clear HWD HBa HNx HSn HEr hq hwd
        go_wp2_with (first | ((go_at_call 29; (with_reducible refine (HW1.out).mono ?_)); rintro e' w4 ⟨v4, rfl, g4⟩; obtain ⟨z4, k0, k1, k2, k3, k4, k5, k6, k7, k8, f0, f1, f2, f3, f4, f5, f6, f7, f8⟩ := HDX.out _ (g2.trans g4)) | fail)
        try rw [Exit.noGoto_ret]
        (refine bodyPost_ret (v := .tuple #[.agg #[.slice none 0 0, .slice none 0 0, .slice none 0 0, .slice none 0 0, .int .i64 0, .int .i64 0, .int .i64 0, .int .i64 0, .bool false], .int .i64 ((k : Int) + 1), .int .i64 2]) (by simp [results, Tryz.results12, go_sem, z4, k0, k1, k2, k3, k4, k5, k6, k7, k8, f0, f1, f2, f3, f4, f5, f6, f7, f8]) rfl ?_)
        with_reducible exact RetPp.no HR.out ((((((((((G02.trans (g2.trans g4)).setCell hwz _).setCell hwz _).setCell hwz _).setCell hwz _).setCell hwz _).setCell hwz _).setCell hwz _).setCell hwz _).setCell hwz _)
      | some L =>
        rw [hwd] at HWD
        have HW1 : Hid (Calls Tryz.prog 29 #[.string x] wr fun e' w'' => ∃ v, e' = .returned (.tuple #[v, .bool true]) ∧ IsVals w'' v (L.map Value.string) ∧ Gr wr w'') := HWD.out
        obtain ⟨hLne, -, hLs⟩ := wdS_ne hwd
        have hLsz : ∀ x ∈ L, x.size ≤ 1048576 := fun y hy => by have := hLs y hy; have := HXS.out; omega
        have hqS : takeR S x = takeL S L := by unfold takeR; rw [hwd]
        rw [hqS] at HEr
        have HTN : Hid (∀ e, takeL S L = .inl e → takeT S x = .inl e) := fun e h => takeT_no HSF.out (hqS.trans h)
        have HTY : Hid (∀ D, takeL S L = .inr D → takeT S x = .inr (some D)) := fun D h => takeT_go HSF.out (hqS.trans h)
        clear HWD hwd hLs hqS
        cases S with
        | none =>
          have HHD := Lib.hid (fun (v : Value) (w' : World) (g' : Gr wr w') (hv : IsVals w' v (L.map Value.string)) => refHead_any 28 b B kb h0 v L (w.alloc (.cells #[.slice none 0 0, .slice none 0 0, .slice none 0 0, .slice none 0 0, .int .i64 0, .int .i64 0, .int .i64 0, .int .i64 0, .bool false] 28)) w' hbw (g2.trans g') (HKK.out.gr g') hkb2 (HRK.out.gr g') hv hLne (fun y hy => by have := hLsz y hy; unfold maxLen; omega))
          have hfr := firstR_head L
          have hfl : takeL none L = firstR L := rfl
          rw [← hfl] at hfr
          generalize headR L = q at HHD hfr
          cases q with
          | none =>
            dsimp only at hfr
            have HR := Lib.hid (HBa.out 2 (HTN.out 2 hfr))
            have HL1 : Hid (∀ (v : Value) (w' : World), Gr wr w' → IsVals w' v (L.map Value.string) → Calls Tryz.prog 41 #[.pointer (some ⟨b, 0, none⟩), v] w' fun e w'' => e = .returned (.bool false) ∧ Gr (w.alloc (.cells #[.slice none 0 0, .slice none 0 0, .slice none 0 0, .slice none 0 0, .int .i64 0, .int .i64 0, .int .i64 0, .int .i64 0, .bool false] 28)) w'') := HHD.out
            clear HHD HBa HNx HSn HEr HTN HTY hfr hfl
            go_wp2_with (first | ((go_at_call 29; (with_reducible refine (HW1.out).mono ?_)); rintro e' w4 ⟨v4, rfl, hv4, g4⟩; have HV4 := Lib.hid hv4; clear hv4) | (go_at_call 41; (with_reducible refine (HL1.out _ _ g4 HV4.out).mono ?_); rintro e5 w5 ⟨rfl, g5⟩; obtain ⟨z4, k0, k1, k2, k3, k4, k5, k6, k7, k8, f0, f1, f2, f3, f4, f5, f6, f7, f8⟩ := HDX.out _ (g5)) | fail)
            try rw [Exit.noGoto_ret]
            (refine bodyPost_ret (v := .tuple #[.agg #[.slice none 0 0, .slice none 0 0, .slice none 0 0, .slice none 0 0, .int .i64 0, .int .i64 0, .int .i64 0, .int .i64 0, .bool false], .int .i64 ((k : Int) + 1), .int .i64 2]) (by simp [results, Tryz.results12, go_sem, z4, k0, k1, k2, k3, k4, k5, k6, k7, k8, f0, f1, f2, f3, f4, f5, f6, f7, f8]) rfl ?_)
            with_reducible exact RetPp.no HR.out ((((((((((G02.trans g5).setCell hwz _).setCell hwz _).setCell hwz _).setCell hwz _).setCell hwz _).setCell hwz _).setCell hwz _).setCell hwz _).setCell hwz _)
          | some D =>
            dsimp only at hfr
            have htt := HTY.out D hfr
            have HG2 := Lib.hid (HNx.out (some D) htt)
            have HS2 := Lib.hid (HSn.out (some D) htt)
            have HL1 : Hid (∀ (v : Value) (w' : World), Gr wr w' → IsVals w' v (L.map Value.string) → Calls Tryz.prog 41 #[.pointer (some ⟨b, 0, none⟩), v] w' fun e w'' => e = .returned (.bool true) ∧ Gr (w.alloc (.cells #[.slice none 0 0, .slice none 0 0, .slice none 0 0, .slice none 0 0, .int .i64 0, .int .i64 0, .int .i64 0, .int .i64 0, .bool false] 28)) w'' ∧ KL kb h0 w'' ∧ RdP 28 b B w'' D none) := HHD.out
            clear HHD HBa HNx HSn HEr HTN HTY hfr hfl htt
            go_wp2_with (first | ((go_at_call 29; (with_reducible refine (HW1.out).mono ?_)); rintro e' w4 ⟨v4, rfl, hv4, g4⟩; have HV4 := Lib.hid hv4; clear hv4) | (go_at_call 41; (with_reducible refine (HL1.out _ _ g4 HV4.out).mono ?_); rintro e5 w5 ⟨rfl, g5, h5, k5'⟩; have H5 := Lib.hid h5; have K5 := Lib.hid k5'; clear h5 k5') | fail)
            go_roundw
            case rel => exact ⟨k + 1, some D, by go_num, rfl, hlt, g5, H5.out, K5.out, HS2.out, HG2⟩
            case measure => simp [intOf]; omega
        | some P =>
          cases L with
          | nil => exact absurd rfl hLne
          | cons x0 t =>
          have HHD := Lib.hid (fun (v : Value) (w' : World) (g' : Gr wr w') (hv : IsVals w' v ((x0 :: t).map Value.string)) => refRow_all b B kb h0 v x0 t P (w.alloc (.cells #[.slice none 0 0, .slice none 0 0, .slice none 0 0, .slice none 0 0, .int .i64 0, .int .i64 0, .int .i64 0, .int .i64 0, .bool false] 28)) w' hbw (g2.trans g') (HKK.out.gr g') hkB hkb2 (HRK.out.gr g') hv (fun y hy => hLsz y (by simp [hy])) (HSZ.out P rfl))
          have hfl : takeL (some P) (x0 :: t) = rowW P (x0 :: t) := rfl
          rw [hfl] at HTN HTY HEr
          generalize rowW P (x0 :: t) = q at *
          cases q with
          | inl E =>
            have HR := Lib.hid (HBa.out E (HTN.out E rfl))
            have te : (E != 0) = true := bneT (HEr.out E HSF.out rfl)
            have HL1 : Hid (∀ (v : Value) (w' : World), Gr wr w' → IsVals w' v ((x0 :: t).map Value.string) → Calls Tryz.prog 42 #[.pointer (some ⟨b, 0, none⟩), v] w' fun e w'' => e = .returned (.int .i64 E) ∧ Gr (w.alloc (.cells #[.slice none 0 0, .slice none 0 0, .slice none 0 0, .slice none 0 0, .int .i64 0, .int .i64 0, .int .i64 0, .int .i64 0, .bool false] 28)) w'') := HHD.out
            clear HHD HBa HNx HSn HEr HTN HTY hfl
            go_wp2_with (first | ((go_at_call 29; (with_reducible refine (HW1.out).mono ?_)); rintro e' w4 ⟨v4, rfl, hv4, g4⟩; have HV4 := Lib.hid hv4; clear hv4) | (go_at_call 42; (with_reducible refine (HL1.out _ _ g4 HV4.out).mono ?_); rintro e5 w5 ⟨rfl, g5⟩; obtain ⟨z4, k0, k1, k2, k3, k4, k5, k6, k7, k8, f0, f1, f2, f3, f4, f5, f6, f7, f8⟩ := HDX.out _ (g5)) | fail)
            try rw [Exit.noGoto_ret]
            (refine bodyPost_ret (v := .tuple #[.agg #[.slice none 0 0, .slice none 0 0, .slice none 0 0, .slice none 0 0, .int .i64 0, .int .i64 0, .int .i64 0, .int .i64 0, .bool false], .int .i64 ((k : Int) + 1), .int .i64 E]) (by simp [results, Tryz.results12, go_sem, z4, k0, k1, k2, k3, k4, k5, k6, k7, k8, f0, f1, f2, f3, f4, f5, f6, f7, f8]) rfl ?_)
            with_reducible exact RetPp.no HR.out ((((((((((G02.trans g5).setCell hwz _).setCell hwz _).setCell hwz _).setCell hwz _).setCell hwz _).setCell hwz _).setCell hwz _).setCell hwz _).setCell hwz _)
          | inr D =>
            have htt := HTY.out D rfl
            have HG2 := Lib.hid (HNx.out (some D) htt)
            have HS2 := Lib.hid (HSn.out (some D) htt)
            have HL1 : Hid (∀ (v : Value) (w' : World), Gr wr w' → IsVals w' v ((x0 :: t).map Value.string) → Calls Tryz.prog 42 #[.pointer (some ⟨b, 0, none⟩), v] w' fun e w'' => e = .returned (.int .i64 0) ∧ Gr (w.alloc (.cells #[.slice none 0 0, .slice none 0 0, .slice none 0 0, .slice none 0 0, .int .i64 0, .int .i64 0, .int .i64 0, .int .i64 0, .bool false] 28)) w'' ∧ KL kb h0 w'' ∧ RdP 28 b B w'' D none) := HHD.out
            clear HHD HBa HNx HSn HEr HTN HTY hfl htt
            go_wp2_with (first | ((go_at_call 29; (with_reducible refine (HW1.out).mono ?_)); rintro e' w4 ⟨v4, rfl, hv4, g4⟩; have HV4 := Lib.hid hv4; clear hv4) | (go_at_call 42; (with_reducible refine (HL1.out _ _ g4 HV4.out).mono ?_); rintro e5 w5 ⟨rfl, g5, h5, k5'⟩; have H5 := Lib.hid h5; have K5 := Lib.hid k5'; clear h5 k5') | fail)
            go_roundw
            case rel => exact ⟨k + 1, some D, by go_num, rfl, hlt, g5, H5.out, K5.out, HS2.out, HG2⟩
            case measure => simp [intOf]; omega
    · have hk1 : ¬ (k : Int) < (X.length : Int) := by omega
      have hg := HG.out
      rw [List.take_of_length_le (show X.length ≤ k by omega)] at hg
      obtain ⟨z4, k0, k1, k2, k3, k4, k5, k6, k7, k8, f0, f1, f2, f3, f4, f5, f6, f7, f8⟩ := HDX.out _ (g2)
      clear HG HPB HBD
      cases S with
      | none =>
        have HR := Lib.hid (HPN.out hg)
        clear hg hkk hrd hsz HPN HPG
        go_wp2_with fail
        try rw [Exit.noGoto_ret]
        (refine bodyPost_ret (v := .tuple #[.agg #[.slice none 0 0, .slice none 0 0, .slice none 0 0, .slice none 0 0, .int .i64 0, .int .i64 0, .int .i64 0, .int .i64 0, .bool false], .int .i64 X.length, .int .i64 2]) (by simp [results, Tryz.results12, go_sem, z4, k0, k1, k2, k3, k4, k5, k6, k7, k8, f0, f1, f2, f3, f4, f5, f6, f7, f8]) rfl ?_)
        with_reducible exact RetPp.no HR.out ((((((((((gw).setCell hwz _).setCell hwz _).setCell hwz _).setCell hwz _).setCell hwz _).setCell hwz _).setCell hwz _).setCell hwz _).setCell hwz _)
      | some P =>
        have HR0 := HPG.out P hg
        have hzP := hsz P rfl
        obtain ⟨e, j, s', l, hbx, hds⟩ := hrd
        simp only [Option.getD_some] at hbx hds
        have n1 : P.es.length ≤ maxLen := by have := hzP.es; unfold maxLen; omega
        have n2 : P.js.length ≤ maxLen := by have := hzP.js; unfold maxLen; omega
        have n3 : P.ss.length ≤ maxLen := by have := hzP.ss; unfold maxLen; omega
        have n4 : P.ls.length ≤ maxLen := by have := hzP.ls; unfold maxLen; omega
        have hpl := hds.pln n1 n2 n3 n4
        have HCK := Lib.hid (fun (w' : World) (g : Gr wr w') => refCheck_any _ P w' (hpl.gr g) hzP.ok (by have := hzP.fl; omega))
        obtain ⟨a1, c1, a2, c2, a3, c3, a4, c4, hpv, -⟩ := hpl
        unfold plnV at hpv HCK
        simp only [Value.agg.injEq, Array.mk.injEq, List.cons.injEq, and_true] at hpv
        obtain ⟨rfl, rfl, rfl, rfl⟩ := hpv
        have HDS := Lib.hid hds
        have HBX := Lib.hid hbx
        obtain ⟨zb, p0, p1, p2, p3, p4, p5, p6, p7, p8⟩ := hbx.2.1
        have N1 := Lib.hid n1
        have N2 := Lib.hid n2
        have N3 := Lib.hid n3
        have N4 := Lib.hid n4
        have hw1' : w.heap.size < B := by omega
        clear hg hkk hds hbx hsz hzP HPN HPG n1 n2 n3 n4
        by_cases hE : chk P = 0
        · rw [if_pos hE] at HR0
          rw [hE] at HCK
          have HR := Lib.hid HR0
          clear HR0 hE
          go_wp2_with (first | (go_at_call 43; (with_reducible refine (HCK.out _ (Gr.refl _)).mono ?_); rintro e wn ⟨rfl, gn⟩; obtain ⟨z4, k0, k1, k2, k3, k4, k5, k6, k7, k8, f0, f1, f2, f3, f4, f5, f6, f7, f8⟩ := HDX.out _ (g2.trans gn); obtain ⟨zb', p0', p1', p2', p3', p4', p5', p6', p7', p8'⟩ := HBX.out.2.1.gr gn) | fail)
          try rw [Exit.noGoto_ret]
          (refine bodyPost_ret (v := .tuple #[.agg #[.slice a1 P.es.length c1, .slice a2 P.js.length c2, .slice a3 P.ss.length c3, .slice a4 P.ls.length c4, .int .i64 P.top, .int .i64 P.brake, .int .i64 P.margin, .int .i64 P.throw, .bool P.hard], .int .i64 X.length, .int .i64 0]) (by simp [results, Tryz.results12, go_sem, z4, k0, k1, k2, k3, k4, k5, k6, k7, k8, f0, f1, f2, f3, f4, f5, f6, f7, f8]) rfl ?_)
          exact RetPp.yes HR.out ((((((((((HDS.out.gr gn).setc _ hw1' _).setc _ hw1' _).setc _ hw1' _).setc _ hw1' _).setc _ hw1' _).setc _ hw1' _).setc _ hw1' _).setc _ hw1' _).setc _ hw1' _ |>.pln N1.out N2.out N3.out N4.out) ((((((((((gw.trans gn).setCell hwz _).setCell hwz _).setCell hwz _).setCell hwz _).setCell hwz _).setCell hwz _).setCell hwz _).setCell hwz _).setCell hwz _)
        · rw [if_neg hE] at HR0
          have HR := Lib.hid HR0
          clear HR0
          generalize chk P = E at *
          have tE : (E != 0) = true := bneT hE
          clear hE
          go_wp2_with (first | (go_at_call 43; (with_reducible refine (HCK.out _ (Gr.refl _)).mono ?_); rintro e wn ⟨rfl, gn⟩; obtain ⟨z4, k0, k1, k2, k3, k4, k5, k6, k7, k8, f0, f1, f2, f3, f4, f5, f6, f7, f8⟩ := HDX.out _ (g2.trans gn)) | fail)
          try rw [Exit.noGoto_ret]
          (refine bodyPost_ret (v := .tuple #[.agg #[.slice none 0 0, .slice none 0 0, .slice none 0 0, .slice none 0 0, .int .i64 0, .int .i64 0, .int .i64 0, .int .i64 0, .bool false], .int .i64 X.length, .int .i64 E]) (by simp [results, Tryz.results12, go_sem, z4, k0, k1, k2, k3, k4, k5, k6, k7, k8, f0, f1, f2, f3, f4, f5, f6, f7, f8]) rfl ?_)
          with_reducible exact RetPp.no HR.out ((((((((((gw.trans gn).setCell hwz _).setCell hwz _).setCell hwz _).setCell hwz _).setCell hwz _).setCell hwz _).setCell hwz _).setCell hwz _).setCell hwz _)
end Go.Proofs.YtknmngejjoohdaaGreatDoor
