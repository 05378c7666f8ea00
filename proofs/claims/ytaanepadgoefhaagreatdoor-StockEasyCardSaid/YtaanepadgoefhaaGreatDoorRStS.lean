/- half.Stock, stock.read; the reference's Row. -/
import Derived.Test.YtaanepadgoefhaaGreatDoorRows
import Derived.Test.YtaanepadgoefhaaGreatDoorRStR
import Derived.Deep.RegionHeld3
namespace Go.Proofs.YtaanepadgoefhaaGreatDoor
open Go.ChangeShapes Go.WideShapes Go.ChangeAt Go.RowKit Go.Maps
set_option linter.unusedVariables false
set_option linter.unusedSimpArgs false
theorem stockL : bStock.toList = [115, 116, 111, 99, 107] := by rw [ByteArray.toList_eq]; rfl
theorem nums_val {l : List ByteArray} {N : List Int} (h : nums l = some N) : N = l.map fun x => numN x 4 := by
  unfold nums at h
  split at h
  · cases h; rfl
  · cases h
theorem stk_box {w w' : World} (g : Gr (w.alloc (.cells #[.string ⟨#[]⟩, .int .i64 0, .int .i64 0, .int .i64 0, .int .i64 0] 30)) w') : w.heap.size < w'.heap.size ∧ w'.cell? ⟨w.heap.size, 0, none⟩ = some (.string ⟨#[]⟩) ∧ w'.cell? ⟨w.heap.size, 1, none⟩ = some (.int .i64 0) ∧ w'.cell? ⟨w.heap.size, 2, none⟩ = some (.int .i64 0) ∧ w'.cell? ⟨w.heap.size, 3, none⟩ = some (.int .i64 0) ∧ w'.cell? ⟨w.heap.size, 4, none⟩ = some (.int .i64 0) ∧ w'.frozen? ⟨w.heap.size, 0, none⟩ = false ∧ w'.frozen? ⟨w.heap.size, 1, none⟩ = false ∧ w'.frozen? ⟨w.heap.size, 2, none⟩ = false ∧ w'.frozen? ⟨w.heap.size, 3, none⟩ = false ∧ w'.frozen? ⟨w.heap.size, 4, none⟩ = false := by
  have hz : w.heap.size < ((w.alloc (.cells #[.string ⟨#[]⟩, .int .i64 0, .int .i64 0, .int .i64 0, .int .i64 0] 30))).heap.size := by simp
  refine ⟨Nat.lt_of_lt_of_le hz g.size, (g.cell _ _ hz).trans ?_, (g.cell _ _ hz).trans ?_, (g.cell _ _ hz).trans ?_, (g.cell _ _ hz).trans ?_, (g.cell _ _ hz).trans ?_, (g.frozen _ _ hz).trans ?_, (g.frozen _ _ hz).trans ?_, (g.frozen _ _ hz).trans ?_, (g.frozen _ _ hz).trans ?_, (g.frozen _ _ hz).trans ?_⟩
  all_goals go_simp
theorem four_vals {w : World} {v : Value} {a b c d : Int} (h : IsVals w v ([a, b, c, d].map (Value.int .i64))) :
    ∃ bb o cc, v = .slice (some ⟨bb, o, none⟩) 4 cc ∧ bb < w.heap.size ∧ w.cell? ⟨bb, o, none⟩ = some (.int .i64 a) ∧ w.cell? ⟨bb, o + 1, none⟩ = some (.int .i64 b) ∧ w.cell? ⟨bb, o + 2, none⟩ = some (.int .i64 c) ∧ w.cell? ⟨bb, o + 3, none⟩ = some (.int .i64 d) := by
  obtain ⟨a', c', rfl, _, hx⟩ := h
  rcases hx with hx | ⟨b2, o2, rfl, hb, hc⟩
  · cases hx
  · exact ⟨b2, o2, c', rfl, hb, hc 0 _ rfl, hc 1 _ rfl, hc 2 _ rfl, hc 3 _ rfl⟩
set_option maxRecDepth 100000 in
set_option maxHeartbeats 2000000 in
theorem halfStock_any (v : Value) (L : List ByteArray) (w : World) (hv : IsVals w v (L.map Value.string)) (hc : CapOk v) (hs : ∀ x ∈ L, x.size ≤ maxLen) :
    Calls Tryz.prog 106 #[v] w fun e w' => e = .returned (stkR (rowS L)) ∧ Gr w w' := by
  have HV := Lib.hid hv
  obtain ⟨a, c, rfl, hm, -⟩ := hv
  rw [List.length_map] at HV hm hc ⊢
  unfold maxLen at hm
  have hcap := hc _ _ _ rfl
  have g0 : Gr w (w.alloc (.cells #[.string ⟨#[]⟩, .int .i64 0, .int .i64 0, .int .i64 0, .int .i64 0] 30)) := (Gr.refl _).alloc _
  by_cases h6 : L.length = 6
  · obtain ⟨x0, x1, x2, x3, x4, x5, rfl⟩ := list_six h6
    have hne := HV.out
    obtain ⟨a', c', e', _, hx⟩ := hne
    simp only [Value.slice.injEq] at e'
    obtain ⟨rfl, -, rfl⟩ := e'
    rcases hx with hx | ⟨bb, o, rfl, -, -⟩
    · cases hx
    obtain ⟨z, y0, y1, hv4⟩ := vals_six HV.out
    have HV4 := Lib.hid hv4
    have hs1 : x1.size ≤ maxLen := hs x1 (by simp)
    have HNM := Lib.hid (fun w' => name_any x1 hs1 w')
    have HNU := Lib.hid (fun (w' : World) (g : Gr w w') => hnums_any _ [x2, x3, x4, x5] w' (hv4.gr g) (fun x hx => hs x (by simp only [List.mem_cons] at hx ⊢; exact .inr (.inr hx))) (by simp))
    have HSL := slice_two bb o c hcap
    have HR0 := Lib.hid (rowS_six x0 x1 x2 x3 x4 x5)
    have y0 := (g0.cell _ _ z).trans y0
    have y1 := (g0.cell _ _ z).trans y1
    clear hv4 hs hc h6
    dsimp only [List.length] at *
    generalize rowS [x0, x1, x2, x3, x4, x5] = R at HR0 ⊢
    generalize nmB x1 = q at HNM HR0
    have hh : w.heap.size ≤ w.heap.size := Nat.le_refl _
    by_cases h0 : x0 = bStock
    · subst h0
      have t0 : (bStock.toList == [115, 116, 111, 99, 107]) = true := by rw [stockL]; rfl
      cases q
      · have HR : Hid (R = none) := by show _ = _; rw [HR0.out, if_neg (by simp)]
        clear HR0
        go_enter Tryz.func106, Tryz.ntmps106
        go_wp2_with (first | (go_at_call 71; (with_reducible refine (HNM.out _).mono ?_); rintro e w3 ⟨rfl, hq⟩; obtain rfl := hq.symm) | fail)
        (refine bodyPost_ret (v := .tuple #[.agg #[.string ⟨#[]⟩, .int .i64 0, .int .i64 0, .int .i64 0, .int .i64 0], .bool false]) (by simp [results, Tryz.results106, go_sem]) rfl ⟨by rw [HR.out]; rfl, ?_⟩)
        first | exact g0 | exact g0.trans g4 | exact (((((g0.trans g4).setCell hh _).setCell hh _).setCell hh _).setCell hh _).setCell hh _ | exact ((((g0.setCell hh _).setCell hh _).setCell hh _).setCell hh _).setCell hh _
      · cases hn : nums [x2, x3, x4, x5] with
        | none =>
          have HR : Hid (R = none) := by show _ = _; rw [HR0.out, if_pos (by simp), hn]
          have HNN : Hid (∀ w', Gr w w' → Calls Tryz.prog 139 #[.slice (some ⟨bb, o + 2, none⟩) 4 (c - 2)] w' fun e w'' => ∃ v, e = .returned (.tuple #[v, .bool false]) ∧ Gr w' w'') := fun w' g => by
            have := HNU.out w' g
            rw [hn] at this
            exact this.mono fun e w2 ⟨v, he, _, hg⟩ => ⟨v, he, hg⟩
          clear HR0 hn HNU
          go_enter Tryz.func106, Tryz.ntmps106
          go_wp2_with (first | (first | (go_at_call 71; (with_reducible refine (HNM.out _).mono ?_); rintro e w3 ⟨rfl, hq⟩; obtain rfl := hq.symm) | fail) | (go_at_call 139; (with_reducible refine (HNN.out _ g0).mono ?_); rintro e w4 ⟨v4, rfl, g4⟩; obtain ⟨z4, k0, k1, k2, k3, k4, f0, f1, f2, f3, f4⟩ := stk_box g4) | fail)
          refine bodyPost_ret (v := .tuple #[.agg #[.string ⟨#[]⟩, .int .i64 0, .int .i64 0, .int .i64 0, .int .i64 0], .bool false]) (by simp [results, Tryz.results106, go_sem, z4, k0, k1, k2, k3, k4, f0, f1, f2, f3, f4]) rfl ⟨by rw [HR.out]; rfl, ?_⟩
          first | exact g0 | exact g0.trans g4 | exact (((((g0.trans g4).setCell hh _).setCell hh _).setCell hh _).setCell hh _).setCell hh _ | exact ((((g0.setCell hh _).setCell hh _).setCell hh _).setCell hh _).setCell hh _
        | some N =>
          have HR : Hid (R = some ⟨x1, numN x2 4, numN x3 4, numN x4 4, numN x5 4⟩) := by show _ = _; rw [HR0.out, if_pos (by simp), hn]
          have hN := nums_val hn
          have HNN : Hid (∀ w', Gr w w' → Calls Tryz.prog 139 #[.slice (some ⟨bb, o + 2, none⟩) 4 (c - 2)] w' fun e w'' => ∃ v, e = .returned (.tuple #[v, .bool true]) ∧ IsVals w'' v ([numN x2 4, numN x3 4, numN x4 4, numN x5 4].map (Value.int .i64)) ∧ Gr w' w'') := fun w' g => by
            have := HNU.out w' g
            rw [hn] at this
            exact this.mono fun e w2 ⟨v, he, hv, hg⟩ => ⟨v, he, by rw [hN] at hv; exact hv, hg⟩
          clear HR0 hn HNU hN
          generalize numN x2 4 = n2 at HR HNN
          generalize numN x3 4 = n3 at HR HNN
          generalize numN x4 4 = n4 at HR HNN
          generalize numN x5 4 = n5 at HR HNN
          go_enter Tryz.func106, Tryz.ntmps106
          go_wp2_with (first | (first | (go_at_call 71; (with_reducible refine (HNM.out _).mono ?_); rintro e w3 ⟨rfl, hq⟩; obtain rfl := hq.symm) | fail) | (go_at_call 139; (with_reducible refine (HNN.out _ g0).mono ?_); rintro e w4 ⟨v4, rfl, hv4, g4⟩; obtain ⟨b4, o4, c4, rfl, z5, m0, m1, m2, m3⟩ := four_vals hv4; obtain ⟨z4, k0, k1, k2, k3, k4, f0, f1, f2, f3, f4⟩ := stk_box g4; have y1 := (g4.cell _ _ (Nat.lt_of_lt_of_le z g0.size)).trans y1) | fail)
          clear HNN hv4
          go_region
          all_goals go_wp2_with fail
          all_goals
            refine bodyPost_ret (v := .tuple #[.agg #[.string x1, .int .i64 n2, .int .i64 n3, .int .i64 n4, .int .i64 n5], .bool true]) (by simp [results, Tryz.results106, go_sem, z4, k0, k1, k2, k3, k4, f0, f1, f2, f3, f4]) rfl ⟨by rw [HR.out]; rfl, ?_⟩
            first | exact (((((g0.trans g4).drew.setCell hh _).setCell hh _).setCell hh _).setCell hh _).setCell hh _ | exact ((((((g0.trans g4).setCell hh _).setCell hh _).setCell hh _).setCell hh _).setCell hh _).drew
    · have HR : Hid (R = none) := by show _ = _; rw [HR0.out, if_neg (by simp [h0])]
      have t0 : (x0.toList == [115, 116, 111, 99, 107]) = false := by rw [← stockL]; exact str_ne h0
      clear HR0 h0
      go_enter Tryz.func106, Tryz.ntmps106
      go_wp2_with fail
      (refine bodyPost_ret (v := .tuple #[.agg #[.string ⟨#[]⟩, .int .i64 0, .int .i64 0, .int .i64 0, .int .i64 0], .bool false]) (by simp [results, Tryz.results106, go_sem]) rfl ⟨by rw [HR.out]; rfl, ?_⟩)
      first | exact g0 | exact g0.trans g4 | exact (((((g0.trans g4).setCell hh _).setCell hh _).setCell hh _).setCell hh _).setCell hh _ | exact ((((g0.setCell hh _).setCell hh _).setCell hh _).setCell hh _).setCell hh _
  · have HR : Hid (rowS L = none) := rowS_len h6
    have t6 : ((L.length : Int) != 6) = true := bneT (by omega)
    clear hc h6
    have hh : w.heap.size ≤ w.heap.size := Nat.le_refl _
    go_enter Tryz.func106, Tryz.ntmps106
    go_wp2_with fail
    (refine bodyPost_ret (v := .tuple #[.agg #[.string ⟨#[]⟩, .int .i64 0, .int .i64 0, .int .i64 0, .int .i64 0], .bool false]) (by simp [results, Tryz.results106, go_sem]) rfl ⟨by rw [HR.out]; rfl, ?_⟩)
    first | exact g0 | exact g0.trans g4 | exact (((((g0.trans g4).setCell hh _).setCell hh _).setCell hh _).setCell hh _).setCell hh _ | exact ((((g0.setCell hh _).setCell hh _).setCell hh _).setCell hh _).setCell hh _
end Go.Proofs.YtaanepadgoefhaaGreatDoor
