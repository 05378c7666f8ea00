/- The reference's Row. -/
import Derived.Test.YtaanepadgoefhaaGreatDoorRows
import Derived.Test.YtaanepadgoefhaaGreatDoorRStS
import Derived.Test.YtaanepadgoefhaaGreatDoorB6
import Derived.Test.YtaanepadgoefhaaGreatDoorB3
namespace Go.Proofs.YtaanepadgoefhaaGreatDoor
open Go.ChangeShapes Go.WideShapes Go.ChangeAt Go.RowKit Go.Maps
set_option linter.unusedVariables false
set_option linter.unusedSimpArgs false
/-- the box of the result, and the four numbers met so far -/
structure RowW (w wr : World) (m0 m1 m2 m3 : Int) : Prop where
  gr : Gr w wr
  lt : w.heap.size + 1 < wr.heap.size
  k0 : wr.cell? ⟨w.heap.size, 0, none⟩ = some (.string ⟨#[]⟩)
  k1 : wr.cell? ⟨w.heap.size, 1, none⟩ = some (.int .i64 0)
  k2 : wr.cell? ⟨w.heap.size, 2, none⟩ = some (.int .i64 0)
  k3 : wr.cell? ⟨w.heap.size, 3, none⟩ = some (.int .i64 0)
  k4 : wr.cell? ⟨w.heap.size, 4, none⟩ = some (.int .i64 0)
  f0 : wr.frozen? ⟨w.heap.size, 0, none⟩ = false
  f1 : wr.frozen? ⟨w.heap.size, 1, none⟩ = false
  f2 : wr.frozen? ⟨w.heap.size, 2, none⟩ = false
  f3 : wr.frozen? ⟨w.heap.size, 3, none⟩ = false
  f4 : wr.frozen? ⟨w.heap.size, 4, none⟩ = false
  m0 : wr.cell? ⟨w.heap.size + 1, 0, none⟩ = some (.int .i64 m0)
  m1 : wr.cell? ⟨w.heap.size + 1, 1, none⟩ = some (.int .i64 m1)
  m2 : wr.cell? ⟨w.heap.size + 1, 2, none⟩ = some (.int .i64 m2)
  m3 : wr.cell? ⟨w.heap.size + 1, 3, none⟩ = some (.int .i64 m3)
  e0 : wr.frozen? ⟨w.heap.size + 1, 0, none⟩ = false
  e1 : wr.frozen? ⟨w.heap.size + 1, 1, none⟩ = false
  e2 : wr.frozen? ⟨w.heap.size + 1, 2, none⟩ = false
  e3 : wr.frozen? ⟨w.heap.size + 1, 3, none⟩ = false
theorem RowW.start (w : World) : RowW w ((w.alloc (.cells #[.string ⟨#[]⟩, .int .i64 0, .int .i64 0, .int .i64 0, .int .i64 0] 30)).alloc (.cells #[.int .i64 0, .int .i64 0, .int .i64 0, .int .i64 0] 139)) 0 0 0 0 := by
  refine ⟨((Gr.refl _).alloc _).alloc _, by simp, ?_, ?_, ?_, ?_, ?_, ?_, ?_, ?_, ?_, ?_, ?_, ?_, ?_, ?_, ?_, ?_, ?_, ?_⟩
  all_goals go_simp
theorem RowW.put {w wr : World} {m0 m1 m2 m3 : Int} (h : RowW w wr m0 m1 m2 m3) (k : Nat) (n : Int) :
    RowW w (wr.setCell ⟨w.heap.size + 1, k, none⟩ (.int .i64 n)) (if k = 0 then n else m0) (if k = 1 then n else m1) (if k = 2 then n else m2) (if k = 3 then n else m3) := by
  have ne : ∀ j, (⟨w.heap.size + 1, k, none⟩ : Addr) ≠ ⟨w.heap.size, j, none⟩ := fun j e => by simp at e
  have key : ∀ (j : Nat) (m : Int), wr.cell? ⟨w.heap.size + 1, j, none⟩ = some (.int .i64 m) → (wr.setCell ⟨w.heap.size + 1, k, none⟩ (.int .i64 n)).cell? ⟨w.heap.size + 1, j, none⟩ = some (.int .i64 (if k = j then n else m)) := fun j m hj => by
    by_cases e : k = j
    · subst e; rw [if_pos rfl]; exact World.cell?_setCell_same _ _ _ hj
    · rw [if_neg e]; exact (World.cell?_setCell_other _ _ _ _ (fun e2 => e (by injection e2))).trans hj
  exact ⟨h.gr.setCell (Nat.le_succ _) _, (by simpa using h.lt), (World.cell?_setCell_other _ _ _ _ (ne 0)).trans h.k0, (World.cell?_setCell_other _ _ _ _ (ne 1)).trans h.k1, (World.cell?_setCell_other _ _ _ _ (ne 2)).trans h.k2, (World.cell?_setCell_other _ _ _ _ (ne 3)).trans h.k3, (World.cell?_setCell_other _ _ _ _ (ne 4)).trans h.k4,
    by simpa using h.f0, by simpa using h.f1, by simpa using h.f2, by simpa using h.f3, by simpa using h.f4, key 0 _ h.m0, key 1 _ h.m1, key 2 _ h.m2, key 3 _ h.m3, by simpa using h.e0, by simpa using h.e1, by simpa using h.e2, by simpa using h.e3⟩
theorem RowW.step {w wr w' : World} {m0 m1 m2 m3 : Int} (h : RowW w wr m0 m1 m2 m3) (g : Gr wr w') : RowW w w' m0 m1 m2 m3 := by
  have z0 : w.heap.size < wr.heap.size := by have := h.lt; omega
  have z1 := h.lt
  exact ⟨h.gr.trans g, Nat.lt_of_lt_of_le h.lt g.size, (g.cell _ _ z0).trans h.k0, (g.cell _ _ z0).trans h.k1, (g.cell _ _ z0).trans h.k2, (g.cell _ _ z0).trans h.k3, (g.cell _ _ z0).trans h.k4, (g.frozen _ _ z0).trans h.f0, (g.frozen _ _ z0).trans h.f1, (g.frozen _ _ z0).trans h.f2, (g.frozen _ _ z0).trans h.f3, (g.frozen _ _ z0).trans h.f4, (g.cell _ _ z1).trans h.m0, (g.cell _ _ z1).trans h.m1, (g.cell _ _ z1).trans h.m2, (g.cell _ _ z1).trans h.m3, (g.frozen _ _ z1).trans h.e0, (g.frozen _ _ z1).trans h.e1, (g.frozen _ _ z1).trans h.e2, (g.frozen _ _ z1).trans h.e3⟩
theorem nums_none {l : List ByteArray} (h : ∀ k (hk : k < l.length), numB l[k] 4 = true) : nums l ≠ none := by rw [nums_good h]; simp
theorem vals_four {w : World} {bb o c : Nat} {a b d e : ByteArray} (h : IsVals w (.slice (some ⟨bb, o, none⟩) 4 c) ([a, b, d, e].map Value.string)) (k : Nat) (hk : k < 4) : w.cell? ⟨bb, o + k, none⟩ = some (.string ([a, b, d, e][k]'(by simpa using hk))) := by
  obtain ⟨a', c', e', _, hx⟩ := h
  simp only [Value.slice.injEq] at e'
  obtain ⟨rfl, -, rfl⟩ := e'
  rcases hx with hx | ⟨b2, o2, h2, hb, hc⟩
  · cases hx
  · cases h2
    exact hc k _ (by rw [List.getElem?_map, List.getElem?_eq_getElem (by simpa using hk)]; rfl)
/-- the number that is met at index k -/
def upTo (k i : Nat) (x : Int) : Int := if i < k then x else 0
set_option maxRecDepth 100000 in
set_option maxHeartbeats 2000000 in
theorem refRow_any (v : Value) (L : List ByteArray) (w : World) (hv : IsVals w v (L.map Value.string)) (hc : CapOk v) (hs : ∀ x ∈ L, x.size ≤ maxLen) :
    Calls Tryz.prog 68 #[v] w fun e w' => e = .returned (stkR (rowS L)) ∧ Gr w w' := by
  have HV := Lib.hid hv
  obtain ⟨a, c, rfl, hm, -⟩ := hv
  rw [List.length_map] at HV hm hc ⊢
  unfold maxLen at hm
  have hcap := hc _ _ _ rfl
  have g0 : Gr w (w.alloc (.cells #[.string ⟨#[]⟩, .int .i64 0, .int .i64 0, .int .i64 0, .int .i64 0] 30)) := (Gr.refl _).alloc _
  have hh : w.heap.size ≤ w.heap.size := Nat.le_refl _
  by_cases h6 : L.length = 6
  · obtain ⟨x0, x1, x2, x3, x4, x5, rfl⟩ := list_six h6
    have hne := HV.out
    obtain ⟨a', c', e', _, hx⟩ := hne
    simp only [Value.slice.injEq] at e'
    obtain ⟨rfl, -, rfl⟩ := e'
    rcases hx with hx | ⟨bb, o, rfl, -, -⟩
    · cases hx
    obtain ⟨z, y0, y1, hv4⟩ := vals_six HV.out
    have HV4 := Lib.hid hv4
    have hs1 : x1.size ≤ maxLen := hs x1 (by simp)
    have HNM := Lib.hid (fun w' => refName_any x1 hs1 w')
    have HS4 : Hid (∀ x ∈ [x2, x3, x4, x5], x.size ≤ maxLen) := fun x hx => hs x (by simp only [List.mem_cons] at hx ⊢; exact .inr (.inr hx))
    have HR0 := Lib.hid (rowS_six x0 x1 x2 x3 x4 x5)
    have y0 := (g0.cell _ _ z).trans y0
    have y1 := (g0.cell _ _ z).trans y1
    have Y1 := Lib.hid y1
    clear hv4 hs hc h6
    dsimp only [List.length] at *
    generalize rowS [x0, x1, x2, x3, x4, x5] = R at HR0 ⊢
    generalize nmB x1 = q at HNM HR0
    by_cases h0 : x0 = bStock
    · subst h0
      have t0 : (bStock.toList == [115, 116, 111, 99, 107]) = true := by rw [stockL]; rfl
      cases q
      · have HR : Hid (R = none) := by show _ = _; rw [HR0.out, if_neg (by simp)]
        clear HR0
        go_enter Tryz.func68, Tryz.ntmps68
        go_wp2_with (first | (go_at_call 39; (with_reducible refine (HNM.out _).mono ?_); rintro e w3 ⟨rfl, hq⟩; obtain rfl := hq.symm) | fail)
        (refine bodyPost_ret (v := .tuple #[.agg #[.string ⟨#[]⟩, .int .i64 0, .int .i64 0, .int .i64 0, .int .i64 0], .bool false]) (by simp [results, Tryz.results68, go_sem]) rfl ⟨by rw [HR.out]; rfl, ?_⟩)
        (first | exact g0 | exact ((((g0.setCell hh _).setCell hh _).setCell hh _).setCell hh _).setCell hh _)
      · have HRN : Hid (nums [x2, x3, x4, x5] = none → R = none) := fun h => by rw [HR0.out, if_pos (by simp), h]
        have HRS : Hid (nums [x2, x3, x4, x5] ≠ none → R = some ⟨x1, numN x2 4, numN x3 4, numN x4 4, numN x5 4⟩) := fun h => by
          rw [HR0.out, if_pos (by simp)]
          cases hn : nums [x2, x3, x4, x5] with
          | none => exact absurd hn h
          | some N => rfl
        have HS := Lib.hid (RowW.start w)
        clear HR0
        go_enter Tryz.func68, Tryz.ntmps68
        go_wp2_with (first | (go_at_call 39; (with_reducible refine (HNM.out _).mono ?_); rintro e w3 ⟨rfl, hq⟩; obtain rfl := hq.symm) | fail)
        go_loopw [5, 6, 7, 25] (fun _ _ _ x wr => ∃ k : Nat, x = .int .i64 k ∧ k ≤ 4 ∧ RowW w wr (upTo k 0 (numN x2 4)) (upTo k 1 (numN x3 4)) (upTo k 2 (numN x4 4)) (upTo k 3 (numN x5 4)) ∧ Hid (∀ i (hi : i < [x2, x3, x4, x5].length), i < k → numB [x2, x3, x4, x5][i] 4 = true)) (fun _ _ _ x _ => 4 - (intOf x).toNat)
        case atStart => exact ⟨0, rfl, Nat.zero_le _, HS.out, fun i _ h => by omega⟩
        case round =>
          obtain ⟨k, rfl, hk, hw, HA⟩ := hrel
          have HW := Lib.hid hw
          by_cases hlt : k < 4
          · have hk1 : (k : Int) < 4 := by omega
            have hkl : k < [x2, x3, x4, x5].length := by simpa using hlt
            have y4 := vals_four (HV4.out.gr hw.gr) k hlt
            rw [show o + 2 + k = o + (k + 2) from by omega] at y4
            have HNk := Lib.hid (fun w' => refNumber_any [x2, x3, x4, x5][k] 4 (HS4.out _ (List.getElem_mem hkl)) w')
            have HBD := Lib.hid (fun (h : numB [x2, x3, x4, x5][k] 4 = false) => nums_bad hkl h)
            have HA2 : Hid (numB [x2, x3, x4, x5][k] 4 = true → ∀ i (hi : i < [x2, x3, x4, x5].length), i < k + 1 → numB [x2, x3, x4, x5][i] 4 = true) := fun h i hi hik => by
              by_cases e : i = k
              · subst e; exact h
              · exact HA.out i hi (by omega)
            have HPT : Hid (RowW w (wr.setCell ⟨w.heap.size + 1, k, none⟩ (.int .i64 (numN [x2, x3, x4, x5][k] 4))) (upTo (k + 1) 0 (numN x2 4)) (upTo (k + 1) 1 (numN x3 4)) (upTo (k + 1) 2 (numN x4 4)) (upTo (k + 1) 3 (numN x5 4))) := by
              show RowW w _ _ _ _ _
              have := hw.put k (numN [x2, x3, x4, x5][k] 4)
              have hk' : k = 0 ∨ k = 1 ∨ k = 2 ∨ k = 3 := by omega
              rcases hk' with rfl | rfl | rfl | rfl <;> simpa [upTo] using this
            obtain ⟨mk, ck, fk⟩ : ∃ m, wr.cell? ⟨w.heap.size + 1, k, none⟩ = some (.int .i64 m) ∧ wr.frozen? ⟨w.heap.size + 1, k, none⟩ = false := by
              have hk' : k = 0 ∨ k = 1 ∨ k = 2 ∨ k = 3 := by omega
              rcases hk' with rfl | rfl | rfl | rfl
              · exact ⟨_, hw.m0, hw.e0⟩
              · exact ⟨_, hw.m1, hw.e1⟩
              · exact ⟨_, hw.m2, hw.e2⟩
              · exact ⟨_, hw.m3, hw.e3⟩
            have j0 : (0 : Int) ≤ (k : Int) + 2 := by omega
            have j1 : (k : Int) + 2 < 6 := by omega
            have tn : ((k : Int) + 2).toNat = k + 2 := by omega
            obtain ⟨gw, zw, k0, k1, k2, k3, k4, f0, f1, f2, f3, f4, -, -, -, -, -, -, -, -⟩ := hw
            have z0 : w.heap.size < wr.heap.size := by omega
            clear HA y0 y1 t0
            generalize [x2, x3, x4, x5][k] = x at y4 HNk HBD HA2 HPT
            generalize numN x 4 = n at HNk HPT
            generalize numB x 4 = q at HNk HBD HA2
            cases q
            · have HR := Lib.hid (HRN.out (HBD.out rfl))
              clear HA2 HBD HPT ck fk
              go_wp2_with (first | (go_at_call 107; (with_reducible refine (HNk.out _).mono ?_); rintro e w3 ⟨rfl, hq⟩; obtain rfl := hq.symm) | fail)
              refine bodyPost_ret (v := .tuple #[.agg #[.string ⟨#[]⟩, .int .i64 0, .int .i64 0, .int .i64 0, .int .i64 0], .bool false]) (by simp [results, Tryz.results68, go_sem, z0, k0, k1, k2, k3, k4, f0, f1, f2, f3, f4]) rfl ⟨by rw [HR.out]; rfl, ?_⟩
              first | exact gw | exact ((((gw.setCell hh _).setCell hh _).setCell hh _).setCell hh _).setCell hh _
            · have HA3 := Lib.hid (HA2.out rfl)
              clear HA2 HBD
              go_wp2_with (first | (go_at_call 107; (with_reducible refine (HNk.out _).mono ?_); rintro e w3 ⟨rfl, hq⟩; obtain rfl := hq.symm) | fail)
              go_roundw
              case rel => exact ⟨k + 1, by go_num, hlt, HPT.out, HA3.out⟩
              case measure => simp [intOf]; omega
          · have hk1 : ¬ (k : Int) < 4 := by omega
            obtain rfl : k = 4 := by omega
            have hw4 : RowW w wr (numN x2 4) (numN x3 4) (numN x4 4) (numN x5 4) := by simpa [upTo] using hw
            have HR := Lib.hid (HRS.out (nums_none fun i hi => HA.out i hi (by simpa using hi)))
            clear hw HW HA
            obtain ⟨gw, zw, k0, k1, k2, k3, k4, f0, f1, f2, f3, f4, m0, m1, m2, m3, -, -, -, -⟩ := hw4
            have z0 : w.heap.size < wr.heap.size := by omega
            generalize numN x2 4 = n2 at *
            generalize numN x3 4 = n3 at *
            generalize numN x4 4 = n4 at *
            generalize numN x5 4 = n5 at *
            have y1 := (gw.cell _ _ z).trans ((g0.cell _ _ z).symm.trans Y1.out)
            clear y0 t0
            go_wp2_with fail
            go_region
            all_goals go_wp2_with fail
            all_goals
              refine bodyPost_ret (v := .tuple #[.agg #[.string x1, .int .i64 n2, .int .i64 n3, .int .i64 n4, .int .i64 n5], .bool true]) (by simp [results, Tryz.results68, go_sem, z0, k0, k1, k2, k3, k4, f0, f1, f2, f3, f4]) rfl ⟨by rw [HR.out]; rfl, ?_⟩
              first | exact ((((gw.drew.setCell hh _).setCell hh _).setCell hh _).setCell hh _).setCell hh _ | exact (((((gw.setCell hh _).setCell hh _).setCell hh _).setCell hh _).setCell hh _).drew
    · have HR : Hid (R = none) := by show _ = _; rw [HR0.out, if_neg (by simp [h0])]
      have t0 : (x0.toList == [115, 116, 111, 99, 107]) = false := by rw [← stockL]; exact str_ne h0
      clear HR0 h0
      go_enter Tryz.func68, Tryz.ntmps68
      go_wp2_with fail
      (refine bodyPost_ret (v := .tuple #[.agg #[.string ⟨#[]⟩, .int .i64 0, .int .i64 0, .int .i64 0, .int .i64 0], .bool false]) (by simp [results, Tryz.results68, go_sem]) rfl ⟨by rw [HR.out]; rfl, ?_⟩)
      (first | exact g0 | exact ((((g0.setCell hh _).setCell hh _).setCell hh _).setCell hh _).setCell hh _)
  · have HR : Hid (rowS L = none) := rowS_len h6
    have t6 : ((L.length : Int) != 6) = true := bneT (by omega)
    clear hc h6
    go_enter Tryz.func68, Tryz.ntmps68
    go_wp2_with fail
    (refine bodyPost_ret (v := .tuple #[.agg #[.string ⟨#[]⟩, .int .i64 0, .int .i64 0, .int .i64 0, .int .i64 0], .bool false]) (by simp [results, Tryz.results68, go_sem]) rfl ⟨by rw [HR.out]; rfl, ?_⟩)
    (first | exact g0 | exact ((((g0.setCell hh _).setCell hh _).setCell hh _).setCell hh _).setCell hh _)
end Go.Proofs.YtaanepadgoefhaaGreatDoor
