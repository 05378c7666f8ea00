/- stock.wrong, Check; the reference's plain, Check. -/
import Derived.Test.YtaanepadgoefhaaGreatDoorRows
import Derived.Test.YtaanepadgoefhaaGreatDoorRStW
namespace Go.Proofs.YtaanepadgoefhaaGreatDoor
open Go.ChangeShapes Go.WideShapes Go.ChangeAt Go.RowKit Go.Maps
set_option linter.unusedVariables false
set_option linter.unusedSimpArgs false
/-- among the first k: twice, or not yet -/
def TwE (L : List Stk) (k : Nat) (E : Int) : Prop := (E = 4 ∧ twiceB (L.map (·.nm)) = true) ∨ (E = 0 ∧ ∀ i j (hi : i < L.length) (hj : j < i), i < k → L[j].nm ≠ L[i].nm)
theorem TwE.yes {L : List Stk} {k m : Nat} (hk : k < L.length) (hm : m < k) (h : L[m].nm = L[k].nm) : TwE L (k + 1) 4 := .inl ⟨rfl, twiceS_yes hk hm h⟩
theorem TwE.no {L : List Stk} {k : Nat} {E : Int} (h : TwE L k E) (hk : k < L.length) (hn : ∀ m (hm : m < k), L[m].nm ≠ L[k].nm) : TwE L (k + 1) E := by
  rcases h with h | ⟨rfl, h⟩
  · exact .inl h
  · refine .inr ⟨rfl, fun i j hi hj hik => ?_⟩
    by_cases e : i = k
    · subst e; exact hn j hj
    · exact h i j hi hj (by omega)
theorem TwE.done {L : List Stk} {E : Int} (h : TwE L L.length E) (h4 : ¬ 4 < L.length) (hm : ∀ i (hi : i < L.length), mayS L[i] = true) : plainE L = E := by
  unfold plainE
  rw [if_neg h4, allS_good hm, if_neg (by decide)]
  rcases h with ⟨rfl, h⟩ | ⟨rfl, h⟩
  · rw [h, if_pos rfl]
  · rw [twiceS_no (fun i k hi hk => h i k hi hk hi), if_neg (by decide)]
theorem plain_arg {L : List Stk} (h4 : ¬ 4 < L.length) {k : Nat} (hk : k < L.length) (h : mayS L[k] = false) : plainE L = 1 := by
  unfold plainE
  rw [if_neg h4, if_pos (allS_bad hk h)]
theorem sizeStock : ∀ w', (sizeOf (Tryz.prog.elem 51)).run Tryz.prog w' = .ok 5 w' := fun w' => by kernel_rfl
set_option maxRecDepth 100000 in
set_option maxHeartbeats 2000000 in
theorem wrong_any (v : Value) (L : List Stk) (w : World) (hL : IsStks w v L) (hok : ∀ s ∈ L, s.nm.size ≤ maxLen) :
    Calls Tryz.prog 60 #[v] w fun e w' => e = .returned (.int .i64 (plainE L)) ∧ Gr w w' := by
  have HL := Lib.hid hL
  obtain ⟨a, c, rfl, hm, hc⟩ := hL.form
  unfold maxLen at hm
  have HOK := Lib.hid hok
  clear hL hok
  by_cases h4 : 4 < L.length
  · have h4' : 4 < (L.length : Int) := by omega
    have HR : Hid (plainE L = 3) := by show _ = _; unfold plainE; rw [if_pos h4]
    go_enter Tryz.func60, Tryz.ntmps60
    go_wp2_with fail
    go_step3
    go_wp2_with fail
    try rw [Exit.noGoto_ret]
    go_ret
    exact ⟨ret_int HR.out.symm, Gr.refl _⟩
  have h4' : ¬ 4 < (L.length : Int) := by omega
  have HS := Lib.hid (fun (k : Nat) (hk : k ≤ c) => head_slice 51 30 Tryz.underlying51 (by kernel_rfl) sizeStock a L.length c k hk)
  go_enter Tryz.func60, Tryz.ntmps60
  go_wp2_with fail
  go_step3
  go_wp2_with fail
  go_step3
  go_wp2_with fail
  go_loopw [3, 4, 13] (fun x _ y wr => ∃ (k : Nat) (E : Int), x = .int .i64 E ∧ y = .int .i64 k ∧ k ≤ L.length ∧ Gr w wr ∧ Hid (∀ i (hi : i < L.length), i < k → mayS L[i] = true) ∧ Hid (TwE L k E)) (fun _ _ y _ => L.length - (intOf y).toNat)
  case atStart => exact ⟨0, 0, rfl, rfl, Nat.zero_le _, Gr.refl _, fun i _ h => by omega, .inr ⟨rfl, fun i _ _ _ h => by omega⟩⟩
  case round =>
    obtain ⟨k, E, rfl, rfl, hk, g, HA, HT⟩ := hrel
    by_cases hlt : k < L.length
    · have hk1 : (k : Int) < (L.length : Int) := by omega
      obtain ⟨bb, o, hs, z, y0, y1, y2, y3, y4⟩ := (HL.out.gr g).at k hlt
      subst hs
      have hsz := HOK.out _ (List.getElem_mem hlt)
      have HM := Lib.hid (fun w' => stMay_any L[k].nm L[k].l L[k].t L[k].a L[k].b hsz w')
      have HN1 : Hid (mayS L[k] = false → plainE L = 1) := fun h => plain_arg h4 hlt h
      have HA2 : Hid (mayS L[k] = true → ∀ i (hi : i < L.length), i < k + 1 → mayS L[i] = true) := fun h i hi hik => by
        by_cases e : i = k
        · subst e; exact h
        · exact HA.out i hi (by omega)
      have HY : Hid (∀ m (hm : m < k), L[m].nm = L[k].nm → TwE L (k + 1) 4) := fun m hm h => TwE.yes hlt hm h
      have HN : Hid ((∀ m (hm : m < k), L[m].nm ≠ L[k].nm) → TwE L (k + 1) E) := fun h => TwE.no HT.out hlt h
      have hsl := HS.out k (by omega)
      have e : mayS L[k] = mayB L[k].nm L[k].l L[k].t L[k].a L[k].b := rfl
      rw [← e] at HM
      clear e HA HT
      generalize hmq : mayS L[k] = q at HM HN1 HA2
      clear hmq
      generalize hL0 : L[k] = s at y0 y1 y2 y3 y4 HM HY HN hsz
      clear hL0
      obtain ⟨nm, l, t, a', b⟩ := s
      dsimp only at y0 y1 y2 y3 y4 HM HY HN
      cases q
      · have HR := Lib.hid (HN1.out rfl)
        clear HN1 HA2
        go_wp2_with (first | (go_at_call 31; (with_reducible refine (HM.out _).mono ?_); rintro e w2 ⟨rfl, g2⟩) | fail)
        try rw [Exit.noGoto_ret]
        go_ret
        exact ⟨ret_int HR.out.symm, (g.alloc _).trans g2⟩
      · have HA3 := Lib.hid (HA2.out rfl)
        clear HN1 HA2
        go_wp2_with (first | (go_at_call 31; (with_reducible refine (HM.out _).mono ?_); rintro e w2 ⟨rfl, g2⟩) | fail)
        have gr2 := ((Gr.refl wr).alloc (.cells #[.string nm, .int .i64 l, .int .i64 t, .int .i64 a', .int .i64 b] 30)).trans g2
        have hz : wr.heap.size < (wr.alloc (.cells #[.string nm, .int .i64 l, .int .i64 t, .int .i64 a', .int .i64 b] 30)).heap.size := by simp
        have zn := Nat.lt_of_lt_of_le hz g2.size
        have n0 : w2.cell? ⟨wr.heap.size, 0, none⟩ = some (.string nm) := (g2.cell _ _ hz).trans (by rw [World.cell?_alloc_mark]; rfl)
        have N0 := Lib.hid n0
        clear n0 y0 y1 y2 y3 y4 hsl
        go_loopw [3, 25] (fun x y w3 => ∃ m : Nat, x = .int .i64 E ∧ y = .int .i64 m ∧ m ≤ k ∧ Gr w2 w3 ∧ Hid (∀ j (hj : j < m) (hjl : j < L.length), L[j].nm ≠ nm)) (fun _ y _ => k - (intOf y).toNat)
        case atStart => exact ⟨0, rfl, rfl, Nat.zero_le _, Gr.refl _, fun j hj => by omega⟩
        case round =>
          obtain ⟨m, rfl, rfl, hmk, g3, HB⟩ := hrel
          rename_i w3
          have gt := ((g.alloc _).trans g2).trans g3
          have n0 := (g3.cell _ _ zn).trans N0.out
          have zn3 := Nat.lt_of_lt_of_le zn g3.size
          by_cases hml : m < k
          · have hm1 : (m : Int) < (k : Int) := by omega
            have hm2 : m < L.length := by omega
            have hm3 : (m : Int) < (L.length : Int) := by omega
            obtain ⟨b2, o2, hs2, z2, x0, x1, x2, x3, x4⟩ := (HL.out.gr gt).at m hm2
            simp only [Option.some.injEq, Addr.mk.injEq, and_true] at hs2
            obtain ⟨rfl, rfl⟩ := hs2
            have HYm := Lib.hid (HY.out m hml)
            have HBm : Hid (L[m].nm ≠ nm → ∀ j (hj : j < m + 1) (hjl : j < L.length), L[j].nm ≠ nm) := fun h j hj hjl => by
              by_cases e : j = m
              · subst e; exact h
              · exact HB.out j (by omega) hjl
            clear HB
            generalize hL1 : L[m] = s2 at x0 x1 x2 x3 x4 HYm HBm
            clear hL1
            obtain ⟨nm2, l2, t2, a2, b2'⟩ := s2
            dsimp only at x0 x1 x2 x3 x4 HYm HBm
            by_cases hn : nm2 = nm
            · have HT4 := Lib.hid (HYm.out hn)
              subst hn
              have tn : (nm2.toList == nm2.toList) = true := by simp
              go_wp2_with fail
              try go_step3
              try go_step3
              go_roundw
              case rel => exact ⟨k + 1, 4, rfl, by go_num, hlt, gt.alloc _, HA3.out, HT4.out⟩
              case measure => simp [intOf]; omega
            · have tn := str_ne hn
              have HB2 := Lib.hid (HBm.out hn)
              clear hn
              go_wp2_with fail
              go_roundw
              case rel => exact ⟨m + 1, rfl, by go_num, hml, g3.alloc _, HB2.out⟩
              case measure => simp [intOf]; omega
          · have hm1 : ¬ (m : Int) < (k : Int) := by omega
            have HT2 := Lib.hid (HN.out fun j hj => HB.out j (by omega) (by omega))
            go_wp2_with fail
            go_roundw
            case rel => exact ⟨k + 1, E, rfl, by go_num, hlt, gt, HA3.out, HT2.out⟩
            case measure => simp [intOf]; omega
    · have hk1 : ¬ (k : Int) < (L.length : Int) := by omega
      obtain rfl : k = L.length := by omega
      have HR := Lib.hid (TwE.done HT.out h4 (fun i hi => HA.out i hi hi))
      go_wp2_with fail
      try rw [Exit.noGoto_ret]
      go_ret
      exact ⟨ret_int HR.out.symm, g⟩
end Go.Proofs.YtaanepadgoefhaaGreatDoor
