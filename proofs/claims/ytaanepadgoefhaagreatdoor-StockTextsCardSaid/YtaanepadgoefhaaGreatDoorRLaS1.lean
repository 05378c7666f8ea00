/- StockReads, StockBack. -/
import Derived.Test.YtaanepadgoefhaaGreatDoorRows
import Derived.Test.YtaanepadgoefhaaGreatDoorRStK
namespace Go.Proofs.YtaanepadgoefhaaGreatDoor
open Go.ChangeShapes Go.WideShapes Go.ChangeAt Go.RowKit Go.Maps
set_option linter.unusedVariables false
set_option linter.unusedSimpArgs false
set_option maxRecDepth 100000 in
set_option maxHeartbeats 1000000 in
theorem sameStk_any (v u : Value) (L : List Stk) (w : World) (hv : IsStks w v L) (hu : IsStks w u L) :
    Calls Tryz.prog 27 #[v, u] w fun e w' => e = .returned (.bool true) ∧ Gr w w' := by
  have HV := Lib.hid hv
  have HU := Lib.hid hu
  obtain ⟨a, c, rfl, hm, -⟩ := hv.form
  obtain ⟨b, d, rfl, -, -⟩ := hu.form
  unfold maxLen at hm
  have tl : ((L.length : Int) != (L.length : Int)) = false := bneF rfl
  clear hv hu
  go_enter Tryz.func27, Tryz.ntmps27
  go_wp2_with fail
  go_loopw [5, 13] (fun _ x wr => ∃ k : Nat, x = .int .i64 k ∧ k ≤ L.length ∧ Gr w wr) (fun _ x _ => L.length - (intOf x).toNat)
  case atStart => exact ⟨0, rfl, Nat.zero_le _, Gr.refl _⟩
  case round =>
    obtain ⟨k, rfl, hk, g⟩ := hrel
    by_cases hlt : k < L.length
    · have hk1 : (k : Int) < (L.length : Int) := by omega
      obtain ⟨b1, o1, hs1, z1, y0, y1, y2, y3, y4⟩ := (HV.out.gr g).at k hlt
      obtain ⟨b2, o2, hs2, z2, x0, x1, x2, x3, x4⟩ := (HU.out.gr g).at k hlt
      subst hs1 hs2
      generalize hL0 : L[k] = s at y0 y1 y2 y3 y4 x0 x1 x2 x3 x4
      clear hL0
      obtain ⟨nm, l, t, a', b'⟩ := s
      dsimp only at y0 y1 y2 y3 y4 x0 x1 x2 x3 x4
      have E1 := stk_nsame nm l t a' b'
      have GG := stk_guard .neq
      go_wp2_with fail
      have hc1 := fun (i : GrW wr) (o : Nat) => GrW.cell z1 i o
      have hc2 := fun (i : GrW wr) (o : Nat) => GrW.cell z2 i o
      (refine wp_region_gr (by kernel_rfl) (by kernel_rfl) ?_; (repeat (go_big_quiet_step (fail))); refine wpQuiet_nil ?_; intro wz hz; obtain ⟨iz, hz⟩ := hz; obtain ⟨wn, gn⟩ := iz; dsimp only at hz; obtain rfl := hz.symm)
      go_wp2_with fail
      go_roundw
      case rel => exact ⟨k + 1, by go_num, hlt, g.trans gn⟩
      case measure => simp [intOf]; omega
    · have hk1 : ¬ (k : Int) < (L.length : Int) := by omega
      go_wp2_with fail
      go_ret
      exact ⟨rfl, g⟩
set_option maxRecDepth 100000 in
set_option maxHeartbeats 1000000 in
theorem stockReads_walk (s : ByteArray) (w : World) (ht : Tabs w) (hs : s.size ≤ maxLen) :
    Calls Tryz.prog 6 #[.string s] w fun e w' => e = .returned (.bool true) ∧ Gr w w' := by
  have HKN := Lib.hid (known21_any w ht)
  unfold maxLen at hs
  by_cases hl : 40000 < s.size
  · have hl1 : 40000 < (s.size : Int) := by omega
    go_enter Tryz.func6, Tryz.ntmps6
    go_wp2_with (first | (go_at_call 21; (with_reducible refine (HKN.out).mono ?_); rintro e w1 ⟨rfl, g1⟩) | fail)
    go_ret
    exact ⟨rfl, g1⟩
  have hl1 : ¬ 40000 < (s.size : Int) := by omega
  have HPA0 := Lib.hid (fun (w' : World) (g : Gr w w') => stParse_any s (by omega) w' (shp_gr ht.sh g))
  have HPB0 := Lib.hid (fun (w' : World) => refParseS_any s (by omega) w')
  generalize parS s = r at HPA0 HPB0
  obtain ⟨L, n, e⟩ := r
  have HPA : Hid (∀ w', Gr w w' → Calls Tryz.prog 26 #[.string s] w' fun e' w'' => ∃ v, e' = .returned (.tuple #[v, .int .i64 n, .int .i64 e]) ∧ IsStks w'' v L ∧ Gr w' w'') := HPA0.out
  have HPB : Hid (∀ w', Calls Tryz.prog 28 #[.string s] w' fun e' w'' => ∃ v, e' = .returned (.tuple #[v, .int .i64 n, .int .i64 e]) ∧ IsStks w'' v L ∧ Gr w' w'') := HPB0.out
  clear HPA0 HPB0
  go_enter Tryz.func6, Tryz.ntmps6
  go_wp2_with (first | (go_at_call 21; (with_reducible refine (HKN.out).mono ?_); rintro e w1 ⟨rfl, g1⟩) | (go_at_call 26; (with_reducible refine (HPA.out _ g1).mono ?_); rintro e w2 ⟨v2, rfl, hv2, g2⟩; have G2 := g1.trans g2; have HV2 := Lib.hid hv2; obtain ⟨a2, c2, rfl, hm2, -⟩ := hv2.form; clear hv2) | (go_at_call 28; (with_reducible refine (HPB.out _).mono ?_); rintro e w3 ⟨v3, rfl, hv3, g3⟩; have HV3 := Lib.hid hv3; clear hv3) | (go_at_call 27; (with_reducible refine (sameStk_any _ _ L _ (HV2.out.gr g3) HV3.out).mono ?_); rintro e w4 ⟨rfl, g4⟩) | fail)
  go_ret
  exact ⟨rfl, (G2.trans g3).trans g4⟩
theorem parS_nil {s : ByteArray} {L : List Stk} {n e : Int} (h : parS s = (L, n, e)) (he : e ≠ 0) : L = [] := by
  unfold parS at h
  split at h
  · cases h; rfl
  cases hr : rdS (lnB s) 0 with
  | inl i => rw [hr] at h; dsimp only at h; cases h; rfl
  | inr M =>
    rw [hr] at h
    dsimp only at h
    split at h
    · cases h; exact absurd rfl he
    · cases h; rfl
end Go.Proofs.YtaanepadgoefhaaGreatDoor
