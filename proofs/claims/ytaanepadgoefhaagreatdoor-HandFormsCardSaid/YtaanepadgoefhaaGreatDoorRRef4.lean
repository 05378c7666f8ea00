/- the reference's Through. -/
import Derived.Test.YtaanepadgoefhaaGreatDoorRows
import Derived.Test.YtaanepadgoefhaaGreatDoorRRef3
import Derived.Test.YtaanepadgoefhaaGreatDoorB10
import Derived.Deep.Cut
namespace Go.Proofs.YtaanepadgoefhaaGreatDoor
open Go.ChangeShapes Go.WideShapes Go.ChangeAt Go.RowKit Go.Maps
set_option linter.unusedVariables false
set_option linter.unusedSimpArgs false
set_option maxRecDepth 100000 in
set_option maxHeartbeats 1000000 in
theorem refThrough_any (v : Value) (P : Pln) (m i q : Int) (w : World) (hP : IsPln w v P) :
    Calls Tryz.prog 95 #[v, .int .i64 m, .int .i64 i, .int .i64 q] w fun e w' => e = .returned (thrR (throughL (outsK (kindP P m) i) q)) ∧ Gr w w' := by
  have HPI := Lib.hid hP
  obtain ⟨a1, c1, a2, c2, a3, c3, a4, c4, rfl, -⟩ := hP
  have HO : Hid (∀ w', Gr w w' → Calls Tryz.prog 88 #[(.agg #[.slice a1 P.es.length c1, .slice a2 P.js.length c2, .slice a3 P.ss.length c3, .slice a4 P.ls.length c4, .int .i64 P.top, .int .i64 P.brake, .int .i64 P.margin, .int .i64 P.throw, .bool P.hard]), .int .i64 m, .int .i64 i] w' (RetO w' (outsK (kindP P m) i))) := fun w' g => refOuts_any _ P m i w' (HPI.out.gr g)
  have hw0 := bxW_gr w P (.slice a1 P.es.length c1) (.slice a2 P.js.length c2) (.slice a3 P.ss.length c3) (.slice a4 P.ls.length c4)
  unfold plnV
  generalize outsK (kindP P m) i = L at HO ⊢
  have HT : Hid (throughL (L.drop 0) q = throughL L q) := rfl
  go_enter Tryz.func95, Tryz.ntmps95
  go_wp2_with (first | (go_at_call 88; (with_reducible refine (HO.out _ ((Gr.refl w).alloc _)).mono ?_); rintro e w1 ⟨v, rfl, hv, g1⟩; have HV := Lib.hid hv; obtain ⟨a, c, rfl, hm, hx⟩ := hv; unfold maxLen at hm) | fail)
  go_loopw [11] (fun x wr => ∃ k : Nat, x = .int .i64 k ∧ k ≤ L.length ∧ Gr w1 wr ∧ Hid (throughL (L.drop k) q = throughL L q)) (fun x _ => L.length - (intOf x).toNat)
  case atStart => exact ⟨0, rfl, Nat.zero_le _, Gr.refl _, HT⟩
  case round =>
    clear HT hx
    obtain ⟨k, rfl, hk, g, HT⟩ := hrel
    have gw := (hw0.trans g1).trans g
    by_cases hlt : k < L.length
    · have hk1 : (k : Int) < (L.length : Int) := by omega
      obtain ⟨bb, o, hs, zb, hc⟩ := IsRow.at (IsRow.gr HV.out g) k hlt
      subst hs
      have y0 := hc 0 (by omega)
      have y1 := hc 1 (by omega)
      have HD : Hid (L.drop k = L[k] :: L.drop (k + 1)) := List.drop_eq_getElem_cons hlt
      have e0 : wayC L k 0 = .int .i64 L[k].1 := by unfold wayC; rw [if_pos rfl, getD_at _ _ hlt]
      have e1 : wayC L k 1 = .int .i64 L[k].2 := by unfold wayC; rw [if_neg (by omega), getD_at _ _ hlt]
      rw [e0] at y0
      rw [e1] at y1
      clear hc e0 e1
      generalize L[k] = x at y0 y1 HD
      obtain ⟨xo, xp⟩ := x
      dsimp only at y0 y1
      rw [Nat.add_zero] at y0
      by_cases h1 : xp = 0
      · have HR : Hid (throughL L q = some xo) := by show throughL L q = some xo; rw [← HT.out, HD.out]; unfold throughL; rw [if_pos (.inl h1)]
        subst h1
        go_wp2_with fail
        go_ret2
        exact ⟨by rw [HR.out]; rfl, gw⟩
      · by_cases h2 : xp = q
        · have HR : Hid (throughL L q = some xo) := by show throughL L q = some xo; rw [← HT.out, HD.out]; unfold throughL; rw [if_pos (.inr h2)]
          subst h2
          go_wp2_with fail
          go_ret2
          exact ⟨by rw [HR.out]; rfl, gw⟩
        · have HR : Hid (throughL (L.drop (k + 1)) q = throughL L q) := by
            show _ = _
            rw [← HT.out, HD.out]
            conv => rhs; unfold throughL
            rw [if_neg (by rintro (h | h); exact h1 h; exact h2 h)]
          have t1 : (xp == 0) = false := by simpa using h1
          have t2 : (xp == q) = false := by simpa using h2
          go_wp2_with fail
          go_roundw
          case rel => exact ⟨k + 1, by go_num, hlt, g, HR⟩
          case measure => simp [intOf]; omega
    · have hk1 : ¬ (k : Int) < (L.length : Int) := by omega
      have HR : Hid (throughL L q = none) := by show _ = _; rw [← HT.out, List.drop_eq_nil_of_le (by omega)]; rfl
      go_wp2_with fail
      go_ret2
      exact ⟨by rw [HR.out]; rfl, gw⟩
end Go.Proofs.YtaanepadgoefhaaGreatDoor
