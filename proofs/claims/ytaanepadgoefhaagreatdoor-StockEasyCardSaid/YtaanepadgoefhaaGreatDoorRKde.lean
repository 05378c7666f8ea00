/- the reference's Kind; the length of an element. -/
import Derived.Test.YtaanepadgoefhaaGreatDoorRows
import Derived.Test.YtaanepadgoefhaaGreatDoorRRef2
import Derived.Test.YtaanepadgoefhaaGreatDoorB1
namespace Go.Proofs.YtaanepadgoefhaaGreatDoor
open Go.ChangeShapes Go.WideShapes Go.ChangeAt Go.RowKit Go.Maps
set_option linter.unusedVariables false
set_option linter.unusedSimpArgs false
theorem eleAt_len2 (P : Pln) (i : Int) : (eleAt P i).l = lenP P i := by
  unfold eleAt lenP
  by_cases h0 : 0 ≤ i
  · by_cases h1 : i < P.es.length
    · rw [if_pos h0, if_pos ⟨h0, h1⟩]
    · rw [if_pos h0, if_neg (by omega), List.getD_eq_getElem?_getD, List.getElem?_eq_none (by omega)]; rfl
  · rw [if_neg h0, if_neg (by omega)]; rfl
theorem kindE2_any (v : Value) (P : Pln) (i : Int) (w : World) (hP : IsPln w v P) :
    Calls Tryz.prog 41 #[v, .int .i64 i] w fun e w' => e = .returned (.int .i64 (kindP P i)) ∧ Gr w w' := by
  have HPI := Lib.hid hP
  obtain ⟨a1, c1, a2, c2, a3, c3, a4, c4, rfl, -⟩ := hP
  have hw0 : Gr w (w.alloc (.cells #[.slice a1 P.es.length c1, .slice a2 P.js.length c2, .slice a3 P.ss.length c3, .slice a4 P.ls.length c4, .int .i64 P.top, .int .i64 P.brake, .int .i64 P.margin, .int .i64 P.throw, .bool P.hard] 27)) := (Gr.refl _).alloc _
  have HK := Lib.hid (kind_any _ P i _ (HPI.out.gr hw0))
  unfold plnV at HK ⊢
  clear HPI
  go_enter Tryz.func41, Tryz.ntmps41
  go_wp2_with (first | (go_at_call 86; (with_reducible refine HK.out.mono ?_); rintro e w1 ⟨rfl, g1⟩) | fail)
  go_ret
  exact ⟨rfl, hw0.trans g1⟩
end Go.Proofs.YtaanepadgoefhaaGreatDoor
