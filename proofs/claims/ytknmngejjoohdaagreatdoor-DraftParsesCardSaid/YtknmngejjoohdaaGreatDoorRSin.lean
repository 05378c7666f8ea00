/- SameInts. -/
import Derived.Test.YtknmngejjoohdaaGreatDoorRows
import Derived.Test.YtknmngejjoohdaaGreatDoorB3
namespace Go.Proofs.YtknmngejjoohdaaGreatDoor
open Go.ChangeShapes Go.WideShapes Go.ChangeAt Go.RowKit
set_option linter.unusedVariables false
set_option linter.unusedSimpArgs false
set_option maxHeartbeats 400000 in
theorem sameInts_any (A B : List Int) (a b : Option Addr) (ca cb : Nat) (w : World) (ha : IsVals w (.slice a A.length ca) (A.map (Value.int .i64))) (hb : IsVals w (.slice b B.length cb) (B.map (Value.int .i64))) :
    Calls Tryz.prog 44 #[.slice a A.length ca, .slice b B.length cb] w fun e w' => e = .returned (.bool (decide (A = B))) ∧ Gr w w' := by
  have la : A.length ≤ 9223372036854775807 := by obtain ⟨_, _, _, h, _⟩ := ha; unfold maxLen at h; simpa using h
  have lb : B.length ≤ 9223372036854775807 := by obtain ⟨_, _, _, h, _⟩ := hb; unfold maxLen at h; simpa using h
  by_cases hl : A.length = B.length
  · have hl2 : ((A.length : Int) != (B.length : Int)) = false := by simp [hl]
    have HA := Lib.hid ha
    have HB := Lib.hid hb
    have HL := Lib.hid hl
    clear ha hb hl
    go_enter Tryz.func44, Tryz.ntmps44
    go_wp2
    go_loopw [5] (fun i wr => ∃ k : Nat, i = .int .i64 k ∧ k ≤ A.length ∧ Hid (A.take k = B.take k) ∧ Gr w wr) (fun i _ => A.length - (intOf i).toNat)
    case atStart => exact ⟨0, rfl, Nat.zero_le _, rfl, Gr.refl _⟩
    case round =>
      obtain ⟨k, rfl, hk, HT, g⟩ := hrel
      by_cases hlt : k < A.length
      · obtain ⟨ba, oa, rfl, zb, hca⟩ := ints_at (HA.out.gr g) k hlt
        obtain ⟨bb, ob, rfl, zb', hcb⟩ := ints_at (HB.out.gr g) k (by rw [← HL.out]; exact hlt)
        have hltB : k < B.length := by rw [← HL.out]; exact hlt
        have i1 : (k : Int) < (A.length : Int) := by omega
        have i2 : (k : Int) < (B.length : Int) := by omega
        by_cases he : A[k] = B[k]
        · have HN : Hid (A.take (k + 1) = B.take (k + 1)) := by
            unfold Hid
            rw [List.take_succ_eq_append_getElem hlt, List.take_succ_eq_append_getElem hltB, HT.out, he]
          rw [he] at hca
          clear he HT
          go_wp2_with fail
          go_quiet (fail)
          go_wp2
          go_roundw
          case rel => exact ⟨k + 1, by go_num, by omega, HN, g.drewN _⟩
          case measure => simp [intOf]; omega
        · have hs : (A[k] == B[k]) = false := by simpa using he
          have HN : Hid (decide (A = B) = false) := by
            unfold Hid
            simp only [decide_eq_false_iff_not]
            intro e; subst e; exact he rfl
          obtain ⟨x, hx⟩ : ∃ x, x = A[k] := ⟨_, rfl⟩
          obtain ⟨y, hy⟩ : ∃ y, y = B[k] := ⟨_, rfl⟩
          rw [← hx] at hca hs
          rw [← hy] at hcb hs
          clear he HT hx hy
          go_wp2_with fail
          go_quiet (fail)
          go_wp2
          go_ret
          exact ⟨ret_bool HN.out.symm, g.drewN _⟩
      · have HN : Hid (decide (A = B) = true) := by
          unfold Hid
          have e := HT.out
          have hB : B.length ≤ k := by have := HL.out; omega
          rw [List.take_of_length_le (by omega), List.take_of_length_le hB] at e
          simp [e]
        clear HT
        go_wp2
        go_ret
        exact ⟨ret_bool HN.out.symm, g⟩
  · have hl2 : ((A.length : Int) != (B.length : Int)) = true := by rw [bne_iff_ne]; omega
    have HN : Hid (decide (A = B) = false) := by
      unfold Hid
      simp only [decide_eq_false_iff_not]
      intro e; subst e; exact hl rfl
    clear ha hb hl
    go_enter Tryz.func44, Tryz.ntmps44
    go_wp2
    go_ret
    exact ⟨ret_bool HN.out.symm, Gr.refl _⟩
end Go.Proofs.YtknmngejjoohdaaGreatDoor
