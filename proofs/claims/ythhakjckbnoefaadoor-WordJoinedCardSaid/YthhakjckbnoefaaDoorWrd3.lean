/- SameTexts; numbers. -/
import Derived.Test.YthhakjckbnoefaaDoorWrd1
namespace Go.Proofs.YthhakjckbnoefaaDoor
open Go.ChangeShapes Go.WideShapes Go.ChangeAt Go.RowKit
set_option linter.unusedVariables false
set_option linter.unusedSimpArgs false

theorem vals_at {w : World} {A : List ByteArray} {a : Option Addr} {c : Nat} (h : IsVals w (.slice a A.length c) (A.map Value.string)) (k : Nat) (hk : k < A.length) :
    ∃ b o, a = some ⟨b, o, none⟩ ∧ b < w.heap.size ∧ w.cell? ⟨b, o + k, none⟩ = some (.string A[k]) := by
  obtain ⟨a', c', e, _, hx⟩ := h
  simp only [Value.slice.injEq] at e
  obtain ⟨rfl, -, rfl⟩ := e
  rcases hx with hx | ⟨b, o, rfl, hb, hc⟩
  · exfalso
    have := congrArg List.length hx
    simp at this
    rw [this] at hk
    simp at hk
  · exact ⟨b, o, rfl, hb, hc k _ (by rw [List.getElem?_map, List.getElem?_eq_getElem hk]; rfl)⟩
theorem str_ne {a b : ByteArray} (h : ¬ a = b) : (a.toList == b.toList) = false := by
  rw [beq_eq_false_iff_ne]
  intro e
  rw [ByteArray.toList_eq, ByteArray.toList_eq] at e
  exact h (ByteArray.ext (Array.toList_inj.1 e))

set_option maxHeartbeats 400000 in
theorem sameTexts_any (A B : List ByteArray) (a b : Option Addr) (ca cb : Nat) (w : World) (ha : IsVals w (.slice a A.length ca) (A.map Value.string)) (hb : IsVals w (.slice b B.length cb) (B.map Value.string)) :
    Calls Tryd.prog 12 #[.slice a A.length ca, .slice b B.length cb] w fun e w' => e = .returned (.bool (decide (A = B))) ∧ Gr w w' := by
  have la : A.length ≤ 9223372036854775807 := by obtain ⟨_, _, _, h, _⟩ := ha; unfold maxLen at h; simpa using h
  have lb : B.length ≤ 9223372036854775807 := by obtain ⟨_, _, _, h, _⟩ := hb; unfold maxLen at h; simpa using h
  by_cases hl : A.length = B.length
  · have hl2 : ((A.length : Int) != (B.length : Int)) = false := by simp [hl]
    have HA := Lib.hid ha
    have HB := Lib.hid hb
    have HL := Lib.hid hl
    clear ha hb hl
    go_enter Tryd.func12, Tryd.ntmps12
    go_wp2
    go_loopw [5] (fun i wr => ∃ k : Nat, i = .int .i64 k ∧ k ≤ A.length ∧ Hid (A.take k = B.take k) ∧ Gr w wr) (fun i _ => A.length - (intOf i).toNat)
    case atStart => exact ⟨0, rfl, Nat.zero_le _, rfl, Gr.refl _⟩
    case round =>
      obtain ⟨k, rfl, hk, HT, g⟩ := hrel
      by_cases hlt : k < A.length
      · obtain ⟨ba, oa, rfl, zb, hca⟩ := vals_at (HA.out.gr g) k hlt
        obtain ⟨bb, ob, rfl, zb', hcb⟩ := vals_at (HB.out.gr g) k (by rw [← HL.out]; exact hlt)
        have hltB : k < B.length := by rw [← HL.out]; exact hlt
        have i1 : (k : Int) < (A.length : Int) := by omega
        have i2 : (k : Int) < (B.length : Int) := by omega
        by_cases he : A[k] = B[k]
        · have HN : Hid (A.take (k + 1) = B.take (k + 1)) := by
            unfold Hid
            rw [List.take_succ_eq_append_getElem hlt, List.take_succ_eq_append_getElem hltB, HT.out, he]
          rw [he] at hca
          clear he HT
          go_wp2_with fail
          go_quiet (fail)
          go_wp2
          go_roundw
          case rel => exact ⟨k + 1, by go_num, by omega, HN, g.drewN _⟩
          case measure => simp [intOf]; omega
        · have hs := str_ne he
          have HN : Hid (decide (A = B) = false) := by
            unfold Hid
            simp only [decide_eq_false_iff_not]
            intro e; subst e; exact he rfl
          obtain ⟨x, hx⟩ : ∃ x, x = A[k] := ⟨_, rfl⟩
          obtain ⟨y, hy⟩ : ∃ y, y = B[k] := ⟨_, rfl⟩
          rw [← hx] at hca hs
          rw [← hy] at hcb hs
          clear he HT hx hy
          go_wp2_with fail
          go_quiet (fail)
          go_wp2
          go_ret
          exact ⟨ret_bool HN.out.symm, g.drewN _⟩
      · have HN : Hid (decide (A = B) = true) := by
          unfold Hid
          have e := HT.out
          have hB : B.length ≤ k := by have := HL.out; omega
          rw [List.take_of_length_le (by omega), List.take_of_length_le hB] at e
          simp [e]
        clear HT
        go_wp2
        go_ret
        exact ⟨ret_bool HN.out.symm, g⟩
  · have hl2 : ((A.length : Int) != (B.length : Int)) = true := by rw [bne_iff_ne]; omega
    have HN : Hid (decide (A = B) = false) := by
      unfold Hid
      simp only [decide_eq_false_iff_not]
      intro e; subst e; exact hl rfl
    clear ha hb hl
    go_enter Tryd.func12, Tryd.ntmps12
    go_wp2
    go_ret
    exact ⟨ret_bool HN.out.symm, Gr.refl _⟩
end Go.Proofs.YthhakjckbnoefaaDoor
