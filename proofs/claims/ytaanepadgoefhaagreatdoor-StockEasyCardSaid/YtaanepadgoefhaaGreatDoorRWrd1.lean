/- Lines and words: the document's Lines. -/
import Derived.Test.YtaanepadgoefhaaGreatDoorB3
namespace Go.Proofs.YtaanepadgoefhaaGreatDoor
open Go.ChangeShapes Go.WideShapes Go.ChangeAt Go.RowKit
set_option linter.unusedVariables false
set_option linter.unusedSimpArgs false

theorem lnsA_len : ∀ (l acc : List UInt8), (lnsA acc l).length ≤ acc.length + l.length
  | [], acc => by
    unfold lnsA
    split
    · simp
    · rename_i h
      have : 0 < acc.length := List.length_pos_iff.2 h
      simp; omega
  | c :: t, acc => by
    unfold lnsA
    split
    · have := lnsA_len t []
      simp at this ⊢; omega
    · have := lnsA_len t (acc ++ [c])
      simp at this ⊢; omega
theorem lnB_len (s : ByteArray) : (lnB s).length ≤ s.size := by
  have := lnsA_len s.data.toList []
  unfold lnB
  simp at this ⊢; omega

set_option maxHeartbeats 400000 in
theorem refLines_any (s : ByteArray) (hs : s.size ≤ 1048576) (w : World) :
    Calls Tryz.prog 66 #[.string s] w (RetS w (lnB s)) := by
  obtain ⟨i0, hi, hz0, hz1, hz2⟩ := info_parts Tryz.infoS
  go_enter Tryz.func66, Tryz.ntmps66
  go_wp2
  go_loopw [3, 4, 5] (fun v f i wr => ∃ (V : Value) (F I : Nat) (L : List ByteArray), V = v ∧ f = .int .i64 F ∧ i = .int .i64 I ∧ F ≤ I ∧ I ≤ s.size ∧ L.length ≤ I ∧ OwnS w.heap.size wr V L ∧ Hid (L ++ lnR s F I = lnB s) ∧ Gr w wr) (fun _ _ i _ => s.size - (intOf i).toNat)
  case atStart => exact ⟨_, 0, 0, [], rfl, rfl, rfl, by omega, by omega, by simp, OwnS.nil _ _, by unfold Hid; rw [lnR_start]; rfl, Gr.refl _⟩
  case round =>
    obtain ⟨v, F, I, L, rfl, rfl, rfl, r1, r2, r3, ho, HL, g⟩ := hrel
    have hown : wr.ownsRow w.heap.size 9 1 v L.length (L.map Value.string) := ho
    have HO := Lib.hid hown
    have g' := g
    by_cases hlt : I < s.size
    · have hI : (I : Int) < (s.size : Int) := by omega
      have hF : (F : Int) ≤ (I : Int) := by omega
      by_cases hnl : s[I] = 10
      · have HN : Hid ((L ++ [s.extract F I]) ++ lnR s (I + 1) (I + 1) = lnB s) := by
          unfold Hid; rw [← HL.out, lnR_nl s F I r1 hlt hnl]; simp
        have ht : ((s[I].toNat : Int) == 10) = true := by rw [hnl]; rfl
        clear hnl HL ho hown
        go_wp2_with (first | (at_builtin; refine wpList_append_own _ rfl _ _ 93 rfl w.heap.size 9 i0 (.string ByteArray.empty) 1 16 Tryz.underlying93 hi hz0 hz1 hz2 rfl (by decide) _ _ _ rfl (HO.out.alloc _) ⟨wr.heap.size, 0, none⟩ 1 1 [.string (s.extract F I)] rfl rfl ?c1 ?c2 ?c3 ?c4 ?c5 ?_))
        case c1 => exact cell_one_new _ _ _
        case c2 => simp [Value.oneCell']
        case c3 => unfold maxLen; omega
        case c4 => omega
        case c5 => have := g.size; simp; omega
        intro v' w1 hown' hgrow _
        have hg1 : Gr w w1 := Gr.grown (g'.alloc _) hgrow HO.out
        have ho1 : OwnS w.heap.size w1 v' (L ++ [s.extract F I]) := OwnS.snoc hown'
        clear hown' hgrow HO
        go_wp2
        go_roundw
        case rel => exact ⟨_, I + 1, I + 1, L ++ [s.extract F I], rfl, by go_num, by go_num, by omega, by omega, by simp; omega, ho1, HN, hg1⟩
        case measure => simp [intOf]; omega
      · have HN : Hid (L ++ lnR s F (I + 1) = lnB s) := by
          unfold Hid; rw [← HL.out, lnR_step s F I r1 hlt hnl]
        have ht : ((s[I].toNat : Int) == 10) = false := by
          simp
          intro e
          apply hnl
          apply UInt8.toNat_inj.1
          have : (10 : UInt8).toNat = 10 := rfl
          omega
        clear hnl HL
        go_wp2
        go_roundw
        case rel => exact ⟨_, F, I + 1, L, rfl, rfl, by go_num, by omega, by omega, by omega, ho, HN, g⟩
        case measure => simp [intOf]; omega
    · obtain rfl : I = s.size := by omega
      have hE := lnR_end s F r1
      by_cases hf : F < s.size
      · have hF : (F : Int) < (s.size : Int) := by omega
        have HN : Hid (L ++ [s.extract F s.size] = lnB s) := by
          unfold Hid; rw [← HL.out, hE, if_pos hf]
        clear HL hE ho hown
        go_wp2_with (first | (at_builtin; refine wpList_append_own _ rfl _ _ 93 rfl w.heap.size 9 i0 (.string ByteArray.empty) 1 16 Tryz.underlying93 hi hz0 hz1 hz2 rfl (by decide) _ _ _ rfl (HO.out.alloc _) ⟨wr.heap.size, 0, none⟩ 1 1 [.string (s.extract F s.size)] rfl rfl ?c1 ?c2 ?c3 ?c4 ?c5 ?_))
        case c1 => exact cell_one_new _ _ _
        case c2 => simp [Value.oneCell']
        case c3 => unfold maxLen; omega
        case c4 => omega
        case c5 => have := g.size; simp; omega
        intro v' w1 hown' hgrow _
        have hg1 : Gr w w1 := Gr.grown (g'.alloc _) hgrow HO.out
        have ho1 : OwnS w.heap.size w1 v' (L ++ [s.extract F s.size]) := OwnS.snoc hown'
        have hv := ho1.vals (by unfold maxLen; simp; omega)
        clear hown' hgrow HO
        go_wp2
        go_ret
        refine ⟨v', rfl, ?_, hg1⟩
        rw [← HN.out]; exact hv
      · have HN : Hid (L = lnB s) := by
          unfold Hid; rw [← HL.out, hE, if_neg hf]; simp
        have hv := ho.vals (by unfold maxLen; omega)
        clear HL hE
        go_wp2
        go_ret
        refine ⟨v, rfl, ?_, g⟩
        rw [← HN.out]; exact hv
end Go.Proofs.YtaanepadgoefhaaGreatDoor
