/- word.Lines. -/
import Derived.Test.YtaanepadgoefhaaGreatDoorRWrd1
namespace Go.Proofs.YtaanepadgoefhaaGreatDoor
open Go.ChangeShapes Go.WideShapes Go.ChangeAt Go.RowKit
set_option linter.unusedVariables false
set_option linter.unusedSimpArgs false

theorem idx_none {s : ByteArray} (h : Lib.indexByte s.data.toList 10 = -1) : ∀ c ∈ s.data.toList, c ≠ 10 := by
  intro c hc e
  obtain ⟨k, hk⟩ := List.mem_iff_getElem?.1 hc
  exact Lib.indexByte_none h k (by rw [hk, e])
theorem idx_some {s : ByteArray} {i : Nat} (h : Lib.indexByte s.data.toList 10 = i) : s.data.toList[i]? = some 10 ∧ ∀ c ∈ s.data.toList.take i, c ≠ 10 := by
  obtain ⟨h1, h2⟩ := Lib.indexByte_some h
  refine ⟨h1, fun c hc e => ?_⟩
  obtain ⟨k, hk⟩ := List.mem_iff_getElem?.1 hc
  have hki : k < i := by
    have := (List.getElem?_eq_some_iff.1 hk).1
    simp at this
    omega
  rw [List.getElem?_take, if_pos hki] at hk
  exact h2 k hki (by rw [hk, e])
theorem toList_ne {s : ByteArray} : (s.toList = []) ↔ s.size = 0 := by
  rw [ByteArray.toList_eq]
  have hl : s.data.toList.length = s.size := by simp
  rw [← hl, List.length_eq_zero_iff]

set_option maxRecDepth 100000 in
set_option maxHeartbeats 400000 in
theorem lines_any (s : ByteArray) (hs : s.size ≤ 1048576) (w : World) :
    Calls Tryz.prog 64 #[.string s] w (RetS w (lnB s)) := by
  obtain ⟨i0, hi, hz0, hz1, hz2⟩ := info_parts Tryz.infoS
  go_enter Tryz.func64, Tryz.ntmps64
  go_wp2
  go_loopw [0, 3, 4] (fun x v _ wr => ∃ (V : Value) (r : ByteArray) (L : List ByteArray), V = v ∧ x = .string r ∧ L.length + r.size ≤ s.size ∧ OwnS w.heap.size wr V L ∧ Hid (L ++ lnB r = lnB s) ∧ Gr w wr) (fun x _ _ _ => match x with | .string r => r.size | _ => 0)
  case atStart => exact ⟨_, s, [], rfl, rfl, by simp, OwnS.nil _ _, rfl, Gr.refl _⟩
  case round =>
    obtain ⟨v, r, L, rfl, rfl, r1, ho, HL, g⟩ := hrel
    have HO : Hid (wr.ownsRow w.heap.size 9 1 v L.length (L.map Value.string)) := ho
    have g' := g
    by_cases he : r.size = 0
    · have hd : r.data.toList = [] := List.length_eq_zero_iff.1 (by simpa using he)
      have HN : Hid (L = lnB s) := by unfold Hid; rw [← HL.out, lnB_empty r hd]; simp
      have hv := ho.vals (by unfold maxLen; omega)
      have hl : r.toList = [] := toList_ne.2 he
      have hl2 : (!r.toList.isEmpty) = false := by rw [hl]; rfl
      have hl3 : r.toList.isEmpty = true := by rw [hl]; rfl
      clear HL ho HO hd he
      go_wp2
      go_ret
      refine ⟨v, rfl, ?_, g⟩
      rw [← HN.out]; exact hv
    · have hne : r.data.toList ≠ [] := fun e => he (by have := congrArg List.length e; simpa using this)
      have hl : ¬ r.toList = [] := fun e => he (toList_ne.1 e)
      have hl2 : (!r.toList.isEmpty) = true := by simp [List.isEmpty_iff, hl]
      have hl3 : r.toList.isEmpty = false := by simp [List.isEmpty_iff, hl]
      rcases Int.lt_or_le (Lib.indexByte r.data.toList 10) 0 with hi0 | hi0
      · have hm : Lib.indexByte r.data.toList 10 = -1 := by have := Lib.indexByte_ge r.data.toList 10; omega
        have HN : Hid (L ++ [r] = lnB s) := by unfold Hid; rw [← HL.out, lnB_none r hne (idx_none hm)]
        have HM := Lib.hid hm
        clear HL ho hne hl hm hi0
        go_wp2_with fail
        refine (Tryz.strings_IndexByte r 10 _).mono ?_
        rintro e w1 ⟨rfl, rfl⟩
        have e10 : (10 : Int).toNat.toUInt8 = 10 := rfl
        rw [e10, HM.out]
        clear e10
        go_wp2_with (first | (at_builtin; refine wpList_append_own _ rfl _ _ 93 rfl w.heap.size 9 i0 (.string ByteArray.empty) 1 16 Tryz.underlying93 hi hz0 hz1 hz2 rfl (by decide) _ _ _ rfl (HO.out.alloc _) ⟨_, 0, none⟩ 1 1 [.string r] rfl rfl ?c1 ?c2 ?c3 ?c4 ?c5 ?_))
        case c1 => exact cell_one_new _ _ _
        case c2 => simp [Value.oneCell']
        case c3 => unfold maxLen; omega
        case c4 => omega
        case c5 => have := g.size; simp; omega
        intro v' w2 hown' hgrow _
        have hg1 : Gr w w2 := Gr.grown (g'.alloc _) hgrow HO.out
        have ho1 : OwnS w.heap.size w2 v' (L ++ [r]) := OwnS.snoc hown'
        have hv := ho1.vals (by unfold maxLen; simp; omega)
        clear hown' hgrow HO
        go_wp2
        go_ret
        refine ⟨v', rfl, ?_, hg1⟩
        rw [← HN.out]; exact hv
      · obtain ⟨i, hin⟩ : ∃ i : Nat, Lib.indexByte r.data.toList 10 = i := ⟨(Lib.indexByte r.data.toList 10).toNat, by omega⟩
        obtain ⟨x1, x2⟩ := idx_some hin
        have ilt : i < r.size := by have := (List.getElem?_eq_some_iff.1 x1).1; simpa using this
        have HN : Hid ((L ++ [r.extract 0 i]) ++ lnB (r.extract (i + 1) r.size) = lnB s) := by
          unfold Hid; rw [← HL.out, lnB_at r i x1 x2]; simp
        have HM := Lib.hid hin
        have b1 : (i : Int) < (r.size : Int) := by omega
        have b2 : (i : Int) ≤ (r.size : Int) := by omega
        have b3 : (i : Int) + 1 ≤ (r.size : Int) := by omega
        have b4 : (r.size : Int) ≤ 1048576 := by omega
        clear HL ho hne hl hin hi0 x1 x2
        go_wp2_with fail
        refine (Tryz.strings_IndexByte r 10 _).mono ?_
        rintro e w1 ⟨rfl, rfl⟩
        have e10 : (10 : Int).toNat.toUInt8 = 10 := rfl
        rw [e10, HM.out]
        clear e10
        go_wp2_with (first | (at_builtin; refine wpList_append_own _ rfl _ _ 93 rfl w.heap.size 9 i0 (.string ByteArray.empty) 1 16 Tryz.underlying93 hi hz0 hz1 hz2 rfl (by decide) _ _ _ rfl (HO.out.alloc _) ⟨_, 0, none⟩ 1 1 [.string (r.extract 0 i)] rfl rfl ?c1 ?c2 ?c3 ?c4 ?c5 ?_))
        case c1 => exact cell_one_new _ _ _
        case c2 => simp [Value.oneCell']
        case c3 => unfold maxLen; omega
        case c4 => omega
        case c5 => have := g.size; simp; omega
        intro v' w2 hown' hgrow _
        have hg1 : Gr w w2 := Gr.grown (g'.alloc _) hgrow HO.out
        have ho1 : OwnS w.heap.size w2 v' (L ++ [r.extract 0 i]) := OwnS.snoc hown'
        clear hown' hgrow HO
        go_wp2
        go_roundw
        case rel => exact ⟨_, r.extract (i + 1) r.size, L ++ [r.extract 0 i], rfl, rfl, by simp; omega, ho1, HN, hg1⟩
        case measure => simp; omega
end Go.Proofs.YtaanepadgoefhaaGreatDoor
