/- Words: the walks. -/
import Derived.Test.YtaanepadgoefhaaGreatDoorRVls
import Derived.Test.YtaanepadgoefhaaGreatDoorRWrdQ
namespace Go.Proofs.YtaanepadgoefhaaGreatDoor
open Go.ChangeShapes Go.WideShapes Go.ChangeAt Go.RowKit
set_option linter.unusedVariables false
set_option linter.unusedSimpArgs false

/-- what Words returns -/
def RetW (w : World) (o : Option (List ByteArray)) (e : Ending) (w' : World) : Prop :=
  ∃ v, e = .returned (.tuple #[v, .bool o.isSome]) ∧ IsVals w' v ((o.getD []).map Value.string) ∧ Gr w w'
theorem RetW.no {w w' : World} {o : Option (List ByteArray)} (h : o = none) (g : Gr w w') : RetW w o (.returned (.tuple #[.slice none 0 0, .bool false])) w' := by
  subst h
  exact ⟨_, rfl, ⟨none, 0, rfl, by simp, .inl rfl⟩, g⟩
theorem RetW.yes {w w' : World} {o : Option (List ByteArray)} {L : List ByteArray} {v : Value} (h : o = some L) (hv : IsVals w' v (L.map Value.string)) (g : Gr w w') : RetW w o (.returned (.tuple #[v, .bool true])) w' := by
  subst h
  exact ⟨_, rfl, hv, g⟩

/-- a slice's room is no less than its length -/
def CapOk (v : Value) : Prop := ∀ a n c, v = .slice a n c → n ≤ c
theorem OwnS.cap {B : Nat} {w : World} {v : Value} {L : List ByteArray} (h : OwnS B w v L) : CapOk v := by
  intro a n c e
  obtain ⟨-, h⟩ := h
  rcases h with ⟨rfl, -⟩ | ⟨g, cap, cur, rfl, -, -, hc, -⟩
  · cases e; omega
  · cases e; exact hc
/-- what Words returns, and that its room is enough -/
def RetWc (w : World) (o : Option (List ByteArray)) (e : Ending) (w' : World) : Prop :=
  ∃ v, e = .returned (.tuple #[v, .bool o.isSome]) ∧ IsVals w' v ((o.getD []).map Value.string) ∧ CapOk v ∧ Gr w w'
theorem RetWc.no {w w' : World} {o : Option (List ByteArray)} (h : o = none) (g : Gr w w') : RetWc w o (.returned (.tuple #[.slice none 0 0, .bool false])) w' := by
  subst h
  exact ⟨_, rfl, ⟨none, 0, rfl, by simp, .inl rfl⟩, fun a n c e => by cases e; omega, g⟩
theorem RetWc.yes {w w' : World} {o : Option (List ByteArray)} {L : List ByteArray} {v : Value} (h : o = some L) (hv : IsVals w' v (L.map Value.string)) (hc : CapOk v) (g : Gr w w') : RetWc w o (.returned (.tuple #[v, .bool true])) w' := by
  subst h
  exact ⟨_, rfl, hv, hc, g⟩
theorem RetWc.drop {w w' : World} {o : Option (List ByteArray)} {e : Ending} (h : RetWc w o e w') : RetW w o e w' := by
  obtain ⟨v, h1, h2, -, h3⟩ := h
  exact ⟨v, h1, h2, h3⟩
theorem wrdB_of {c : UInt8} (h1 : 33 ≤ (c.toNat : Int)) (h2 : (c.toNat : Int) ≤ 126) : wrdB c = true := by unfold wrdB; simp; omega
theorem wrdB_no {c : UInt8} (h : ¬ (33 ≤ (c.toNat : Int) ∧ (c.toNat : Int) ≤ 126)) : wrdB c = false := by unfold wrdB; simp; omega

set_option maxRecDepth 100000 in
set_option maxHeartbeats 800000 in
theorem refWords_cap (s : ByteArray) (hs : s.size ≤ 1048576) (w : World) :
    Calls Tryz.prog 67 #[.string s] w (RetWc w (wdB s)) := by
  obtain ⟨i0, hi, hz0, hz1, hz2⟩ := info_parts Tryz.infoS
  go_enter Tryz.func67, Tryz.ntmps67
  go_wp2
  go_loopw [4, 5, 6] (fun v f i wr => ∃ (V : Value) (F I : Nat) (L : List ByteArray), V = v ∧ f = .int .i64 F ∧ i = .int .i64 I ∧ F ≤ I ∧ I ≤ s.size + 1 ∧ L.length ≤ I ∧ OwnS w.heap.size wr V L ∧ Hid ((I ≤ s.size ∧ (wdR s F I).map (L ++ ·) = wdB s) ∨ (I = s.size + 1 ∧ wdB s = some L)) ∧ Gr w wr) (fun _ _ i _ => s.size + 1 - (intOf i).toNat)
  case atStart => exact ⟨_, 0, 0, [], rfl, rfl, rfl, by omega, by omega, by simp, OwnS.nil _ _, .inl ⟨by omega, by rw [wdR_start]; cases wdB s <;> rfl⟩, Gr.refl _⟩
  case round =>
    obtain ⟨v, F, I, L, rfl, rfl, rfl, r1, r2, r3, ho, HL, g⟩ := hrel
    have HO : Hid (wr.ownsRow w.heap.size 9 1 v L.length (L.map Value.string)) := ho
    have g' := g
    have hF : (F : Int) ≤ (I : Int) := by omega
    by_cases hlt : I < s.size
    · have hI : (I : Int) < (s.size : Int) := by omega
      have HW : Hid ((wdR s F I).map (L ++ ·) = wdB s) := by
        rcases HL.out with h | h
        · exact h.2
        · exfalso; omega
      clear HL
      by_cases hw : 33 ≤ (s[I].toNat : Int) ∧ (s[I].toNat : Int) ≤ 126
      · have HN : Hid ((I + 1 ≤ s.size ∧ (wdR s F (I + 1)).map (L ++ ·) = wdB s) ∨ (I + 1 = s.size + 1 ∧ wdB s = some L)) := by
          left
          refine ⟨by omega, ?_⟩
          rw [← HW.out, wdR_step s F I r1 hlt (wrdB_of hw.1 hw.2)]
        obtain ⟨hw1, hw2⟩ := hw
        clear HW ho
        go_wp2
        go_roundw
        case rel => exact ⟨_, F, I + 1, L, rfl, rfl, by go_num, by omega, by omega, by omega, HO.out, HN, g⟩
        case measure => simp [intOf]; omega
      · by_cases hb : F = I ∨ s[I] ≠ 32
        · have HN : Hid (wdB s = none) := by
            unfold Hid
            rw [← HW.out, wdR_bad s F I r1 hlt (wrdB_no hw) hb]; rfl
          have ht : ((I : Int) == (F : Int)) = true ∨ (((I : Int) == (F : Int)) = false ∧ ((s[I].toNat : Int) != 32) = true) := by
            rcases Classical.em (F = I) with e | e
            · left; simp [e]
            · right
              refine ⟨by simp; omega, ?_⟩
              rcases hb with hb | hb
              · exact absurd hb e
              · rw [bne_iff_ne]
                intro h
                apply hb
                apply UInt8.toNat_inj.1
                have : (32 : UInt8).toNat = 32 := rfl
                omega
          have hw' : ¬ 33 ≤ (s[I].toNat : Int) ∨ ¬ (s[I].toNat : Int) ≤ 126 := by
            rcases Classical.em (33 ≤ (s[I].toNat : Int)) with h | h
            · right; intro h2; exact hw ⟨h, h2⟩
            · exact .inl h
          clear HW ho hb hw
          rcases hw' with hw' | hw'
          all_goals
            rcases ht with ht | ⟨ht, ht2⟩
            all_goals
              go_wp2
              all_goals go_ret2
              all_goals exact RetWc.no HN.out g
        · have hFI : F < I := by
            have : F ≠ I := fun e => hb (.inl e)
            omega
          have h32 : s[I] = 32 := Classical.byContradiction fun e => hb (.inr e)
          have HN : Hid ((I + 1 ≤ s.size ∧ (wdR s (I + 1) (I + 1)).map ((L ++ [s.extract F I]) ++ ·) = wdB s) ∨ (I + 1 = s.size + 1 ∧ wdB s = some (L ++ [s.extract F I]))) := by
            left
            refine ⟨by omega, ?_⟩
            rw [← HW.out, wdR_blank s F I hFI hlt h32]
            cases wdR s (I + 1) (I + 1) <;> simp
          have t1 : ((I : Int) == (F : Int)) = false := by simp; omega
          have t2 : ((s[I].toNat : Int) != 32) = false := by rw [h32]; rfl
          have t3 : ¬ 33 ≤ (s[I].toNat : Int) := by rw [h32]; decide
          clear HW ho hb hw h32
          go_wp2_with (first | (at_builtin; refine wpList_append_own _ rfl _ _ 93 rfl w.heap.size 9 i0 (.string ByteArray.empty) 1 16 Tryz.underlying93 hi hz0 hz1 hz2 rfl (by decide) _ _ _ rfl (HO.out.alloc _) ⟨wr.heap.size, 0, none⟩ 1 1 [.string (s.extract F I)] rfl rfl ?c1 ?c2 ?c3 ?c4 ?c5 ?_))
          all_goals try (case c1 => exact cell_one_new _ _ _)
          case c2 => simp [Value.oneCell']
          case c3 => unfold maxLen; omega
          case c4 => omega
          case c5 => have := g.size; simp; omega
          intro v' w1 hown' hgrow _
          have hg1 : Gr w w1 := Gr.grown (g'.alloc _) hgrow HO.out
          have ho1 : OwnS w.heap.size w1 v' (L ++ [s.extract F I]) := OwnS.snoc hown'
          clear hown' hgrow HO
          go_wp2
          go_roundw
          case rel => exact ⟨_, I + 1, I + 1, L ++ [s.extract F I], rfl, by go_num, by go_num, by omega, by omega, by simp; omega, ho1, HN, hg1⟩
          case measure => simp [intOf]; omega
    · by_cases hie : I = s.size
      · subst hie
        have HW : Hid ((wdR s F s.size).map (L ++ ·) = wdB s) := by
          rcases HL.out with h | h
          · exact h.2
          · exfalso; omega
        have hE := wdR_end s F r1
        clear HL
        by_cases hf : F < s.size
        · have HN : Hid (wdB s = some (L ++ [s.extract F s.size])) := by
            unfold Hid
            rw [← HW.out, hE, if_pos hf]; rfl
          have t1 : ((s.size : Int) == (F : Int)) = false := by simp; omega
          clear HW hE ho
          go_wp2_with (first | (at_builtin; refine wpList_append_own _ rfl _ _ 93 rfl w.heap.size 9 i0 (.string ByteArray.empty) 1 16 Tryz.underlying93 hi hz0 hz1 hz2 rfl (by decide) _ _ _ rfl (HO.out.alloc _) ⟨wr.heap.size, 0, none⟩ 1 1 [.string (s.extract F s.size)] rfl rfl ?d1 ?d2 ?d3 ?d4 ?d5 ?_))
          all_goals try (case d1 => exact cell_one_new _ _ _)
          case d2 => simp [Value.oneCell']
          case d3 => unfold maxLen; omega
          case d4 => omega
          case d5 => have := g.size; simp; omega
          intro v' w1 hown' hgrow _
          have hg1 : Gr w w1 := Gr.grown (g'.alloc _) hgrow HO.out
          have ho1 : OwnS w.heap.size w1 v' (L ++ [s.extract F s.size]) := OwnS.snoc hown'
          clear hown' hgrow HO
          go_wp2
          go_roundw
          case rel => exact ⟨_, s.size + 1, s.size + 1, L ++ [s.extract F s.size], rfl, by go_num, by go_num, by omega, by omega, by simp; omega, ho1, .inr ⟨rfl, HN.out⟩, hg1⟩
          case measure => simp [intOf]
        · have HN : Hid (wdB s = none) := by
            unfold Hid
            rw [← HW.out, hE, if_neg hf]; rfl
          have t1 : ((s.size : Int) == (F : Int)) = true := by simp; omega
          clear HW hE ho
          go_wp2
          go_ret2
          exact RetWc.no HN.out g
      · have HN : Hid (wdB s = some L) := by
          rcases HL.out with h | h
          · exfalso; omega
          · exact h.2
        have hv := ho.vals (by unfold maxLen; omega)
        have HCap := Lib.hid ho.cap
        clear HL ho
        go_wp2
        go_ret2
        exact RetWc.yes HN.out hv HCap.out g
theorem refWords_any (s : ByteArray) (hs : s.size ≤ 1048576) (w : World) :
    Calls Tryz.prog 67 #[.string s] w (RetW w (wdB s)) := (refWords_cap s hs w).mono fun _ _ h => h.drop
end Go.Proofs.YtaanepadgoefhaaGreatDoor
