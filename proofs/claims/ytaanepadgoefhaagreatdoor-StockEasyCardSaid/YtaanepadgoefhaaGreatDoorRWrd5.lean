/- word.Words. -/
import Derived.Test.YtaanepadgoefhaaGreatDoorRWrd4
import Derived.Test.YtaanepadgoefhaaGreatDoorB3
import Derived.Test.YtaanepadgoefhaaGreatDoorShelf
import Derived.Deep.LoopGhost
import Derived.WalkMore
namespace Go.Proofs.YtaanepadgoefhaaGreatDoor
open Go.ChangeShapes Go.WideShapes Go.ChangeAt Go.RowKit
set_option linter.unusedVariables false
set_option linter.unusedSimpArgs false

theorem vals_row (w : World) (L : List ByteArray) (n : Nat) (h : L.length = n) (hm : L.length ≤ maxLen) :
    IsVals (w.alloc (.cells (L.map Value.string).toArray 9)) (.slice (some ⟨w.heap.size, 0, none⟩) n n) (L.map Value.string) := by
  subst h
  refine ⟨some ⟨w.heap.size, 0, none⟩, L.length, by simp, by simpa using hm, .inr ⟨w.heap.size, 0, rfl, by simp, ?_⟩⟩
  intro i x hx
  rw [World.cell?_alloc_mark]
  simpa using hx

theorem split_any (s : ByteArray) (w : World) (h : w.ShapedOpen Tryz.prog) (hs : s.size ≤ 1048576) :
    Calls Tryz.prog 109 #[.string s, .string blank] w fun e w' => e = .returned (.slice (some ⟨w.heap.size, 0, none⟩) (pcs s).length (pcs s).length) ∧ w' = w.alloc (.cells ((pcs s).map Value.string).toArray 9) := by
  have := Tryz.strings_Split_shaped s blank w h (by omega) (by rw [blank_size]; omega)
  rw [pcs_split, ← pcs_len] at this
  exact this

theorem toList_nil {s : ByteArray} : (s.toList = []) ↔ s.size = 0 := by
  rw [ByteArray.toList_eq]
  have hl : s.data.toList.length = s.size := by simp
  rw [← hl, List.length_eq_zero_iff]
theorem bad_none {s : ByteArray} {k : Nat} (hk : k < (pcs s).length) (h : okB (pcs s)[k] = false) : wdB s = none := by
  rw [wdB_pcs, if_neg]
  intro ha
  rw [List.all_eq_true] at ha
  rw [ha _ (List.getElem_mem hk)] at h
  cases h
theorem good_some {s : ByteArray} (h : ∀ (k : Nat) (hk : k < (pcs s).length), okB (pcs s)[k] = true) : wdB s = some (pcs s) := by
  rw [wdB_pcs, if_pos]
  rw [List.all_eq_true]
  intro x hx
  obtain ⟨k, hk, rfl⟩ := List.mem_iff_getElem.1 hx
  exact h k hk
theorem okB_no {x : ByteArray} (h : ¬ (0 < x.size ∧ ∀ (i : Nat) (h : i < x.size), 33 ≤ ((x[i]).toNat : Int) ∧ ((x[i]).toNat : Int) ≤ 126)) : okB x = false := by
  cases hq : okB x with
  | false => rfl
  | true => exact absurd ((okB_iff x).1 hq) h

set_option maxRecDepth 100000 in
set_option maxHeartbeats 1000000 in
theorem words_cap (s : ByteArray) (hs : s.size ≤ 1048576) (w : World) (ht : w.ShapedOpen Tryz.prog) :
    Calls Tryz.prog 76 #[.string s] w (RetWc w (wdB s)) := by
  have hsp := split_any s w ht hs
  have hlen : (pcs s).length ≤ 1048577 := by
    rw [pcs_len]
    have := Lib.countB_le blank (by rw [blank_size]; omega) s.size s (Nat.le_refl _)
    omega
  have hv := vals_row w (pcs s) (pcs s).length rfl (by unfold maxLen; omega)
  have hg : Gr w (w.alloc (.cells ((pcs s).map Value.string).toArray 9)) := (Gr.refl _).alloc _
  obtain ⟨P, hP⟩ : ∃ P, P = pcs s := ⟨_, rfl⟩
  obtain ⟨w1, hw1⟩ : ∃ w1, w1 = w.alloc (.cells ((pcs s).map Value.string).toArray 9) := ⟨_, rfl⟩
  rw [← hw1] at hsp hv hg
  rw [← hP] at hsp hv hlen
  have HB : Hid (∀ (k : Nat) (hk : k < P.length), okB P[k] = false → wdB s = none) := by
    subst hP; exact fun k hk h => bad_none hk h
  have HG : Hid ((∀ (k : Nat) (hk : k < P.length), okB P[k] = true) → wdB s = some P) := by
    subst hP; exact fun h => good_some h
  have HM : Hid (∀ (k : Nat) (hk : k < P.length), P[k].size ≤ s.size) := by
    subst hP; exact fun k hk => pcs_size (List.getElem_mem hk)
  have HS := Lib.hid hsp
  have HV := Lib.hid hv
  clear hP hw1 hsp hv
  go_enter Tryz.func76, Tryz.ntmps76
  go_wp2_with fail
  go_step3
  go_wp2_with fail
  refine HS.out.mono ?_
  rintro e w2 ⟨rfl, rfl⟩
  go_wp2_with fail
  go_step3
  go_wp2_with fail
  go_loopg [6, 7, 12] P.length (fun gh _ _ x12 wx => ∃ k : Nat, k + gh = P.length ∧ x12 = .int .i64 k ∧ Hid (∀ (j : Nat) (hj : j < P.length), j < k → okB P[j] = true) ∧ w2 = wx)
  case atStart => exact ⟨0, by omega, rfl, fun j hj h => by omega, rfl⟩
  case round =>
    obtain ⟨k, hkg, rfl, HA, rfl⟩ := hrel
    have HKG := Lib.hid hkg
    clear hkg
    by_cases hlt : k < P.length
    · obtain ⟨bb, oo, eb, zlt, cx⟩ := vals_at HV.out k hlt
      simp only [Option.some.injEq, Addr.mk.injEq, and_true] at eb
      obtain ⟨rfl, rfl⟩ := eb
      rw [Nat.zero_add] at cx
      have hbad := HB.out k hlt
      have hmx := HM.out k hlt
      have HI := Lib.hid (okB_iff P[k])
      have HA' : Hid (okB P[k] = true → ∀ (j : Nat) (hj : j < P.length), j < k + 1 → okB P[j] = true) := by
        intro h j hj hj2
        by_cases e : j = k
        · subst e; exact h
        · exact HA.out j hj (by omega)
      obtain ⟨x, hx⟩ : ∃ x, x = P[k] := ⟨_, rfl⟩
      rw [← hx] at cx hbad HI HA' hmx
      have HBAD := Lib.hid hbad
      clear hx hbad HA
      have k1 : (k : Int) < (P.length : Int) := by omega
      by_cases h0 : x.size = 0
      · have hz : x.toList.isEmpty = true := by rw [List.isEmpty_iff]; exact toList_nil.2 h0
        have HN := Lib.hid (HBAD.out (okB_no (fun h => by omega)))
        clear h0 HI HA' HBAD
        go_wp2
        try rw [Exit.noGoto_ret]
        go_ret2
        exact RetWc.no HN.out hg
      · have hz : x.toList.isEmpty = false := by
          cases hq : x.toList.isEmpty with
          | false => rfl
          | true => exact absurd (toList_nil.1 (List.isEmpty_iff.1 hq)) h0
        have hx0 : 0 < x.size := by omega
        clear h0
        go_wp2_with fail
        go_loopg [7, 24, 35] x.size (fun g2 x7 _ _ wy => ∃ j : Nat, j + g2 = x.size ∧ x7 = .int .i64 j ∧ j < x.size ∧ Hid (∀ (i : Nat) (h : i < x.size), i < j → 33 ≤ ((x[i]).toNat : Int) ∧ ((x[i]).toNat : Int) ≤ 126) ∧ w2 = wy)
        case atStart => exact ⟨0, by omega, rfl, hx0, fun i h h2 => by omega, rfl⟩
        case round =>
          obtain ⟨j, hjg, rfl, hj, HJ, rfl⟩ := hrel
          have HJG := Lib.hid hjg
          clear hjg
          have j1 : (j : Int) < (x.size : Int) := by omega
          by_cases hw : 33 ≤ ((x[j]).toNat : Int) ∧ ((x[j]).toNat : Int) ≤ 126
          · have HJ' : Hid (∀ (i : Nat) (h : i < x.size), i < j + 1 → 33 ≤ ((x[i]).toNat : Int) ∧ ((x[i]).toNat : Int) ≤ 126) := by
              intro i h h2
              by_cases e : i = j
              · subst e; exact hw
              · exact HJ.out i h (by omega)
            obtain ⟨hw1, hw2⟩ := hw
            clear HJ
            by_cases hl : j + 1 = x.size
            · have t1 : ((j : Int) == (x.size : Int) - 1) = true := by simp; omega
              have HN : Hid (∀ (j : Nat) (hj : j < P.length), j < k + 1 → okB P[j] = true) := HA'.out (HI.out.2 ⟨hx0, fun i h => HJ'.out i h (by omega)⟩)
              clear hl HJ' HI
              go_wp2
              go_roundg (P.length - (k + 1))
              case measure => have := HKG.out; omega
              case rel => exact ⟨k + 1, by have := HKG.out; omega, by go_num, HN.out, rfl⟩
            · have t1 : ((j : Int) == (x.size : Int) - 1) = false := by simp; omega
              have hl2 : j + 1 < x.size := by omega
              clear hl
              go_wp2
              go_roundg (x.size - (j + 1))
              case measure => have := HJG.out; omega
              case rel => exact ⟨j + 1, by have := HJG.out; omega, by go_num, hl2, HJ'.out, rfl⟩
          · have HN := Lib.hid (HBAD.out (okB_no (fun h => hw (h.2 j hj))))
            have hw' : ¬ 33 ≤ ((x[j]).toNat : Int) ∨ ¬ ((x[j]).toNat : Int) ≤ 126 := by
              rcases Classical.em (33 ≤ ((x[j]).toNat : Int)) with h | h
              · right; intro h2; exact hw ⟨h, h2⟩
              · exact .inl h
            clear hw HJ HI HA' HBAD
            rcases hw' with hw' | hw'
            all_goals
              go_wp2
              all_goals try rw [Exit.noGoto_ret]
              all_goals go_ret2
              all_goals exact RetWc.no HN.out hg
    · have HN := Lib.hid (HG.out fun j hj => HA.out j hj (by omega))
      clear HA
      go_wp2
      try rw [Exit.noGoto_ret]
      go_ret2
      exact RetWc.yes HN.out HV.out (fun a n c e => by cases e; exact Nat.le_refl _) hg
theorem words_any (s : ByteArray) (hs : s.size ≤ 1048576) (w : World) (ht : w.ShapedOpen Tryz.prog) :
    Calls Tryz.prog 76 #[.string s] w (RetW w (wdB s)) := (words_cap s hs w ht).mono fun _ _ h => h.drop
end Go.Proofs.YtaanepadgoefhaaGreatDoor
