/- Drivers as texts, there and back: plain. -/
import Derived.Test.YtehdpepiemfemaaGreatDoorRows
import Derived.Test.YtehdpepiemfemaaGreatDoorRDrv3
import Derived.Test.YtehdpepiemfemaaGreatDoorRDrv4
import Derived.Test.YtehdpepiemfemaaGreatDoorRTxtP
namespace Go.Proofs.YtehdpepiemfemaaGreatDoor
open Go.ChangeShapes Go.WideShapes Go.ChangeAt Go.RowKit
set_option linter.unusedVariables false
set_option linter.unusedSimpArgs false
theorem prefix_iff (x : ByteArray) : Lib.hasPrefix x.data.toList [45] = true ↔ 0 < x.size ∧ bt x 0 = 45 := by
  have hl : x.data.toList.length = x.size := by simp
  unfold Lib.hasPrefix bt
  cases h : x.data.toList with
  | nil => rw [h] at hl; simp at hl; simp [← hl]
  | cons c t =>
    rw [h] at hl
    simp only [List.length_cons] at hl
    simp only [List.isPrefixOf, List.getD_cons_zero, Bool.and_true, beq_iff_eq]
    constructor
    · intro e; exact ⟨by omega, by rw [← e]; rfl⟩
    · rintro ⟨-, e⟩
      apply UInt8.toNat_inj.1
      have : (c.toNat : Int) = 45 := e
      show 45 = c.toNat
      omega
theorem drop_extract (x : ByteArray) : toB (x.data.toList.drop 1) = x.extract 1 x.size := by
  have := data_extract x 1 x.size
  rw [List.take_of_length_le (by simp)] at this
  rw [← this, toB_data]
theorem numB_four {y : ByteArray} (h : numB y 4 = true) (h4 : y.size = 4) : 1000 ≤ numN y 4 := by
  obtain ⟨h1, h2, h3, -, h5, h6⟩ := (numB_iff y 4).1 h
  unfold numN
  rw [if_pos h, h4]
  have h0 : 49 ≤ bt y 0 := by
    have := h6 0 (by omega)
    have hne : bt y 0 ≠ 48 := fun e' => h5 ⟨by omega, e'⟩
    omega
  have a := h6 1 (by omega)
  have b := h6 2 (by omega)
  have c := h6 3 (by omega)
  simp only [nvB]
  omega
theorem num_34 (y : ByteArray) : (numB y 4 = true ∧ numN y 4 ≤ 999 ↔ numB y 3 = true) ∧ (numB y 3 = true → numN y 3 = numN y 4) := by
  have h34 : numB y 3 = true → numB y 4 = true := fun h => by
    obtain ⟨h1, h2, h3, h4, h5, h6⟩ := (numB_iff y 3).1 h
    exact (numB_iff y 4).2 ⟨by omega, by omega, h3, by omega, h5, h6⟩
  have hn : numB y 3 = true → numN y 3 = numN y 4 := fun h => by unfold numN; rw [if_pos h, if_pos (h34 h)]
  refine ⟨⟨fun ⟨h, hle⟩ => ?_, fun h => ⟨h34 h, ?_⟩⟩, hn⟩
  · obtain ⟨h1, h2, h3, h4, h5, h6⟩ := (numB_iff y 4).1 h
    by_cases h4' : y.size = 4
    · have := numB_four h h4'; omega
    · exact (numB_iff y 3).2 ⟨by omega, by omega, h3, by omega, h5, h6⟩
  · rw [← hn h]; exact (numN3_bd y).2
theorem numB_empty {y : ByteArray} {d : Int} (h : y.size = 0) : numB y d = false := (numB_not (s := y) (d := d) (by omega)).1
/-- the two readings of a number agree, in the tape's bounds -/
theorem num_sgn (x : ByteArray) : ((numR x).2 = true ∧ -999 ≤ (numR x).1 ∧ (numR x).1 ≤ 1000 ↔ (sgnR x).2 = true) ∧ ((sgnR x).2 = true → (sgnR x).1 = (numR x).1) := by
  unfold numR sgnR
  by_cases hp : 0 < x.size ∧ bt x 0 = 45
  · rw [if_pos ((prefix_iff x).2 hp), drop_extract]
    have hes : (x.extract 1 x.size).size = x.size - 1 := by rw [ByteArray.size_extract]; omega
    by_cases h1 : 1 < x.size
    · rw [if_pos ⟨h1, hp.2⟩]
      obtain ⟨e1, e2⟩ := num_34 (x.extract 1 x.size)
      have b4 := numN_bd (x.extract 1 x.size)
      generalize x.extract 1 x.size = y at e1 e2 b4
      dsimp only
      simp only [Bool.and_eq_true, Bool.not_eq_true', decide_eq_false_iff_not, decide_eq_true_eq]
      constructor
      · constructor
        · rintro ⟨⟨a, b⟩, c, d⟩
          have h3 := e1.1 ⟨a, by omega⟩
          rw [e2 h3]
          exact ⟨h3, by omega⟩
        · rintro ⟨a, b⟩
          obtain ⟨c, d⟩ := e1.2 a
          rw [e2 a] at b
          exact ⟨⟨c, by omega⟩, by omega, by omega⟩
      · rintro ⟨a, b⟩
        rw [e2 a]
    · rw [if_neg (fun h => h1 h.1)]
      have hz : numB (x.extract 1 x.size) 4 = false := numB_empty (by omega)
      have hx : numB x 4 = false := (numB_not (s := x) (d := 4) fun h => by
        have := h.2.2.2.2.2 0 hp.1
        omega).1
      dsimp only
      rw [hz, hx]
      simp
  · rw [if_neg (fun h => hp ((prefix_iff x).1 h)), if_neg (fun h => hp ⟨by omega, h.2⟩)]
    have b4 := numN_bd x
    dsimp only
    simp only [Bool.and_eq_true, decide_eq_true_eq]
    exact ⟨⟨fun ⟨a, b, c⟩ => ⟨a, c⟩, fun ⟨a, b⟩ => ⟨a, by omega, b⟩⟩, fun _ => trivial⟩
theorem nums_sgn : ∀ (l : List ByteArray) (T : List Int), (numsF numR l = some T ∧ ∀ x ∈ T, -999 ≤ x ∧ x ≤ 1000) ↔ numsF sgnR l = some T
  | [], T => by
    unfold numsF
    constructor
    · rintro ⟨h, -⟩; exact h
    · intro h; cases h; exact ⟨rfl, fun x hx => by cases hx⟩
  | a :: t, T => by
    obtain ⟨e1, e2⟩ := num_sgn a
    unfold numsF
    constructor
    · rintro ⟨h, hb⟩
      split at h
      · rename_i ha
        cases ht : numsF numR t with
        | none => rw [ht] at h; cases h
        | some U =>
          rw [ht] at h
          cases h
          have hs := e1.1 ⟨ha, hb _ (List.mem_cons_self ..)⟩
          have ih := (nums_sgn t U).1 ⟨ht, fun x hx => hb x (List.mem_cons_of_mem _ hx)⟩
          rw [if_pos hs, ih, e2 hs]; rfl
      · cases h
    · intro h
      split at h
      · rename_i hs
        cases ht : numsF sgnR t with
        | none => rw [ht] at h; cases h
        | some U =>
          rw [ht] at h
          cases h
          obtain ⟨ha, hb⟩ := e1.2 hs
          obtain ⟨ih, hU⟩ := (nums_sgn t U).2 ht
          rw [if_pos ha, ih, e2 hs]
          refine ⟨rfl, fun x hx => ?_⟩
          rcases List.mem_cons.1 hx with rfl | hx
          · exact hb
          · exact hU x hx
      · cases h
theorem kindW_of (k : ByteArray) : (kindW k = 1 ↔ k = bEager) ∧ (kindW k = 2 ↔ k = bCareful) ∧ (kindW k = 3 ↔ k = bTape) := by
  have n1 : bEager ≠ bCareful := by decide
  have n2 : bEager ≠ bTape := by decide
  have n3 : bCareful ≠ bTape := by decide
  unfold kindW
  by_cases h1 : k = bEager
  · subst h1; simp [n1, n2]
  by_cases h2 : k = bCareful
  · subst h2; simp [n1.symm, n3]
  by_cases h3 : k = bTape
  · subst h3; simp [n2.symm, n3.symm]
  · simp [h1, h2, h3]
theorem mayD_own_nil {D : Drv} (h : D.kind = 1 ∨ D.kind = 2) : mayD D = true ↔ D.tape = [] := by
  rw [mayD_own h, decide_eq_true_eq, List.length_eq_zero_iff]
theorem mayD_tape_iff {T : List Int} : mayD ⟨3, T⟩ = true ↔ (∀ x ∈ T, -999 ≤ x ∧ x ≤ 1000) ∧ T.length ≤ 64 := by
  rw [mayD_tape rfl]
  simp only [Bool.and_eq_true, List.all_eq_true, decide_eq_true_eq]
theorem numsF_nil {f : ByteArray → Int × Bool} {l : List ByteArray} (h : numsF f l = some []) : l = [] := by
  have := numsF_len h
  exact List.length_eq_zero_iff.1 (by simpa using this.symm)
/-- the program's reading is the reference's -/
theorem parse_eq (s : ByteArray) : parseD s = rparseD s := by
  by_cases h1 : s = bEager
  · subst h1; kernel_rfl
  by_cases h2 : s = bCareful
  · subst h2; kernel_rfl
  unfold parseD rparseD
  rw [if_neg h1, if_neg h2]
  cases hw : wdB s with
  | none => rfl
  | some L =>
    cases L with
    | nil => rfl
    | cons k l =>
      dsimp only
      obtain ⟨k1, k2, k3⟩ := kindW_of k
      by_cases e3 : k = bTape
      · rw [if_neg (by rw [k3.2 e3]; omega), k3.2 e3]
        by_cases hl : 65 < l.length + 1
        · rw [if_pos (.inr hl)]
          cases hn : numsF numR l with
          | none => rfl
          | some T =>
            dsimp only
            have := numsF_len hn
            rw [if_neg (fun h => by have := (mayD_tape_iff.1 h).2; omega)]
        · rw [if_neg (by rintro (h | h); exact h e3; exact hl h)]
          cases hn : numsF sgnR l with
          | some T =>
            obtain ⟨hr, hb⟩ := (nums_sgn l T).2 hn
            have := numsF_len hr
            rw [hr]
            dsimp only
            rw [if_pos (mayD_tape_iff.2 ⟨hb, by omega⟩)]
          | none =>
            cases hr : numsF numR l with
            | none => rfl
            | some T =>
              dsimp only
              split
              · rename_i hm
                have := (nums_sgn l T).1 ⟨hr, (mayD_tape_iff.1 hm).1⟩
                rw [hn] at this; cases this
              · rfl
      · have hr : ∀ o : Option Drv, (if ¬ k = bTape ∨ 65 < l.length + 1 then none else o) = none := fun o => if_pos (.inl e3)
        rw [hr]
        by_cases h0 : kindW k = 0
        · rw [if_pos h0]
        · rw [if_neg h0]
          have hk : kindW k = 1 ∨ kindW k = 2 := by
            have : kindW k ≠ 3 := fun h => e3 (k3.1 h)
            unfold kindW at h0 this ⊢
            split
            · exact .inl rfl
            · split
              · exact .inr rfl
              · rename_i q1 q2
                rw [if_neg q1, if_neg q2] at h0 this
                split at h0
                · rename_i q3; rw [if_pos q3] at this; omega
                · omega
          cases hn : numsF numR l with
          | none => rfl
          | some T =>
            dsimp only
            rw [if_neg]
            intro hm
            have hT : T = [] := (mayD_own_nil (D := ⟨kindW k, T⟩) hk).1 hm
            subst hT
            have hl := numsF_nil hn
            subst hl
            have hs := wdB_one hw
            rcases hk with hk | hk
            · exact h1 (hs.trans (k1.1 hk))
            · exact h2 (hs.trans (k2.1 hk))
theorem sgn_dgs {x : ByteArray} (h : (sgnR x).2 = true) : dgs (sgnR x).1 = x := by
  unfold sgnR at h ⊢
  split at h
  · rename_i hc
    rw [if_pos hc]
    dsimp only at h ⊢
    simp only [Bool.and_eq_true, decide_eq_true_eq] at h
    rw [dgs_neg _ h.2, dgs_num h.1]
    have h0 : 0 < x.data.toList.length := by have := hc.1; simp; omega
    apply ByteArray.ext
    apply Array.toList_inj.1
    rw [← drop_extract]
    have hb := byte_bt x 0 (by omega)
    rw [hc.2] at hb
    cases hx : x.data.toList with
    | nil => rw [hx] at h0; simp at h0
    | cons c t =>
      have hc0 : c = 45 := by
        have : x.data.toList[0]'h0 = c := by simp [hx]
        rw [this] at hb
        exact hb.symm
      simp [ByteArray.data_append, toB, hc0]
  · rename_i hc
    rw [if_neg hc]
    dsimp only at h ⊢
    simp only [Bool.and_eq_true, decide_eq_true_eq] at h
    exact dgs_num h.1
theorem nums_dgs : ∀ {l : List ByteArray} {T : List Int}, numsF sgnR l = some T → T.map dgs = l
  | [], T, h => by cases h; rfl
  | a :: t, T, h => by
    unfold numsF at h
    split at h
    · rename_i hs
      cases ht : numsF sgnR t with
      | none => rw [ht] at h; cases h
      | some U =>
        rw [ht] at h
        cases h
        show dgs (sgnR a).1 :: U.map dgs = a :: t
        rw [sgn_dgs hs, nums_dgs ht]
    · cases h
theorem tape_jn (T : List Int) : tapeS bTape T = jnW (bTape :: T.map dgs) := (join_tape T bTape).symm
/-- what is read is printed as it was -/
theorem parse_print {s : ByteArray} {D : Drv} (h : parseD s = some D) : printD D = s := by
  rw [parse_eq] at h
  unfold rparseD at h
  split at h
  · rename_i h1; cases h; subst h1; kernel_rfl
  split at h
  · rename_i h2; cases h; subst h2; kernel_rfl
  cases hw : wdB s with
  | none => rw [hw] at h; cases h
  | some L =>
    rw [hw] at h
    cases L with
    | nil => cases h
    | cons k l =>
      dsimp only at h
      split at h
      · cases h
      · rename_i hk
        have hk' : k = bTape ∧ ¬ 65 < l.length + 1 := ⟨Classical.byContradiction fun e => hk (.inl e), fun e => hk (.inr e)⟩
        obtain ⟨rfl, hl⟩ := hk'
        cases hn : numsF sgnR l with
        | none => rw [hn] at h; cases h
        | some T =>
          rw [hn] at h
          cases h
          obtain ⟨hr, hb⟩ := (nums_sgn l T).2 hn
          have hlen := numsF_len hn
          unfold printD
          rw [if_pos (mayD_tape_iff.2 ⟨hb, by omega⟩), if_neg (by show ¬ (3 : Int) = 1; omega), if_neg (by show ¬ (3 : Int) = 2; omega), tape_jn, nums_dgs hn]
          exact (wdB_inv hw).1.symm
theorem sgn_of (n : Int) (h0 : -999 ≤ n) (h1 : n ≤ 1000) : (sgnR (dgs n)).2 = true ∧ (sgnR (dgs n)).1 = n := by
  by_cases hn : n < 0
  · obtain ⟨m, rfl⟩ : ∃ m, n = -m := ⟨-n, by omega⟩
    obtain ⟨b1, b2⟩ := num_dgs 2 m (by omega) (by omega) (by omega)
    obtain ⟨a1, -⟩ := dgs_spec 2 m (by omega) (by omega)
    have e : (⟨#[45]⟩ ++ dgs m).extract 1 (⟨#[45]⟩ ++ dgs m).size = dgs m := by
      rw [← drop_extract]
      apply ByteArray.ext
      apply Array.toList_inj.1
      simp [ByteArray.data_append, toB]
    have e0 : bt (⟨#[45]⟩ ++ dgs m) 0 = 45 := by
      rw [bt_app, if_pos (by decide)]; rfl
    rw [dgs_neg m (by omega)]
    unfold sgnR
    rw [if_pos ⟨by rw [size_app]; show 1 < 1 + (dgs m).size; omega, e0⟩, e]
    dsimp only
    have b1' : numB (dgs m) 3 = true := b1
    have b2' : numN (dgs m) 3 = m := b2
    rw [b1', b2']
    refine ⟨?_, rfl⟩
    simp; omega
  · obtain ⟨b1, b2⟩ := num_dgs 3 n (by omega) (by omega) (by omega)
    obtain ⟨a1, -, a3, -⟩ := dgs_spec 3 n (by omega) (by omega)
    have h45 := a3 0 (by omega)
    unfold sgnR
    rw [if_neg (fun h => by omega)]
    dsimp only
    have b1' : numB (dgs n) 4 = true := b1
    have b2' : numN (dgs n) 4 = n := b2
    rw [b1', b2']
    refine ⟨?_, rfl⟩
    simp; omega
theorem nums_of : ∀ (T : List Int), (∀ x ∈ T, -999 ≤ x ∧ x ≤ 1000) → numsF sgnR (T.map dgs) = some T
  | [], _ => rfl
  | a :: t, h => by
    have ha := h a (List.mem_cons_self ..)
    obtain ⟨h1, h2⟩ := sgn_of a ha.1 ha.2
    show (if (sgnR (dgs a)).2 then (numsF sgnR (t.map dgs)).map ((sgnR (dgs a)).1 :: ·) else none) = _
    rw [if_pos h1, h2, nums_of t fun x hx => h x (List.mem_cons_of_mem _ hx)]; rfl
theorem dgs_word2 (n : Int) (h0 : -999 ≤ n) (h1 : n ≤ 1000) : wordB (dgs n) := by
  by_cases hn : n < 0
  · obtain ⟨m, rfl⟩ : ∃ m, n = -m := ⟨-n, by omega⟩
    rw [dgs_neg m (by omega)]
    exact word_app ⟨by simp, fun c hc => by have : c = 45 := by simpa using hc
                                            subst this; decide⟩ (dgs_word m (by omega) (by omega))
  · exact dgs_word n (by omega) (by omega)
/-- what is printed is read as it was -/
theorem print_parse (D : Drv) : parseD (printD D) = if mayD D then some D else none := by
  by_cases hm : mayD D = true
  · rw [if_pos hm]
    obtain ⟨kind, tape⟩ := D
    rcases mayD_kind hm with h | h | h
    · obtain rfl : kind = 1 := h
      obtain rfl : tape = [] := (mayD_own_nil (D := ⟨1, tape⟩) (.inl rfl)).1 hm
      kernel_rfl
    · obtain rfl : kind = 2 := h
      obtain rfl : tape = [] := (mayD_own_nil (D := ⟨2, tape⟩) (.inr rfl)).1 hm
      kernel_rfl
    · obtain rfl : kind = 3 := h
      obtain ⟨hb, hl⟩ := mayD_tape_iff.1 hm
      have hp : printD ⟨3, tape⟩ = jnW (bTape :: tape.map dgs) := by
        unfold printD
        rw [if_pos hm, if_neg (by show ¬ (3 : Int) = 1; omega), if_neg (by show ¬ (3 : Int) = 2; omega), tape_jn]
      have hw : wdB (jnW (bTape :: tape.map dgs)) = some (bTape :: tape.map dgs) := wdB_jnW _ (by simp) (by
        intro x hx
        rcases List.mem_cons.1 hx with rfl | hx
        · exact ⟨by decide, by decide⟩
        · obtain ⟨n, hn, rfl⟩ := List.mem_map.1 hx
          have := hb n hn
          exact dgs_word2 n this.1 this.2)
      rw [hp, parse_eq]
      unfold rparseD
      have hT : numsF sgnR (tape.map dgs) = some tape := nums_of tape hb
      rw [if_neg (fun e => by rw [e] at hw; have : wdB bEager = some [bEager] := by kernel_rfl
                              rw [this] at hw; injection hw with hw; injection hw with hw1; exact absurd hw1 (by decide)),
        if_neg (fun e => by rw [e] at hw; have : wdB bCareful = some [bCareful] := by kernel_rfl
                            rw [this] at hw; injection hw with hw; injection hw with hw1; exact absurd hw1 (by decide)), hw]
      dsimp only
      rw [if_neg (by rintro (h | h); exact h rfl; rw [List.length_map] at h; omega), hT]
  · rw [if_neg hm]
    unfold printD
    rw [if_neg hm]
    kernel_rfl
end Go.Proofs.YtehdpepiemfemaaGreatDoor
