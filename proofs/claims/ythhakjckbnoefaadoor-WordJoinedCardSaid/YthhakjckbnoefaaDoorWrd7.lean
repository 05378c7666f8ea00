/- Words: what is known; the laws' walks. -/
import Derived.Test.YthhakjckbnoefaaDoorWrd2
import Derived.Test.YthhakjckbnoefaaDoorWrd5
import Derived.Test.YthhakjckbnoefaaDoorWrd6
import Derived.Test.YthhakjckbnoefaaDoorNum1
import Derived.Test.YthhakjckbnoefaaDoorNam1
import Derived.Test.YthhakjckbnoefaaDoorNam2
namespace Go.Proofs.YthhakjckbnoefaaDoor
open Go.ChangeShapes Go.WideShapes Go.ChangeAt Go.RowKit
set_option linter.unusedVariables false
set_option linter.unusedSimpArgs false

theorem sameTexts_vals (A B : List ByteArray) (va vb : Value) (w : World) (ha : IsVals w va (A.map Value.string)) (hb : IsVals w vb (B.map Value.string)) :
    Calls Tryd.prog 12 #[va, vb] w fun e w' => e = .returned (.bool (decide (A = B))) ∧ Gr w w' := by
  have ha' := ha
  have hb' := hb
  obtain ⟨a, ca, rfl, -⟩ := ha
  obtain ⟨b, cb, rfl, -⟩ := hb
  simp only [List.length_map] at ha' hb' ⊢
  exact sameTexts_any A B a b ca cb w ha' hb'
theorem vals_lit (w : World) (L : List ByteArray) (n : Nat) (h : L.length = n) (hm : n ≤ 1000) (T : TypeId) :
    IsVals (w.alloc (.cells (L.map Value.string).toArray T)) (.slice (some ⟨w.heap.size, 0, none⟩) n n) (L.map Value.string) := by
  subst h
  refine ⟨some ⟨w.heap.size, 0, none⟩, L.length, by simp, by unfold maxLen; simp; omega, .inr ⟨w.heap.size, 0, rfl, by simp, ?_⟩⟩
  intro i x hx
  rw [World.cell?_alloc_mark]
  simpa using hx

set_option maxHeartbeats 400000 in
theorem known1_any (w : World) (ht : Tabs w) : Calls Tryd.prog 11 #[] w fun e w' => e = .returned (.bool true) ∧ Gr w w' := by
  have k1 : wdB ⟨#[97, 32, 98, 98, 32, 48, 55]⟩ = some [⟨#[97]⟩, ⟨#[98, 98]⟩, ⟨#[48, 55]⟩] := by kernel_rfl
  have K1 := Lib.hid k1
  clear k1
  go_enter Tryd.func11, Tryd.ntmps11
  go_wp2_with fail
  refine (words_any _ (by decide) _ ht).mono ?_
  rintro e w1 ⟨v1, rfl, hv1, h1⟩
  rw [K1.out] at hv1 ⊢
  have ht1 := ht.gr h1
  go_wp2_with fail
  refine (number_any _ _ (by decide) _).mono ?_
  rintro e w2 ⟨rfl, rfl⟩
  have k2 : numN ⟨#[49, 50, 48]⟩ 3 = 120 := by kernel_rfl
  have k3 : numB ⟨#[49, 50, 48]⟩ 3 = true := by kernel_rfl
  rw [k2, k3]
  clear k2 k3
  go_wp2_with fail
  refine (number_any _ _ (by decide) _).mono ?_
  rintro e w2 ⟨rfl, rfl⟩
  have k2 : numN ⟨#[48, 49, 50]⟩ 3 = 0 := by kernel_rfl
  have k3 : numB ⟨#[48, 49, 50]⟩ 3 = false := by kernel_rfl
  rw [k2, k3]
  clear k2 k3
  go_wp2_with fail
  refine (sameTexts_vals [⟨#[97]⟩, ⟨#[98, 98]⟩, ⟨#[48, 55]⟩] [⟨#[97]⟩, ⟨#[98, 98]⟩, ⟨#[48, 55]⟩] _ _ _ (hv1.gr ((Gr.refl _).alloc _)) (vals_lit w2 [⟨#[97]⟩, ⟨#[98, 98]⟩, ⟨#[48, 55]⟩] 3 rfl (by omega) _)).mono ?_
  rintro e w3 ⟨rfl, h3⟩
  have h13 := h1.trans (((Gr.refl _).alloc _).trans h3)
  have ht3 := ht.gr h13
  clear hv1 h1 h3 ht1 K1
  go_wp2_with fail
  refine (digits_word _ (by decide) _ ht3).mono ?_
  rintro e w4 ⟨rfl, h4⟩
  have k4 : dgs (-35) = ⟨#[45, 51, 53]⟩ := by rw [itoa_nbig (by omega), show (-35 : Int).tdiv 10 = -3 from rfl, itoa_nsmall (by omega) (by omega)]; rfl
  rw [k4]
  clear k4
  have h14 := h13.trans h4
  clear h13 h4 ht3
  go_wp2_with fail
  refine (name_any _ (by decide) _).mono ?_
  rintro e w5 ⟨rfl, rfl⟩
  have k5 : nmB ⟨#[97, 49]⟩ = true := by kernel_rfl
  rw [k5]
  clear k5
  go_wp2_with fail
  refine (name_any _ (by decide) _).mono ?_
  rintro e w5 ⟨rfl, rfl⟩
  have k5 : nmB ⟨#[49, 97]⟩ = false := by kernel_rfl
  rw [k5]
  clear k5
  go_wp2_with fail
  refine (lines_any _ (by decide) _).mono ?_
  rintro e w6 ⟨v6, rfl, hv6, h6⟩
  have k6 : lnB ⟨#[120, 10, 10, 121]⟩ = [⟨#[120]⟩, ⟨#[]⟩, ⟨#[121]⟩] := by kernel_rfl
  rw [k6] at hv6
  clear k6
  go_wp2_with fail
  refine (sameTexts_vals [⟨#[120]⟩, ⟨#[]⟩, ⟨#[121]⟩] [⟨#[120]⟩, ⟨#[]⟩, ⟨#[121]⟩] _ _ _ (hv6.gr ((Gr.refl _).alloc _)) (vals_lit w6 [⟨#[120]⟩, ⟨#[]⟩, ⟨#[121]⟩] 3 rfl (by omega) _)).mono ?_
  rintro e w7 ⟨rfl, h7⟩
  have h17 := h14.trans (h6.trans (((Gr.refl _).alloc _).trans h7))
  clear hv6 h6 h7 h14
  go_wp2_with fail
  go_ret
  exact ⟨rfl, h17⟩

theorem wordLines_walk (s : ByteArray) (w : World) (ht : Tabs w) (ws : s.size ≤ maxLen) :
    Calls Tryd.prog 3 #[.string s] w fun e w' => e = .returned (.bool true) ∧ Gr w w' := by
  by_cases hl : (20000 : Int) < (s.size : Int)
  · go_enter Tryd.func3, Tryd.ntmps3
    go_wp2_with fail
    refine (known1_any _ ht).mono ?_
    rintro e w1 ⟨rfl, h1⟩
    go_wp2_with fail
    go_ret
    exact ⟨rfl, h1⟩
  · go_enter Tryd.func3, Tryd.ntmps3
    go_wp2_with fail
    refine (known1_any _ ht).mono ?_
    rintro e w1 ⟨rfl, h1⟩
    go_wp2_with fail
    refine (lines_any s (by omega) _).mono ?_
    rintro e w2 ⟨v2, rfl, hv2, h2⟩
    go_wp2_with fail
    refine (refLines_any s (by omega) _).mono ?_
    rintro e w3 ⟨v3, rfl, hv3, h3⟩
    go_wp2_with fail
    refine (sameTexts_vals (lnB s) (lnB s) _ _ _ (hv2.gr h3) hv3).mono ?_
    rintro e w4 ⟨rfl, h4⟩
    go_wp2_with fail
    go_ret
    exact ⟨ret_bool (by simp), h1.trans (h2.trans (h3.trans h4))⟩

theorem wordWords_walk (s : ByteArray) (w : World) (ht : Tabs w) (ws : s.size ≤ maxLen) :
    Calls Tryd.prog 4 #[.string s] w fun e w' => e = .returned (.bool true) ∧ Gr w w' := by
  by_cases hl : (20000 : Int) < (s.size : Int)
  · go_enter Tryd.func4, Tryd.ntmps4
    go_wp2_with fail
    refine (known1_any _ ht).mono ?_
    rintro e w1 ⟨rfl, h1⟩
    go_wp2_with fail
    go_ret
    exact ⟨rfl, h1⟩
  · obtain ⟨o, ho⟩ : ∃ o, o = wdB s := ⟨_, rfl⟩
    have HO := Lib.hid ho
    clear ho
    go_enter Tryd.func4, Tryd.ntmps4
    go_wp2_with fail
    refine (known1_any _ ht).mono ?_
    rintro e w1 ⟨rfl, h1⟩
    have ht1 := ht.gr h1
    go_wp2_with fail
    refine (words_any s (by omega) _ ht1).mono ?_
    rintro e w2 ⟨v2, rfl, hv2, h2⟩
    rw [← HO.out] at hv2 ⊢
    go_wp2_with fail
    refine (refWords_any s (by omega) _).mono ?_
    rintro e w3 ⟨v3, rfl, hv3, h3⟩
    rw [← HO.out] at hv3 ⊢
    cases o with
    | none =>
      go_wp2_with fail
      refine (sameTexts_vals _ _ _ _ _ (hv2.gr h3) hv3).mono ?_
      rintro e w4 ⟨rfl, h4⟩
      go_wp2_with fail
      go_ret
      exact ⟨ret_bool (by simp), h1.trans (h2.trans (h3.trans h4))⟩
    | some L =>
      go_wp2_with fail
      refine (sameTexts_vals _ _ _ _ _ (hv2.gr h3) hv3).mono ?_
      rintro e w4 ⟨rfl, h4⟩
      go_wp2_with fail
      go_ret
      exact ⟨ret_bool (by simp), h1.trans (h2.trans (h3.trans h4))⟩

theorem wordNumber_walk (s : ByteArray) (d : Int) (w : World) (ht : Tabs w) (ws : s.size ≤ maxLen) (wd : (Lit.int .i64 d).wf = true) :
    Calls Tryd.prog 5 #[.string s, .int .i64 d] w fun e w' => e = .returned (.bool true) ∧ Gr w w' := by
  by_cases hl : (100 : Int) < (s.size : Int)
  · go_enter Tryd.func5, Tryd.ntmps5
    go_wp2_with fail
    refine (known1_any _ ht).mono ?_
    rintro e w1 ⟨rfl, h1⟩
    go_wp2_with fail
    go_ret
    exact ⟨rfl, h1⟩
  · go_enter Tryd.func5, Tryd.ntmps5
    go_wp2_with fail
    refine (known1_any _ ht).mono ?_
    rintro e w1 ⟨rfl, h1⟩
    go_wp2_with fail
    refine (number_any s d ws _).mono ?_
    rintro e w2 ⟨rfl, rfl⟩
    go_wp2_with fail
    refine (refNumber_any s d ws _).mono ?_
    rintro e w2 ⟨rfl, rfl⟩
    go_wp2_with fail
    go_ret
    exact ⟨ret_bool (by simp), h1⟩

theorem wordName_walk (s : ByteArray) (w : World) (ht : Tabs w) (ws : s.size ≤ maxLen) :
    Calls Tryd.prog 6 #[.string s] w fun e w' => e = .returned (.bool true) ∧ Gr w w' := by
  by_cases hl : (100 : Int) < (s.size : Int)
  · go_enter Tryd.func6, Tryd.ntmps6
    go_wp2_with fail
    refine (known1_any _ ht).mono ?_
    rintro e w1 ⟨rfl, h1⟩
    go_wp2_with fail
    go_ret
    exact ⟨rfl, h1⟩
  · go_enter Tryd.func6, Tryd.ntmps6
    go_wp2_with fail
    refine (known1_any _ ht).mono ?_
    rintro e w1 ⟨rfl, h1⟩
    go_wp2_with fail
    refine (name_any s ws _).mono ?_
    rintro e w2 ⟨rfl, rfl⟩
    go_wp2_with fail
    refine (refName_any s ws _).mono ?_
    rintro e w2 ⟨rfl, rfl⟩
    go_wp2_with fail
    go_ret
    exact ⟨ret_bool (by simp), h1⟩

theorem wordDigits_walk (n : Int) (w : World) (ht : Tabs w) (wn : (Lit.int .i64 n).wf = true) :
    Calls Tryd.prog 7 #[.int .i64 n] w fun e w' => e = .returned (.bool true) ∧ Gr w w' := by
  have hb : -9223372036854775808 ≤ n ∧ n ≤ 9223372036854775807 := by simpa [Lit.wf, IntKind.min, IntKind.max, IntKind.signed, IntKind.bits] using wn
  have HR := Lib.hid (fun wx => refDigits_any n.natAbs n wx (Nat.le_refl _) hb.1 hb.2)
  clear hb
  go_enter Tryd.func7, Tryd.ntmps7
  go_wp2_with fail
  refine (known1_any _ ht).mono ?_
  rintro e w1 ⟨rfl, h1⟩
  have ht1 := ht.gr h1
  go_wp2_with fail
  refine (digits_word n wn _ ht1).mono ?_
  rintro e w2 ⟨rfl, h2⟩
  go_wp2_with fail
  refine (HR.out _).mono ?_
  rintro e w3 ⟨rfl, h3⟩
  go_wp2_with fail
  go_ret
  exact ⟨ret_bool (by simp), h1.trans (h2.trans h3)⟩
end Go.Proofs.YthhakjckbnoefaaDoor
