/- Clock: a text with one byte another one. -/
import Derived.Test.YtiblkcbehcpjbaaClk5
import Derived.Deep.RegionWith
namespace Go.Proofs.Ytiblkcbehcpjbaa
open Go.ChangeShapes Go.WideShapes Go.ChangeAt Go.RowKit
set_option linter.unusedVariables false
set_option linter.unusedSimpArgs false

theorem spoil_le (S : ByteArray) (a b : Nat) (c : UInt8) (h : S.size = 8) : (S.extract 0 a ++ ⟨#[c]⟩ ++ S.extract b 8).size ≤ maxLen := by
  have e : (⟨#[c]⟩ : ByteArray).size = 1 := rfl
  have e1 : (S.extract 0 a ++ ⟨#[c]⟩ ++ S.extract b 8).size ≤ 17 := by simp [e]; omega
  exact Nat.le_trans e1 (by decide)

/-- the text with byte k another one -/
def spoil (S : ByteArray) (k : Nat) (c : UInt8) : ByteArray := S.extract 0 k ++ ⟨#[c]⟩ ++ S.extract (k + 1) 8

theorem spoil_size (S : ByteArray) (k : Nat) (c : UInt8) (h : S.size = 8) (hk : k < 8) : (spoil S k c).size = 8 := by
  have e : (⟨#[c]⟩ : ByteArray).size = 1 := rfl
  simp [spoil, e]; omega

theorem bt_spoil (S : ByteArray) (k : Nat) (c : UInt8) (h : S.size = 8) (hk : k < 8) (i : Nat) (hi : i < 8) : bt (spoil S k c) i = if i = k then (c.toNat : Int) else bt S i := by
  have hl : S.data.toList.length = 8 := by simpa using h
  have e : (spoil S k c).data.toList = S.data.toList.take k ++ [c] ++ S.data.toList.drop (k + 1) := by
    simp only [spoil, ByteArray.data_append, Array.toList_append, ByteArray.data_extract, Array.toList_extract]
    simp [List.extract_eq_take_drop, hl]
    exact List.take_of_length_le (by simp; omega)
  unfold bt
  rw [e]
  simp only [List.getD_eq_getElem?_getD]
  by_cases h1 : i < k
  · rw [if_neg (by omega), List.getElem?_append_left (by simp; omega), List.getElem?_append_left (by simp; omega), List.getElem?_take, if_pos h1]
  · by_cases h2 : i = k
    · subst h2
      rw [if_pos rfl, List.getElem?_append_left (by simp; omega), List.getElem?_append_right (by simp; omega)]
      simp
      rw [Nat.min_eq_left (by omega)]
      simp
    · rw [if_neg h2, List.getElem?_append_right (by simp; omega)]
      simp
      rw [Nat.min_eq_left (by omega)]
      rw [show k + 1 + (i - (k + 1)) = i from by omega]

theorem spoil_same (S : ByteArray) (k : Nat) (c : UInt8) (h : S.size = 8) (hk : k < 8) (hc : (c.toNat : Int) = bt S k) : spoil S k c = S := by
  refine eq_of_bt (spoil_size S k c h hk) h fun i hi => ?_
  rw [bt_spoil S k c h hk i hi]
  split
  · rename_i e; rw [e, hc]
  · rfl

theorem spoil_law (T : Int) (h0 : 0 ≤ T) (h1 : T < 86400) (k : Nat) (hk : k < 8) (c : UInt8) :
    clkB (spoil (clkT T) k c) = false ∨ (clkB (spoil (clkT T) k c) = true ∧ ((clkN (spoil (clkT T) k c) == T) = ((c.toNat : Int) == bt (clkT T) k))) := by
  cases hq : clkB (spoil (clkT T) k c) with
  | false => exact .inl rfl
  | true =>
    refine .inr ⟨rfl, ?_⟩
    by_cases hc : (c.toNat : Int) = bt (clkT T) k
    · rw [spoil_same _ _ _ (clkT_size _) hk hc, (clkN_val T h0 h1).2]
      simp [hc]
    · have hne : clkN (spoil (clkT T) k c) ≠ T := by
        intro e
        have := clkT_clkN hq
        rw [e] at this
        have hb := bt_spoil (clkT T) k c (clkT_size _) hk k hk
        rw [if_pos rfl, ← this] at hb
        exact hc hb.symm
      rw [beq_eq_false_iff_ne.2 hne, beq_eq_false_iff_ne.2 hc]

theorem mod_same (t : Int) (w : World) : Calls Try.prog 24 #[.int .i64 t] w fun e w' => e = .returned (.int .i64 (t % 86400)) ∧ w' = w :=
  (mod_any t w).mono fun _ _ ⟨a, b⟩ => ⟨a, b.symm⟩

set_option maxHeartbeats 400000 in
theorem clockSpoilt_walk (a x c : Int) (w : World) (wa : (Lit.int .i64 a).wf = true) (wx : (Lit.int .u8 x).wf = true) (wc : (Lit.int .u8 c).wf = true) :
    Calls Try.prog 7 #[.int .i64 a, .int .u8 x, .int .u8 c] w fun e w' => e = .returned (.bool true) ∧ Gr w w' := by
  have bx := bounds_u8 wx
  have bc := bounds_u8 wc
  obtain ⟨x0, x1⟩ := bx
  obtain ⟨c0, c1⟩ := bc
  have hc1 := fun (wx : World) g (hg : wx.cell? ⟨g, 0, none⟩ = some (.int .u8 c)) => conv1_cell (P := Try.prog) 32 9 5 Try.underlying32 Try.underlying5 Try.underlying9 c ⟨c0, c1⟩ wx g hg
  obtain ⟨S, hS⟩ : ∃ S, S = clkT (a % 86400) := ⟨_, rfl⟩
  have s8 : S.size = 8 := by rw [hS]; exact clkT_size _
  obtain ⟨k, hk⟩ : ∃ k : Nat, x % 8 = (k : Int) := ⟨(x % 8).toNat, by omega⟩
  have hk8 : k < 8 := by omega
  obtain ⟨Z, hZ⟩ : ∃ Z, S.extract 0 k ++ ⟨#[UInt8.ofNat c.toNat]⟩ ++ S.extract (k + 1) 8 = Z := ⟨_, rfl⟩
  have zs : Z.size ≤ maxLen := by rw [← hZ]; exact spoil_le S _ _ _ s8
  have law : clkB Z = false ∨ (clkB Z = true ∧ ((clkN Z == a % 86400) = (c == bt S k))) := by
    have h := spoil_law (a % 86400) (by omega) (by omega) k hk8 (UInt8.ofNat c.toNat)
    rw [← hS, byte_bt c ⟨c0, c1⟩] at h
    rw [← hZ]
    exact h
  have hg := bt_get S k (by omega)
  rw [hg] at law
  clear hg
  have HS := Lib.hid hS
  have LAW := Lib.hid law
  clear hS law
  have t1 : ((k : Int) + 1).toNat = k + 1 := by omega
  have t2 : IntKind.i64.wrap ((k : Int) + 1) = (k : Int) + 1 := IntWalk.i64_in _ (by omega)
  have j1 : ¬ 9223372036854775807 < min k 8 + 1 := by omega
  have j2 : ¬ 9223372036854775807 < min k 8 + 1 + (7 - k) := by omega
  have i1 : (k : Int) ≤ 8 := by omega
  have i2 : (k : Int) + 1 ≤ 8 := by omega
  have i3 : 0 ≤ (k : Int) + 1 := by omega
  have i4 : (k : Int) < 8 := by omega
  go_enter Try.func7, Try.ntmps7
  go_wp2_with fail
  refine (known_any _).mono ?_
  rintro e w0 ⟨rfl, h0⟩
  go_wp2_with fail
  refine (print_any _ _).mono ?_
  rintro e w1 ⟨rfl, h1⟩
  rw [← HS.out]
  go_wp2_with fail
  go_region_with (go_at_call 16; refine (parse_any _ _ zs).mono ?_; rintro e w2 ⟨rfl, h2⟩)
  have hG : Gr w w2 := h0.trans (h1.trans (((Gr.refl _).alloc _).drew.trans h2))
  clear h0 h1 h2 hc1 hZ
  rcases LAW.out with hB | ⟨hB, hE⟩
  · clear LAW
    rw [hB]
    go_wp2_with fail
    go_simp
    go_quiet ((go_at_call 24; exact Calls.quiet_of_same (mod_same _ _)))
    go_wp2_with fail
    go_ret
    exact ⟨rfl, hG.drewN _⟩
  · have HE := Lib.hid hE
    clear LAW hE
    rw [hB]
    go_wp2_with fail
    go_simp
    go_quiet ((go_at_call 24; exact Calls.quiet_of_same (mod_same _ _)))
    go_wp2_with fail
    go_ret
    refine ⟨ret_bool ?_, hG.drewN _⟩
    simp [HE.out]
end Go.Proofs.Ytiblkcbehcpjbaa
