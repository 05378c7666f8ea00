/- What one more law needs of texts whose other parts lie in the bundles. -/
import Derived.Test.YtjblplflgiibdaaGreatDoorB8
import Derived.Lib.ItoaNum
import Derived.Test.YtjblplflgiibdaaGreatDoorB1
import Derived.WalkKit
import Derived.ProofKit
import Derived.OpenShut
import Derived.ShutString
import Derived.IntWalk
import Derived.Outline
import Derived.WalkSpells
import Derived.WalkLawsBesides
import Derived.Deep.QuietTactic
import Derived.BigQuiet
import Derived.Laws.IdiomStrings
import Derived.Lib.Hide
import Derived.Below
import Derived.WalkSmall
import Derived.Test.YtjblplflgiibdaaGreatDoorB9
import Derived.Test.YtjblplflgiibdaaGreatDoorShelf
import Derived.Deep.RegionWith
namespace Go.Proofs.YtjblplflgiibdaaGreatDoor
open Go.ChangeShapes Go.WideShapes Go.ChangeAt Go.RowKit
set_option linter.unusedVariables false
set_option linter.unusedSimpArgs false
theorem itoa_nsmall {n : Int} (h0 : n < 0) (h1 : -10 < n) : dgs n = ⟨#[45]⟩ ++ ⟨#[UInt8.ofNat (48 + -n).toNat]⟩ := by
  unfold dgs Lib.itoa
  rw [if_pos h0, Lib.decDigits, dif_pos (by omega)]
  rw [show (48 + -n).toNat = 48 + n.natAbs from by omega]
  apply ByteArray.ext
  simp
theorem itoa_nbig {n : Int} (h : n ≤ -10) : dgs n = dgs (n.tdiv 10) ++ ⟨#[UInt8.ofNat (48 + -(n.tmod 10)).toNat]⟩ := by
  have e1 : n.tdiv 10 = -((-n) / 10) := by
    have : n = -(-n) := by omega
    rw [this, Int.neg_tdiv, Int.tdiv_eq_ediv_of_nonneg (by omega)]
    omega
  have e2 : n.tmod 10 = -((-n) % 10) := by
    have : n = -(-n) := by omega
    rw [this, Int.neg_tmod, Int.tmod_eq_emod_of_nonneg (by omega)]
    omega
  rw [e1, e2]
  unfold dgs Lib.itoa
  rw [if_pos (by omega), if_pos (by omega), Lib.decDigits, dif_neg (by omega)]
  rw [show (48 + - -((-n) % 10)).toNat = 48 + n.natAbs % 10 from by omega, show (-((-n) / 10)).natAbs = n.natAbs / 10 from by omega]
  apply ByteArray.ext
  simp
theorem tdiv_neg_bd {n : Int} (h : n ≤ -10) : n.tdiv 10 = -((-n) / 10) ∧ n.tmod 10 = -((-n) % 10) := by
  constructor
  · have : n = -(-n) := by omega
    rw [this, Int.neg_tdiv, Int.tdiv_eq_ediv_of_nonneg (by omega)]
    omega
  · have : n = -(-n) := by omega
    rw [this, Int.neg_tmod, Int.tmod_eq_emod_of_nonneg (by omega)]
    omega
theorem tmod_nsmall {n : Int} (h0 : n < 0) (h1 : -10 < n) : n.tmod 10 = n := by
  have : n = -(-n) := by omega
  rw [this, Int.neg_tmod, Int.tmod_eq_emod_of_nonneg (by omega)]
  omega
theorem decDigits_len : ∀ (k u : Nat), u ≤ k → (Lib.decDigits u).length ≤ u + 1
  | 0, u, h => by
    obtain rfl : u = 0 := by omega
    rw [Lib.decDigits, dif_pos (by omega)]; simp
  | k + 1, u, h => by
    rw [Lib.decDigits]
    split
    · simp
    · have := decDigits_len k (u / 10) (by omega)
      simp; omega
theorem dgs_len (n : Int) : (dgs n).size ≤ n.natAbs + 2 := by
  unfold dgs Lib.itoa
  have h1 := decDigits_len n.natAbs n.natAbs (Nat.le_refl _)
  have h2 := decDigits_len n.toNat n.toNat (Nat.le_refl _)
  show ((if n < 0 then 45 :: Lib.decDigits n.natAbs else Lib.decDigits n.toNat).toArray).size ≤ _
  split
  · simp; omega
  · simp; omega
theorem conv1_cell {P : Program} (src dst e : TypeId) (hs : P.underlying src = some (.slice e)) (he : P.underlying e = some (.int .u8)) (hd : P.underlying dst = some .string) (a : Int) (ha : 0 ≤ a ∧ a ≤ 255) (w : World) (g : Nat) (hc : w.cell? ⟨g, 0, none⟩ = some (.int .u8 a)) :
    (convert src dst (.slice (some ⟨g, 0, none⟩) 1 1)).run P w = .ok (.string ⟨#[UInt8.ofNat a.toNat]⟩) w := by
  have := run_convert_bytes_back (P := P) w src dst e ⟨g, 0, none⟩ 1 [UInt8.ofNat a.toNat] hs he hd (by
    intro j hj
    match j, hj with
    | 0, _ => rw [show (⟨g, 0, none⟩ : Addr).add 0 = ⟨g, 0, none⟩ from rfl, hc]; simp; omega)
  simpa using this
theorem gcell' {a w : World} (h : Gr a w) : ∀ b o, b < a.heap.size → w.cell? ⟨b, o, none⟩ = a.cell? ⟨b, o, none⟩ := fun b o hb => Gr.cell h b o hb
set_option maxHeartbeats 1000000 in
theorem refDigits_any (k : Nat) : ∀ (n : Int) (w : World), n.natAbs ≤ k → -9223372036854775808 ≤ n → n ≤ 9223372036854775807 →
    Calls Tryz.prog 33 #[.int .i64 n] w fun e w' => e = .returned (.string (dgs n)) ∧ Gr w w' := by
  induction k with
  | zero =>
    intro n w hk _ _
    obtain rfl : n = 0 := by omega
    have hc1 := fun (wx : World) g (hg : wx.cell? ⟨g, 0, none⟩ = some (.int .u8 48)) => conv1_cell (P := Tryz.prog) 37 9 5 Tryz.underlying37 Tryz.underlying5 Tryz.underlying9 48 (by omega) wx g hg
    go_enter Tryz.func33, Tryz.ntmps33
    go_wp2_with fail
    go_ret
    exact ⟨ret_str (by rw [itoa_small (by omega) (by omega)]; rfl), (Gr.refl _).alloc _⟩
  | succ k ih =>
    intro n w hk hlo hhi
    rcases Int.lt_or_le n 0 with hn | hn
    · by_cases hs : -10 < n
      · have e := tmod_nsmall hn hs
        have hc1 := fun (wx : World) g (hg : wx.cell? ⟨g, 0, none⟩ = some (.int .u8 (48 + -n))) => conv1_cell (P := Tryz.prog) 37 9 5 Tryz.underlying37 Tryz.underlying5 Tryz.underlying9 (48 + -n) (by omega) wx g hg
        clear ih hlo hhi
        go_enter Tryz.func33, Tryz.ntmps33
        go_wp2_with fail
        go_ret
        exact ⟨ret_str (itoa_nsmall hn hs).symm, (Gr.refl _).alloc _⟩
      · have hq := tdiv_neg_bd (n := n) (by omega)
        obtain ⟨hq1, hq2⟩ := hq
        have HE := Lib.hid (itoa_nbig (n := n) (by omega))
        have IH := Lib.hid (fun wx => ih (n.tdiv 10) wx (by omega) (by omega) (by omega))
        have hc1 := fun (wx : World) g (hg : wx.cell? ⟨g, 0, none⟩ = some (.int .u8 (48 + -(n.tmod 10)))) => conv1_cell (P := Tryz.prog) 37 9 5 Tryz.underlying37 Tryz.underlying5 Tryz.underlying9 (48 + -(n.tmod 10)) (by omega) wx g hg
        have r1 : n.tmod 10 ≤ 0 := by omega
        have r2 : -9 ≤ n.tmod 10 := by omega
        have q1 : IntKind.i64.wrap (48 + -(n.tmod 10)) = 48 + -(n.tmod 10) := IntWalk.i64_in _ (by omega)
        have q3 : IntKind.i64.wrap (n.tdiv 10) = n.tdiv 10 := IntWalk.i64_in _ (by omega)
        have q4 : IntKind.u8.wrap (48 + -(n.tmod 10)) = 48 + -(n.tmod 10) := IntWalk.u8_in _ (by omega)
        have q5 : ¬ 9223372036854775807 < (dgs (n.tdiv 10)).size + 1 := by have := dgs_len (n.tdiv 10); omega
        clear ih hlo hhi hq1 hq2
        go_enter Tryz.func33, Tryz.ntmps33
        go_wp2_with fail
        go_region_with (go_at_call 33; (with_reducible refine (IH.out _).mono ?_); rintro e w2 ⟨rfl, h2⟩; have hcc := gcell' h2)
        all_goals go_simp
        all_goals go_wp2_with fail
        all_goals go_ret
        all_goals refine ⟨ret_str HE.out.symm, ?_⟩
        all_goals first | exact ((Gr.refl w).drew.trans h2).alloc _ | exact ((Gr.refl w).alloc _).drew.trans h2
    · by_cases hs : n < 10
      · have hc1 := fun (wx : World) g (hg : wx.cell? ⟨g, 0, none⟩ = some (.int .u8 (48 + n % 10))) => conv1_cell (P := Tryz.prog) 37 9 5 Tryz.underlying37 Tryz.underlying5 Tryz.underlying9 (48 + n % 10) (by omega) wx g hg
        clear ih hlo hhi
        go_enter Tryz.func33, Tryz.ntmps33
        go_wp2_with fail
        go_ret
        refine ⟨ret_str ?_, (Gr.refl _).alloc _⟩
        rw [itoa_small hn hs, show n % 10 = n from by omega]
        apply ByteArray.ext
        simp
      · have IH := Lib.hid (fun wx => ih (n / 10) wx (by omega) (by omega) (by omega))
        have HE := Lib.hid (itoa_big (n := n) (by omega))
        have hc1 := fun (wx : World) g (hg : wx.cell? ⟨g, 0, none⟩ = some (.int .u8 (48 + n % 10))) => conv1_cell (P := Tryz.prog) 37 9 5 Tryz.underlying37 Tryz.underlying5 Tryz.underlying9 (48 + n % 10) (by omega) wx g hg
        have q1 : IntKind.i64.wrap (48 + n % 10) = 48 + n % 10 := IntWalk.i64_in _ (by omega)
        have q2 : n.tdiv 10 = n / 10 := Int.tdiv_eq_ediv_of_nonneg hn
        have q3 : IntKind.i64.wrap (n / 10) = n / 10 := IntWalk.i64_in _ (by omega)
        have q5 : ¬ 9223372036854775807 < (dgs (n / 10)).size + 1 := by have := dgs_len (n / 10); omega
        have q4 : IntKind.u8.wrap (48 + n % 10) = 48 + n % 10 := IntWalk.u8_in _ (by omega)
        clear ih hlo hhi
        go_enter Tryz.func33, Tryz.ntmps33
        go_wp2_with fail
        go_region_with (go_at_call 33; (with_reducible refine (IH.out _).mono ?_); rintro e w2 ⟨rfl, h2⟩; have hcc := gcell' h2)
        all_goals go_simp
        all_goals go_wp2_with fail
        all_goals go_ret
        all_goals refine ⟨ret_str HE.out.symm, ?_⟩
        all_goals first | exact ((Gr.refl w).drew.trans h2).alloc _ | exact ((Gr.refl w).alloc _).drew.trans h2
end Go.Proofs.YtjblplflgiibdaaGreatDoor
