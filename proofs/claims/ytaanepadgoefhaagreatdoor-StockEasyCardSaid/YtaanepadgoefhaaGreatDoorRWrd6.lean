/- Digits. -/
import Derived.Test.YtaanepadgoefhaaGreatDoorB3
import Derived.Test.YtaanepadgoefhaaGreatDoorShelf
import Derived.Test.YtaanepadgoefhaaGreatDoorRDgsP
import Derived.Deep.RegionWith
namespace Go.Proofs.YtaanepadgoefhaaGreatDoor
open Go.ChangeShapes Go.WideShapes Go.ChangeAt Go.RowKit
set_option linter.unusedVariables false
set_option linter.unusedSimpArgs false

theorem Gr.grow {a w : World} (h : Gr a w) (os : Array Obj) : Gr a (Go.Sort.grow w os) :=
  Gr.trans h ⟨rfl, rfl, rfl, by simp [Go.Sort.grow], fun k hk => by
    show (w.heap ++ os)[k]? = _
    rw [Array.getElem?_append_left hk]⟩

theorem digits_word (n : Int) (hn : (Lit.int .i64 n).wf = true) (w : World) (ht : Tabs w) :
    Calls Tryz.prog 102 #[.int .i64 n] w fun e w' => e = .returned (.string (dgs n)) ∧ Gr w w' := by
  have hb : -9223372036854775808 ≤ n ∧ n ≤ 9223372036854775807 := by simpa [Lit.wf, IntKind.min, IntKind.max, IntKind.signed, IntKind.bits] using hn
  have hc := Tryz.strconv_Itoa n hb.1 hb.2 w ht.pow
  have HC := Lib.hid hc
  clear hc hb
  go_enter Tryz.func102, Tryz.ntmps102
  go_wp2_with fail
  refine HC.out.mono ?_
  rintro e w1 ⟨rfl, k, os, rfl⟩
  have hg : Gr w (Go.Sort.grow (w.drewN k) os) := ((Gr.refl w).drewN k).grow os
  go_wp2_with fail
  go_ret
  exact ⟨rfl, hg⟩

theorem gcell' {a w : World} (h : Gr a w) : ∀ b o, b < a.heap.size → w.cell? ⟨b, o, none⟩ = a.cell? ⟨b, o, none⟩ := fun b o hb => Gr.cell h b o hb

set_option maxHeartbeats 1000000 in
theorem refDigits_any (k : Nat) : ∀ (n : Int) (w : World), n.natAbs ≤ k → -9223372036854775808 ≤ n → n ≤ 9223372036854775807 →
    Calls Tryz.prog 104 #[.int .i64 n] w fun e w' => e = .returned (.string (dgs n)) ∧ Gr w w' := by
  induction k with
  | zero =>
    intro n w hk _ _
    obtain rfl : n = 0 := by omega
    have hc1 := fun (wx : World) g (hg : wx.cell? ⟨g, 0, none⟩ = some (.int .u8 48)) => conv1_cell (P := Tryz.prog) 160 9 5 Tryz.underlying160 Tryz.underlying5 Tryz.underlying9 48 (by omega) wx g hg
    go_enter Tryz.func104, Tryz.ntmps104
    go_wp2_with fail
    go_ret
    exact ⟨ret_str (by rw [itoa_small (by omega) (by omega)]; rfl), (Gr.refl _).alloc _⟩
  | succ k ih =>
    intro n w hk hlo hhi
    rcases Int.lt_or_le n 0 with hn | hn
    · by_cases hs : -10 < n
      · have e := tmod_nsmall hn hs
        have hc1 := fun (wx : World) g (hg : wx.cell? ⟨g, 0, none⟩ = some (.int .u8 (48 + -n))) => conv1_cell (P := Tryz.prog) 160 9 5 Tryz.underlying160 Tryz.underlying5 Tryz.underlying9 (48 + -n) (by omega) wx g hg
        clear ih hlo hhi
        go_enter Tryz.func104, Tryz.ntmps104
        go_wp2_with fail
        go_ret
        exact ⟨ret_str (itoa_nsmall hn hs).symm, (Gr.refl _).alloc _⟩
      · have hq := tdiv_neg_bd (n := n) (by omega)
        obtain ⟨hq1, hq2⟩ := hq
        have HE := Lib.hid (itoa_nbig (n := n) (by omega))
        have IH := Lib.hid (fun wx => ih (n.tdiv 10) wx (by omega) (by omega) (by omega))
        have hc1 := fun (wx : World) g (hg : wx.cell? ⟨g, 0, none⟩ = some (.int .u8 (48 + -(n.tmod 10)))) => conv1_cell (P := Tryz.prog) 160 9 5 Tryz.underlying160 Tryz.underlying5 Tryz.underlying9 (48 + -(n.tmod 10)) (by omega) wx g hg
        have r1 : n.tmod 10 ≤ 0 := by omega
        have r2 : -9 ≤ n.tmod 10 := by omega
        have q1 : IntKind.i64.wrap (48 + -(n.tmod 10)) = 48 + -(n.tmod 10) := IntWalk.i64_in _ (by omega)
        have q3 : IntKind.i64.wrap (n.tdiv 10) = n.tdiv 10 := IntWalk.i64_in _ (by omega)
        have q4 : IntKind.u8.wrap (48 + -(n.tmod 10)) = 48 + -(n.tmod 10) := IntWalk.u8_in _ (by omega)
        have q5 : ¬ 9223372036854775807 < (dgs (n.tdiv 10)).size + 1 := by have := dgs_len (n.tdiv 10); omega
        clear ih hlo hhi hq1 hq2
        go_enter Tryz.func104, Tryz.ntmps104
        go_wp2_with fail
        go_region_with (go_at_call 104; (with_reducible refine (IH.out _).mono ?_); rintro e w2 ⟨rfl, h2⟩; have hcc := gcell' h2)
        all_goals go_simp
        all_goals go_wp2_with fail
        all_goals go_ret
        all_goals refine ⟨ret_str HE.out.symm, ?_⟩
        all_goals first | exact ((Gr.refl w).drew.trans h2).alloc _ | exact ((Gr.refl w).alloc _).drew.trans h2
    · by_cases hs : n < 10
      · have hc1 := fun (wx : World) g (hg : wx.cell? ⟨g, 0, none⟩ = some (.int .u8 (48 + n % 10))) => conv1_cell (P := Tryz.prog) 160 9 5 Tryz.underlying160 Tryz.underlying5 Tryz.underlying9 (48 + n % 10) (by omega) wx g hg
        clear ih hlo hhi
        go_enter Tryz.func104, Tryz.ntmps104
        go_wp2_with fail
        go_ret
        refine ⟨ret_str ?_, (Gr.refl _).alloc _⟩
        rw [itoa_small hn hs, show n % 10 = n from by omega]
        apply ByteArray.ext
        simp
      · have IH := Lib.hid (fun wx => ih (n / 10) wx (by omega) (by omega) (by omega))
        have HE := Lib.hid (itoa_big (n := n) (by omega))
        have hc1 := fun (wx : World) g (hg : wx.cell? ⟨g, 0, none⟩ = some (.int .u8 (48 + n % 10))) => conv1_cell (P := Tryz.prog) 160 9 5 Tryz.underlying160 Tryz.underlying5 Tryz.underlying9 (48 + n % 10) (by omega) wx g hg
        have q1 : IntKind.i64.wrap (48 + n % 10) = 48 + n % 10 := IntWalk.i64_in _ (by omega)
        have q2 : n.tdiv 10 = n / 10 := Int.tdiv_eq_ediv_of_nonneg hn
        have q3 : IntKind.i64.wrap (n / 10) = n / 10 := IntWalk.i64_in _ (by omega)
        have q5 : ¬ 9223372036854775807 < (dgs (n / 10)).size + 1 := by have := dgs_len (n / 10); omega
        have q4 : IntKind.u8.wrap (48 + n % 10) = 48 + n % 10 := IntWalk.u8_in _ (by omega)
        clear ih hlo hhi
        go_enter Tryz.func104, Tryz.ntmps104
        go_wp2_with fail
        go_region_with (go_at_call 104; (with_reducible refine (IH.out _).mono ?_); rintro e w2 ⟨rfl, h2⟩; have hcc := gcell' h2)
        all_goals go_simp
        all_goals go_wp2_with fail
        all_goals go_ret
        all_goals refine ⟨ret_str HE.out.symm, ?_⟩
        all_goals first | exact ((Gr.refl w).drew.trans h2).alloc _ | exact ((Gr.refl w).alloc _).drew.trans h2
end Go.Proofs.YtaanepadgoefhaaGreatDoor
