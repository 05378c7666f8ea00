/- Wrd6: Digits.
StL: stock.line, Print; the reference's Line, Print.
Wrd5: word.Words.
StR: half.Numbers, half.Stock, stock.read; the reference's Row.
StS: half.Stock, stock.read; the reference's Row.
StU: The reference's Row.
Wrd1: Lines and words: the document's Lines. -/
import Derived.Test.YtjblplflgiibdaaDoorB15
import Derived.Test.YtjblplflgiibdaaDoorShelf
import Derived.Test.YtjblplflgiibdaaDoorB14
import Derived.Deep.RegionWith
import Derived.Test.YtjblplflgiibdaaDoorRows
import Derived.Test.YtjblplflgiibdaaDoorB13
import Derived.Deep.Cut
import Derived.Deep.WholeRow
import Derived.Test.YtjblplflgiibdaaDoorB12
import Derived.Deep.LoopGhost
import Derived.WalkMore
import Derived.Test.YtjblplflgiibdaaDoorB9
import Derived.Test.YtjblplflgiibdaaDoorB3
import Derived.Test.YtjblplflgiibdaaDoorB4
import Derived.Deep.RegionHeld3
import Derived.Test.YtjblplflgiibdaaDoorB2
namespace Go.Proofs.YtjblplflgiibdaaDoor
open Go.ChangeShapes Go.WideShapes Go.ChangeAt Go.RowKit
set_option linter.unusedVariables false
set_option linter.unusedSimpArgs false

theorem Gr.grow {a w : World} (h : Gr a w) (os : Array Obj) : Gr a (Go.Sort.grow w os) :=
  Gr.trans h ⟨rfl, rfl, rfl, by simp [Go.Sort.grow], fun k hk => by
    show (w.heap ++ os)[k]? = _
    rw [Array.getElem?_append_left hk]⟩
theorem digits_word (n : Int) (hn : (Lit.int .i64 n).wf = true) (w : World) (ht : Tabs w) :
    Calls Tryd.prog 18 #[.int .i64 n] w fun e w' => e = .returned (.string (dgs n)) ∧ Gr w w' := by
  have hb : -9223372036854775808 ≤ n ∧ n ≤ 9223372036854775807 := by simpa [Lit.wf, IntKind.min, IntKind.max, IntKind.signed, IntKind.bits] using hn
  have hc := Tryd.strconv_Itoa n hb.1 hb.2 w ht.pow
  have HC := Lib.hid hc
  clear hc hb
  go_enter Tryd.func18, Tryd.ntmps18
  go_wp2_with fail
  refine HC.out.mono ?_
  rintro e w1 ⟨rfl, k, os, rfl⟩
  have hg : Gr w (Go.Sort.grow (w.drewN k) os) := ((Gr.refl w).drewN k).grow os
  go_wp2_with fail
  go_ret
  exact ⟨rfl, hg⟩
theorem gcell' {a w : World} (h : Gr a w) : ∀ b o, b < a.heap.size → w.cell? ⟨b, o, none⟩ = a.cell? ⟨b, o, none⟩ := fun b o hb => Gr.cell h b o hb
set_option maxHeartbeats 1000000 in
theorem refDigits_any (k : Nat) : ∀ (n : Int) (w : World), n.natAbs ≤ k → -9223372036854775808 ≤ n → n ≤ 9223372036854775807 →
    Calls Tryd.prog 19 #[.int .i64 n] w fun e w' => e = .returned (.string (dgs n)) ∧ Gr w w' := by
  induction k with
  | zero =>
    intro n w hk _ _
    obtain rfl : n = 0 := by omega
    have hc1 := fun (wx : World) g (hg : wx.cell? ⟨g, 0, none⟩ = some (.int .u8 48)) => conv1_cell (P := Tryd.prog) 72 9 5 Tryd.underlying72 Tryd.underlying5 Tryd.underlying9 48 (by omega) wx g hg
    go_enter Tryd.func19, Tryd.ntmps19
    go_wp2_with fail
    go_ret
    exact ⟨ret_str (by rw [itoa_small (by omega) (by omega)]; rfl), (Gr.refl _).alloc _⟩
  | succ k ih =>
    intro n w hk hlo hhi
    rcases Int.lt_or_le n 0 with hn | hn
    · by_cases hs : -10 < n
      · have e := tmod_nsmall hn hs
        have hc1 := fun (wx : World) g (hg : wx.cell? ⟨g, 0, none⟩ = some (.int .u8 (48 + -n))) => conv1_cell (P := Tryd.prog) 72 9 5 Tryd.underlying72 Tryd.underlying5 Tryd.underlying9 (48 + -n) (by omega) wx g hg
        clear ih hlo hhi
        go_enter Tryd.func19, Tryd.ntmps19
        go_wp2_with fail
        go_ret
        exact ⟨ret_str (itoa_nsmall hn hs).symm, (Gr.refl _).alloc _⟩
      · have hq := tdiv_neg_bd (n := n) (by omega)
        obtain ⟨hq1, hq2⟩ := hq
        have HE := Lib.hid (itoa_nbig (n := n) (by omega))
        have IH := Lib.hid (fun wx => ih (n.tdiv 10) wx (by omega) (by omega) (by omega))
        have hc1 := fun (wx : World) g (hg : wx.cell? ⟨g, 0, none⟩ = some (.int .u8 (48 + -(n.tmod 10)))) => conv1_cell (P := Tryd.prog) 72 9 5 Tryd.underlying72 Tryd.underlying5 Tryd.underlying9 (48 + -(n.tmod 10)) (by omega) wx g hg
        have r1 : n.tmod 10 ≤ 0 := by omega
        have r2 : -9 ≤ n.tmod 10 := by omega
        have q1 : IntKind.i64.wrap (48 + -(n.tmod 10)) = 48 + -(n.tmod 10) := IntWalk.i64_in _ (by omega)
        have q3 : IntKind.i64.wrap (n.tdiv 10) = n.tdiv 10 := IntWalk.i64_in _ (by omega)
        have q4 : IntKind.u8.wrap (48 + -(n.tmod 10)) = 48 + -(n.tmod 10) := IntWalk.u8_in _ (by omega)
        have q5 : ¬ 9223372036854775807 < (dgs (n.tdiv 10)).size + 1 := by have := dgs_len (n.tdiv 10); omega
        clear ih hlo hhi hq1 hq2
        go_enter Tryd.func19, Tryd.ntmps19
        go_wp2_with fail
        go_region_with (go_at_call 19; (with_reducible refine (IH.out _).mono ?_); rintro e w2 ⟨rfl, h2⟩; have hcc := gcell' h2)
        all_goals go_simp
        all_goals go_wp2_with fail
        all_goals go_ret
        all_goals refine ⟨ret_str HE.out.symm, ?_⟩
        all_goals first | exact ((Gr.refl w).drew.trans h2).alloc _ | exact ((Gr.refl w).alloc _).drew.trans h2
    · by_cases hs : n < 10
      · have hc1 := fun (wx : World) g (hg : wx.cell? ⟨g, 0, none⟩ = some (.int .u8 (48 + n % 10))) => conv1_cell (P := Tryd.prog) 72 9 5 Tryd.underlying72 Tryd.underlying5 Tryd.underlying9 (48 + n % 10) (by omega) wx g hg
        clear ih hlo hhi
        go_enter Tryd.func19, Tryd.ntmps19
        go_wp2_with fail
        go_ret
        refine ⟨ret_str ?_, (Gr.refl _).alloc _⟩
        rw [itoa_small hn hs, show n % 10 = n from by omega]
        apply ByteArray.ext
        simp
      · have IH := Lib.hid (fun wx => ih (n / 10) wx (by omega) (by omega) (by omega))
        have HE := Lib.hid (itoa_big (n := n) (by omega))
        have hc1 := fun (wx : World) g (hg : wx.cell? ⟨g, 0, none⟩ = some (.int .u8 (48 + n % 10))) => conv1_cell (P := Tryd.prog) 72 9 5 Tryd.underlying72 Tryd.underlying5 Tryd.underlying9 (48 + n % 10) (by omega) wx g hg
        have q1 : IntKind.i64.wrap (48 + n % 10) = 48 + n % 10 := IntWalk.i64_in _ (by omega)
        have q2 : n.tdiv 10 = n / 10 := Int.tdiv_eq_ediv_of_nonneg hn
        have q3 : IntKind.i64.wrap (n / 10) = n / 10 := IntWalk.i64_in _ (by omega)
        have q5 : ¬ 9223372036854775807 < (dgs (n / 10)).size + 1 := by have := dgs_len (n / 10); omega
        have q4 : IntKind.u8.wrap (48 + n % 10) = 48 + n % 10 := IntWalk.u8_in _ (by omega)
        clear ih hlo hhi
        go_enter Tryd.func19, Tryd.ntmps19
        go_wp2_with fail
        go_region_with (go_at_call 19; (with_reducible refine (IH.out _).mono ?_); rintro e w2 ⟨rfl, h2⟩; have hcc := gcell' h2)
        all_goals go_simp
        all_goals go_wp2_with fail
        all_goals go_ret
        all_goals refine ⟨ret_str HE.out.symm, ?_⟩
        all_goals first | exact ((Gr.refl w).drew.trans h2).alloc _ | exact ((Gr.refl w).alloc _).drew.trans h2
end Go.Proofs.YtjblplflgiibdaaDoor
namespace Go.Proofs.YtjblplflgiibdaaDoor
open Go.ChangeShapes Go.WideShapes Go.ChangeAt Go.RowKit Go.Maps
set_option linter.unusedVariables false
set_option linter.unusedSimpArgs false
theorem digits_of {n : Int} {w : World} (ht : Tabs w) (h0 : 0 ≤ n) (h1 : n ≤ 9999) (w' : World) (g : Gr w w') : Calls Tryd.prog 18 #[.int .i64 n] w' fun e w'' => e = .returned (.string (dgs n)) ∧ Gr w' w'' :=
  digits_word n (I64_of (by omega) (by omega)) w' (ht.gr g)
theorem own_ne {w : World} {B : Nat} {e : TypeId} {sz n : Nat} {v : Value} {xs : List Value} (h : w.ownsRow B e sz v n xs) {b : Nat} {cs : Array Value} {e' : TypeId} (hb : w.heap[b]? = some (.cells cs e')) (hne : e' ≠ e) : some b ≠ v.ownBlock := by
  intro hk
  rcases h.2 with ⟨rfl, _⟩ | ⟨g, cap, cur, rfl, _, hh, _⟩
  · cases hk
  · simp only [Value.ownBlock, Option.some.injEq] at hk
    subst hk
    rw [hb] at hh
    simp only [Option.some.injEq, Obj.cells.injEq] at hh
    exact hne hh.2.1
end Go.Proofs.YtjblplflgiibdaaDoor
namespace Go.Proofs.YtjblplflgiibdaaDoor
open Go.ChangeShapes Go.WideShapes Go.ChangeAt Go.RowKit
set_option linter.unusedVariables false
set_option linter.unusedSimpArgs false

theorem vals_row (w : World) (L : List ByteArray) (n : Nat) (h : L.length = n) (hm : L.length ≤ maxLen) :
    IsVals (w.alloc (.cells (L.map Value.string).toArray 9)) (.slice (some ⟨w.heap.size, 0, none⟩) n n) (L.map Value.string) := by
  subst h
  refine ⟨some ⟨w.heap.size, 0, none⟩, L.length, by simp, by simpa using hm, .inr ⟨w.heap.size, 0, rfl, by simp, ?_⟩⟩
  intro i x hx
  rw [World.cell?_alloc_mark]
  simpa using hx
theorem split_any (s : ByteArray) (w : World) (h : w.ShapedOpen Tryd.prog) (hs : s.size ≤ 1048576) :
    Calls Tryd.prog 61 #[.string s, .string blank] w fun e w' => e = .returned (.slice (some ⟨w.heap.size, 0, none⟩) (pcs s).length (pcs s).length) ∧ w' = w.alloc (.cells ((pcs s).map Value.string).toArray 9) := by
  have := Tryd.strings_Split_shaped s blank w h (by omega) (by rw [blank_size]; omega)
  rw [pcs_split, ← pcs_len] at this
  exact this
theorem toList_nil5 {s : ByteArray} : (s.toList = []) ↔ s.size = 0 := by
  rw [ByteArray.toList_eq]
  have hl : s.data.toList.length = s.size := by simp
  rw [← hl, List.length_eq_zero_iff]
theorem bad_none {s : ByteArray} {k : Nat} (hk : k < (pcs s).length) (h : okB (pcs s)[k] = false) : wdB s = none := by
  rw [wdB_pcs, if_neg]
  intro ha
  rw [List.all_eq_true] at ha
  rw [ha _ (List.getElem_mem hk)] at h
  cases h
theorem good_some {s : ByteArray} (h : ∀ (k : Nat) (hk : k < (pcs s).length), okB (pcs s)[k] = true) : wdB s = some (pcs s) := by
  rw [wdB_pcs, if_pos]
  rw [List.all_eq_true]
  intro x hx
  obtain ⟨k, hk, rfl⟩ := List.mem_iff_getElem.1 hx
  exact h k hk
theorem okB_no {x : ByteArray} (h : ¬ (0 < x.size ∧ ∀ (i : Nat) (h : i < x.size), 33 ≤ ((x[i]).toNat : Int) ∧ ((x[i]).toNat : Int) ≤ 126)) : okB x = false := by
  cases hq : okB x with
  | false => rfl
  | true => exact absurd ((okB_iff x).1 hq) h
set_option maxRecDepth 100000 in
set_option maxHeartbeats 1000000 in
theorem words_cap (s : ByteArray) (hs : s.size ≤ 1048576) (w : World) (ht : w.ShapedOpen Tryd.prog) :
    Calls Tryd.prog 46 #[.string s] w (RetWc w (wdB s)) := by
  have hsp := split_any s w ht hs
  have hlen : (pcs s).length ≤ 1048577 := by
    rw [pcs_len]
    have := Lib.countB_le blank (by rw [blank_size]; omega) s.size s (Nat.le_refl _)
    omega
  have hv := vals_row w (pcs s) (pcs s).length rfl (by unfold maxLen; omega)
  have hg : Gr w (w.alloc (.cells ((pcs s).map Value.string).toArray 9)) := (Gr.refl _).alloc _
  obtain ⟨P, hP⟩ : ∃ P, P = pcs s := ⟨_, rfl⟩
  obtain ⟨w1, hw1⟩ : ∃ w1, w1 = w.alloc (.cells ((pcs s).map Value.string).toArray 9) := ⟨_, rfl⟩
  rw [← hw1] at hsp hv hg
  rw [← hP] at hsp hv hlen
  have HB : Hid (∀ (k : Nat) (hk : k < P.length), okB P[k] = false → wdB s = none) := by
    subst hP; exact fun k hk h => bad_none hk h
  have HG : Hid ((∀ (k : Nat) (hk : k < P.length), okB P[k] = true) → wdB s = some P) := by
    subst hP; exact fun h => good_some h
  have HM : Hid (∀ (k : Nat) (hk : k < P.length), P[k].size ≤ s.size) := by
    subst hP; exact fun k hk => pcs_size (List.getElem_mem hk)
  have HS := Lib.hid hsp
  have HV := Lib.hid hv
  clear hP hw1 hsp hv
  go_enter Tryd.func46, Tryd.ntmps46
  go_wp2_with fail
  go_step3
  go_wp2_with fail
  refine HS.out.mono ?_
  rintro e w2 ⟨rfl, rfl⟩
  go_wp2_with fail
  go_step3
  go_wp2_with fail
  go_loopg [6, 7, 12] P.length (fun gh _ _ x12 wx => ∃ k : Nat, k + gh = P.length ∧ x12 = .int .i64 k ∧ Hid (∀ (j : Nat) (hj : j < P.length), j < k → okB P[j] = true) ∧ w2 = wx)
  case atStart => exact ⟨0, by omega, rfl, fun j hj h => by omega, rfl⟩
  case round =>
    obtain ⟨k, hkg, rfl, HA, rfl⟩ := hrel
    have HKG := Lib.hid hkg
    clear hkg
    by_cases hlt : k < P.length
    · obtain ⟨bb, oo, eb, zlt, cx⟩ := vals_at HV.out k hlt
      simp only [Option.some.injEq, Addr.mk.injEq, and_true] at eb
      obtain ⟨rfl, rfl⟩ := eb
      rw [Nat.zero_add] at cx
      have hbad := HB.out k hlt
      have hmx := HM.out k hlt
      have HI := Lib.hid (okB_iff P[k])
      have HA' : Hid (okB P[k] = true → ∀ (j : Nat) (hj : j < P.length), j < k + 1 → okB P[j] = true) := by
        intro h j hj hj2
        by_cases e : j = k
        · subst e; exact h
        · exact HA.out j hj (by omega)
      obtain ⟨x, hx⟩ : ∃ x, x = P[k] := ⟨_, rfl⟩
      rw [← hx] at cx hbad HI HA' hmx
      have HBAD := Lib.hid hbad
      clear hx hbad HA
      have k1 : (k : Int) < (P.length : Int) := by omega
      by_cases h0 : x.size = 0
      · have hz : x.toList.isEmpty = true := by rw [List.isEmpty_iff]; exact toList_nil5.2 h0
        have HN := Lib.hid (HBAD.out (okB_no (fun h => by omega)))
        clear h0 HI HA' HBAD
        go_wp2
        try rw [Exit.noGoto_ret]
        go_ret2
        exact RetWc.no HN.out hg
      · have hz : x.toList.isEmpty = false := by
          cases hq : x.toList.isEmpty with
          | false => rfl
          | true => exact absurd (toList_nil5.1 (List.isEmpty_iff.1 hq)) h0
        have hx0 : 0 < x.size := by omega
        clear h0
        go_wp2_with fail
        go_loopg [7, 24, 35] x.size (fun g2 x7 _ _ wy => ∃ j : Nat, j + g2 = x.size ∧ x7 = .int .i64 j ∧ j < x.size ∧ Hid (∀ (i : Nat) (h : i < x.size), i < j → 33 ≤ ((x[i]).toNat : Int) ∧ ((x[i]).toNat : Int) ≤ 126) ∧ w2 = wy)
        case atStart => exact ⟨0, by omega, rfl, hx0, fun i h h2 => by omega, rfl⟩
        case round =>
          obtain ⟨j, hjg, rfl, hj, HJ, rfl⟩ := hrel
          have HJG := Lib.hid hjg
          clear hjg
          have j1 : (j : Int) < (x.size : Int) := by omega
          by_cases hw : 33 ≤ ((x[j]).toNat : Int) ∧ ((x[j]).toNat : Int) ≤ 126
          · have HJ' : Hid (∀ (i : Nat) (h : i < x.size), i < j + 1 → 33 ≤ ((x[i]).toNat : Int) ∧ ((x[i]).toNat : Int) ≤ 126) := by
              intro i h h2
              by_cases e : i = j
              · subst e; exact hw
              · exact HJ.out i h (by omega)
            obtain ⟨hw1, hw2⟩ := hw
            clear HJ
            by_cases hl : j + 1 = x.size
            · have t1 : ((j : Int) == (x.size : Int) - 1) = true := by simp; omega
              have HN : Hid (∀ (j : Nat) (hj : j < P.length), j < k + 1 → okB P[j] = true) := HA'.out (HI.out.2 ⟨hx0, fun i h => HJ'.out i h (by omega)⟩)
              clear hl HJ' HI
              go_wp2
              go_roundg (P.length - (k + 1))
              case measure => have := HKG.out; omega
              case rel => exact ⟨k + 1, by have := HKG.out; omega, by go_num, HN.out, rfl⟩
            · have t1 : ((j : Int) == (x.size : Int) - 1) = false := by simp; omega
              have hl2 : j + 1 < x.size := by omega
              clear hl
              go_wp2
              go_roundg (x.size - (j + 1))
              case measure => have := HJG.out; omega
              case rel => exact ⟨j + 1, by have := HJG.out; omega, by go_num, hl2, HJ'.out, rfl⟩
          · have HN := Lib.hid (HBAD.out (okB_no (fun h => hw (h.2 j hj))))
            have hw' : ¬ 33 ≤ ((x[j]).toNat : Int) ∨ ¬ ((x[j]).toNat : Int) ≤ 126 := by
              rcases Classical.em (33 ≤ ((x[j]).toNat : Int)) with h | h
              · right; intro h2; exact hw ⟨h, h2⟩
              · exact .inl h
            clear hw HJ HI HA' HBAD
            rcases hw' with hw' | hw'
            all_goals
              go_wp2
              all_goals try rw [Exit.noGoto_ret]
              all_goals go_ret2
              all_goals exact RetWc.no HN.out hg
    · have HN := Lib.hid (HG.out fun j hj => HA.out j hj (by omega))
      clear HA
      go_wp2
      try rw [Exit.noGoto_ret]
      go_ret2
      exact RetWc.yes HN.out HV.out (fun a n c e => by cases e; exact Nat.le_refl _) hg
end Go.Proofs.YtjblplflgiibdaaDoor
namespace Go.Proofs.YtjblplflgiibdaaDoor
open Go.ChangeShapes Go.WideShapes Go.ChangeAt Go.RowKit Go.Maps
set_option linter.unusedVariables false
set_option linter.unusedSimpArgs false
def nums (l : List ByteArray) : Option (List Int) := if l.all (fun x => numB x 4) then some (l.map fun x => numN x 4) else none
def RetNm (w : World) (o : Option (List Int)) (e : Ending) (w' : World) : Prop :=
  ∃ v, e = .returned (.tuple #[v, .bool o.isSome]) ∧ IsVals w' v ((o.getD []).map (Value.int .i64)) ∧ Gr w w'
theorem RetNm.no {w w' : World} {o : Option (List Int)} (h : o = none) (g : Gr w w') : RetNm w o (.returned (.tuple #[.slice none 0 0, .bool false])) w' := by
  subst h; exact ⟨_, rfl, ⟨none, 0, rfl, by simp, .inl rfl⟩, g⟩
theorem RetNm.yes {w w' : World} {o : Option (List Int)} {L : List Int} {v : Value} (h : o = some L) (hv : IsVals w' v (L.map (Value.int .i64))) (g : Gr w w') : RetNm w o (.returned (.tuple #[v, .bool true])) w' := by
  subst h; exact ⟨_, rfl, hv, g⟩
end Go.Proofs.YtjblplflgiibdaaDoor
namespace Go.Proofs.YtjblplflgiibdaaDoor
open Go.ChangeShapes Go.WideShapes Go.ChangeAt Go.RowKit Go.Maps
set_option linter.unusedVariables false
set_option linter.unusedSimpArgs false
end Go.Proofs.YtjblplflgiibdaaDoor
namespace Go.Proofs.YtjblplflgiibdaaDoor
open Go.ChangeShapes Go.WideShapes Go.ChangeAt Go.RowKit Go.Maps
set_option linter.unusedVariables false
set_option linter.unusedSimpArgs false
structure RowW (w wr : World) (m0 m1 m2 m3 : Int) : Prop where
  gr : Gr w wr
  lt : w.heap.size + 1 < wr.heap.size
  k0 : wr.cell? ⟨w.heap.size, 0, none⟩ = some (.string ⟨#[]⟩)
  k1 : wr.cell? ⟨w.heap.size, 1, none⟩ = some (.int .i64 0)
  k2 : wr.cell? ⟨w.heap.size, 2, none⟩ = some (.int .i64 0)
  k3 : wr.cell? ⟨w.heap.size, 3, none⟩ = some (.int .i64 0)
  k4 : wr.cell? ⟨w.heap.size, 4, none⟩ = some (.int .i64 0)
  f0 : wr.frozen? ⟨w.heap.size, 0, none⟩ = false
  f1 : wr.frozen? ⟨w.heap.size, 1, none⟩ = false
  f2 : wr.frozen? ⟨w.heap.size, 2, none⟩ = false
  f3 : wr.frozen? ⟨w.heap.size, 3, none⟩ = false
  f4 : wr.frozen? ⟨w.heap.size, 4, none⟩ = false
  m0 : wr.cell? ⟨w.heap.size + 1, 0, none⟩ = some (.int .i64 m0)
  m1 : wr.cell? ⟨w.heap.size + 1, 1, none⟩ = some (.int .i64 m1)
  m2 : wr.cell? ⟨w.heap.size + 1, 2, none⟩ = some (.int .i64 m2)
  m3 : wr.cell? ⟨w.heap.size + 1, 3, none⟩ = some (.int .i64 m3)
  e0 : wr.frozen? ⟨w.heap.size + 1, 0, none⟩ = false
  e1 : wr.frozen? ⟨w.heap.size + 1, 1, none⟩ = false
  e2 : wr.frozen? ⟨w.heap.size + 1, 2, none⟩ = false
  e3 : wr.frozen? ⟨w.heap.size + 1, 3, none⟩ = false
theorem RowW.put {w wr : World} {m0 m1 m2 m3 : Int} (h : RowW w wr m0 m1 m2 m3) (k : Nat) (n : Int) :
    RowW w (wr.setCell ⟨w.heap.size + 1, k, none⟩ (.int .i64 n)) (if k = 0 then n else m0) (if k = 1 then n else m1) (if k = 2 then n else m2) (if k = 3 then n else m3) := by
  have ne : ∀ j, (⟨w.heap.size + 1, k, none⟩ : Addr) ≠ ⟨w.heap.size, j, none⟩ := fun j e => by simp at e
  have key : ∀ (j : Nat) (m : Int), wr.cell? ⟨w.heap.size + 1, j, none⟩ = some (.int .i64 m) → (wr.setCell ⟨w.heap.size + 1, k, none⟩ (.int .i64 n)).cell? ⟨w.heap.size + 1, j, none⟩ = some (.int .i64 (if k = j then n else m)) := fun j m hj => by
    by_cases e : k = j
    · subst e; rw [if_pos rfl]; exact World.cell?_setCell_same _ _ _ hj
    · rw [if_neg e]; exact (World.cell?_setCell_other _ _ _ _ (fun e2 => e (by injection e2))).trans hj
  exact ⟨h.gr.setCell (Nat.le_succ _) _, (by simpa using h.lt), (World.cell?_setCell_other _ _ _ _ (ne 0)).trans h.k0, (World.cell?_setCell_other _ _ _ _ (ne 1)).trans h.k1, (World.cell?_setCell_other _ _ _ _ (ne 2)).trans h.k2, (World.cell?_setCell_other _ _ _ _ (ne 3)).trans h.k3, (World.cell?_setCell_other _ _ _ _ (ne 4)).trans h.k4,
    by simpa using h.f0, by simpa using h.f1, by simpa using h.f2, by simpa using h.f3, by simpa using h.f4, key 0 _ h.m0, key 1 _ h.m1, key 2 _ h.m2, key 3 _ h.m3, by simpa using h.e0, by simpa using h.e1, by simpa using h.e2, by simpa using h.e3⟩
end Go.Proofs.YtjblplflgiibdaaDoor
namespace Go.Proofs.YtjblplflgiibdaaDoor
open Go.ChangeShapes Go.WideShapes Go.ChangeAt Go.RowKit
set_option linter.unusedVariables false
set_option linter.unusedSimpArgs false

end Go.Proofs.YtjblplflgiibdaaDoor
