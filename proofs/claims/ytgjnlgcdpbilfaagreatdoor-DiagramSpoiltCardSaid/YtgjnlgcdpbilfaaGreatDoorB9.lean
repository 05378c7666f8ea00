/- StY: The reference's plain and Check; stock.Check.
Wrd6: Digits.
StL: stock.line, Print; the reference's Line, Print.
DgM: The reader of timetables: what its box and its rows hold. No walk.
DgW: Lines of a timetable: sizes of what they tell. Plain.
DgX: The reader's lines: what the walks need of words, and of what a line's contract says.
DgZ: The reader's lines: the ends: what the box holds behind the append and the store. No walk. -/
import Derived.Test.YtgjnlgcdpbilfaaGreatDoorRows
import Derived.Test.YtgjnlgcdpbilfaaGreatDoorB7
import Derived.Test.YtgjnlgcdpbilfaaGreatDoorB8
import Derived.Test.YtgjnlgcdpbilfaaGreatDoorShelf
import Derived.Test.YtgjnlgcdpbilfaaGreatDoorB1
import Derived.Deep.RegionWith
import Derived.Test.YtgjnlgcdpbilfaaGreatDoorB6
import Derived.Deep.Cut
import Derived.Deep.WholeRow
import Derived.Test.YtgjnlgcdpbilfaaGreatDoorB2
import Derived.Deep.AppendLies
namespace Go.Proofs.YtgjnlgcdpbilfaaGreatDoor
open Go.ChangeShapes Go.WideShapes Go.ChangeAt Go.RowKit Go.Maps
set_option linter.unusedVariables false
set_option linter.unusedSimpArgs false
theorem twice_find {L : List Stk} : twiceB (L.map (·.nm)) = false ↔ ∀ i (hi : i < L.length), findN L L[i].nm = i := by
  constructor
  · intro h i hi
    refine fstN_go _ hi (by simp) fun k hk hki => ?_
    rw [decide_eq_false_iff_not]
    intro e
    rw [twiceS_yes hi hki e] at h; cases h
  · intro h
    refine twiceS_no fun i k hi hk e => ?_
    have h1 := h i hi
    have h2 := h k (by omega)
    rw [e] at h2
    omega
theorem plain_twice {L : List Stk} (h4 : ¬ 4 < L.length) (hm : ∀ i (hi : i < L.length), mayS L[i] = true) {k : Nat} (hk : k < L.length) (h : findN L L[k].nm ≠ k) : plainE L = 4 := by
  unfold plainE
  rw [if_neg h4, allS_good hm, if_neg (by decide)]
  cases ht : twiceB (L.map (·.nm))
  · exact absurd (twice_find.1 ht k hk) h
  · rw [if_pos rfl]
theorem plain_none {L : List Stk} (h4 : ¬ 4 < L.length) (hm : ∀ i (hi : i < L.length), mayS L[i] = true) (h : ∀ i (hi : i < L.length), findN L L[i].nm = i) : plainE L = 0 := by
  unfold plainE
  rw [if_neg h4, allS_good hm, if_neg (by decide), twice_find.2 h, if_neg (by decide)]
set_option maxRecDepth 100000 in
set_option maxHeartbeats 2000000 in
theorem plain_any (v : Value) (L : List Stk) (w : World) (hL : IsStks w v L) (hok : ∀ s ∈ L, s.nm.size ≤ maxLen) :
    Calls Tryz.prog 59 #[v] w fun e w' => e = .returned (.int .i64 (plainE L)) ∧ Gr w w' := by
  have HL := Lib.hid hL
  obtain ⟨a, c, rfl, hm, hc⟩ := hL.form
  unfold maxLen at hm
  have HOK := Lib.hid hok
  clear hL hok
  by_cases h4 : 4 < L.length
  · have h4' : 4 < (L.length : Int) := by omega
    have HR : Hid (plainE L = 3) := by show _ = _; unfold plainE; rw [if_pos h4]
    go_enter Tryz.func59, Tryz.ntmps59
    go_wp2_with fail
    go_ret
    exact ⟨ret_int HR.out.symm, Gr.refl _⟩
  have h4' : ¬ 4 < (L.length : Int) := by omega
  have HF := Lib.hid (fun (n : ByteArray) (w' : World) (g : Gr w w') => refFindS_any _ L n w' (HL.out.gr g))
  go_enter Tryz.func59, Tryz.ntmps59
  go_wp2_with fail
  go_loopw [12] (fun y wr => ∃ (k : Nat), y = .int .i64 k ∧ k ≤ L.length ∧ Gr w wr ∧ Hid (∀ i (hi : i < L.length), i < k → mayS L[i] = true)) (fun y _ => L.length - (intOf y).toNat)
  case atStart => exact ⟨0, rfl, Nat.zero_le _, Gr.refl _, fun i _ h => by omega⟩
  case round =>
    obtain ⟨k, rfl, hk, g, HA⟩ := hrel
    by_cases hlt : k < L.length
    · have hk1 : (k : Int) < (L.length : Int) := by omega
      obtain ⟨bb, o, hs, z, y0, y1, y2, y3, y4⟩ := (HL.out.gr g).at k hlt
      subst hs
      have hsz := HOK.out _ (List.getElem_mem hlt)
      have HM := Lib.hid (fun w' => may_any L[k].nm L[k].l L[k].t L[k].a L[k].b hsz w')
      have HN1 : Hid (mayS L[k] = false → plainE L = 1) := fun h => plain_arg h4 hlt h
      have HA2 : Hid (mayS L[k] = true → ∀ i (hi : i < L.length), i < k + 1 → mayS L[i] = true) := fun h i hi hik => by
        by_cases e : i = k
        · subst e; exact h
        · exact HA.out i hi (by omega)
      have e : mayS L[k] = mayB L[k].nm L[k].l L[k].t L[k].a L[k].b := rfl
      rw [← e] at HM
      clear e HA
      generalize hmq : mayS L[k] = q at HM HN1 HA2
      clear hmq
      generalize hL0 : L[k] = s at y0 y1 y2 y3 y4 HM hsz
      clear hL0
      obtain ⟨nm, l, t, a', b⟩ := s
      dsimp only at y0 y1 y2 y3 y4 HM
      cases q
      · have HR := Lib.hid (HN1.out rfl)
        clear HN1 HA2
        go_wp2_with (first | (go_at_call 93; (with_reducible refine (HM.out _).mono ?_); rintro e w2 ⟨rfl, g2⟩) | fail)
        go_ret
        exact ⟨ret_int HR.out.symm, (g.alloc _).trans g2⟩
      · have HA3 := Lib.hid (HA2.out rfl)
        clear HN1 HA2
        go_wp2_with (first | (go_at_call 93; (with_reducible refine (HM.out _).mono ?_); rintro e w2 ⟨rfl, g2⟩) | fail)
        go_roundw
        case rel => exact ⟨k + 1, by go_num, hlt, (g.alloc _).trans g2, HA3.out⟩
        case measure => simp [intOf]; omega
    · have hk1 : ¬ (k : Int) < (L.length : Int) := by omega
      have HMA : Hid (∀ i (hi : i < L.length), mayS L[i] = true) := fun i hi => HA.out i hi (by omega)
      go_wp2_with fail
      go_loopw [5, 22] (fun _ y w3 => ∃ (k : Nat), y = .int .i64 k ∧ k ≤ L.length ∧ Gr w w3 ∧ Hid (∀ i (hi : i < L.length), i < k → findN L L[i].nm = i)) (fun _ y _ => L.length - (intOf y).toNat)
      case atStart => exact ⟨0, rfl, Nat.zero_le _, g, fun i _ h => by omega⟩
      case round =>
        clear HA hlt hk1 hk g
        obtain ⟨k, rfl, hk, g, HA⟩ := hrel
        rename_i w3
        by_cases hlt : k < L.length
        · have hk1 : (k : Int) < (L.length : Int) := by omega
          obtain ⟨bb, o, hs, z, y0, y1, y2, y3, y4⟩ := (HL.out.gr g).at k hlt
          subst hs
          have HFk := Lib.hid (HF.out L[k].nm)
          have HN1 : Hid (findN L L[k].nm ≠ k → plainE L = 4) := fun h => plain_twice h4 HMA.out hlt h
          have HA2 : Hid (findN L L[k].nm = k → ∀ i (hi : i < L.length), i < k + 1 → findN L L[i].nm = i) := fun h i hi hik => by
            by_cases e : i = k
            · subst e; exact h
            · exact HA.out i hi (by omega)
          clear HA
          generalize findN L L[k].nm = q at HFk HN1 HA2
          generalize hL0 : L[k] = s at y0 y1 y2 y3 y4 HFk
          clear hL0
          obtain ⟨nm, l, t, a', b⟩ := s
          dsimp only at y0 y1 y2 y3 y4 HFk
          by_cases hq : q = k
          · have HA3 := Lib.hid (HA2.out hq)
            have tq : (q != (k : Int)) = false := bneF hq
            clear HN1 HA2 hq
            go_wp2_with (first | (go_at_call 89; (with_reducible refine (HFk.out _ (g.alloc _)).mono ?_); rintro e w2 ⟨rfl, g2⟩) | fail)
            go_roundw
            case rel => exact ⟨k + 1, by go_num, hlt, (g.alloc _).trans g2, HA3.out⟩
            case measure => simp [intOf]; omega
          · have HR := Lib.hid (HN1.out hq)
            have tq : (q != (k : Int)) = true := bneT hq
            clear HN1 HA2 hq
            go_wp2_with (first | (go_at_call 89; (with_reducible refine (HFk.out _ (g.alloc _)).mono ?_); rintro e w2 ⟨rfl, g2⟩) | fail)
            go_ret
            exact ⟨ret_int HR.out.symm, (g.alloc _).trans g2⟩
        · have hk1 : ¬ (k : Int) < (L.length : Int) := by omega
          have HR := Lib.hid (plain_none h4 HMA.out fun i hi => HA.out i hi (by omega))
          go_wp2_with fail
          go_ret
          exact ⟨ret_int HR.out.symm, g⟩
end Go.Proofs.YtgjnlgcdpbilfaaGreatDoor
namespace Go.Proofs.YtgjnlgcdpbilfaaGreatDoor
open Go.ChangeShapes Go.WideShapes Go.ChangeAt Go.RowKit
set_option linter.unusedVariables false
set_option linter.unusedSimpArgs false

theorem Gr.grow {a w : World} (h : Gr a w) (os : Array Obj) : Gr a (Go.Sort.grow w os) :=
  Gr.trans h ⟨rfl, rfl, rfl, by simp [Go.Sort.grow], fun k hk => by
    show (w.heap ++ os)[k]? = _
    rw [Array.getElem?_append_left hk]⟩
theorem digits_word (n : Int) (hn : (Lit.int .i64 n).wf = true) (w : World) (ht : Tabs w) :
    Calls Tryz.prog 46 #[.int .i64 n] w fun e w' => e = .returned (.string (dgs n)) ∧ Gr w w' := by
  have hb : -9223372036854775808 ≤ n ∧ n ≤ 9223372036854775807 := by simpa [Lit.wf, IntKind.min, IntKind.max, IntKind.signed, IntKind.bits] using hn
  have hc := Tryz.strconv_Itoa n hb.1 hb.2 w ht.pow
  have HC := Lib.hid hc
  clear hc hb
  go_enter Tryz.func46, Tryz.ntmps46
  go_wp2_with fail
  refine HC.out.mono ?_
  rintro e w1 ⟨rfl, k, os, rfl⟩
  have hg : Gr w (Go.Sort.grow (w.drewN k) os) := ((Gr.refl w).drewN k).grow os
  go_wp2_with fail
  go_ret
  exact ⟨rfl, hg⟩
theorem gcell' {a w : World} (h : Gr a w) : ∀ b o, b < a.heap.size → w.cell? ⟨b, o, none⟩ = a.cell? ⟨b, o, none⟩ := fun b o hb => Gr.cell h b o hb
set_option maxHeartbeats 1000000 in
theorem refDigits_any (k : Nat) : ∀ (n : Int) (w : World), n.natAbs ≤ k → -9223372036854775808 ≤ n → n ≤ 9223372036854775807 →
    Calls Tryz.prog 50 #[.int .i64 n] w fun e w' => e = .returned (.string (dgs n)) ∧ Gr w w' := by
  induction k with
  | zero =>
    intro n w hk _ _
    obtain rfl : n = 0 := by omega
    have hc1 := fun (wx : World) g (hg : wx.cell? ⟨g, 0, none⟩ = some (.int .u8 48)) => conv1_cell (P := Tryz.prog) 46 9 5 Tryz.underlying46 Tryz.underlying5 Tryz.underlying9 48 (by omega) wx g hg
    go_enter Tryz.func50, Tryz.ntmps50
    go_wp2_with fail
    go_ret
    exact ⟨ret_str (by rw [itoa_small (by omega) (by omega)]; rfl), (Gr.refl _).alloc _⟩
  | succ k ih =>
    intro n w hk hlo hhi
    rcases Int.lt_or_le n 0 with hn | hn
    · by_cases hs : -10 < n
      · have e := tmod_nsmall hn hs
        have hc1 := fun (wx : World) g (hg : wx.cell? ⟨g, 0, none⟩ = some (.int .u8 (48 + -n))) => conv1_cell (P := Tryz.prog) 46 9 5 Tryz.underlying46 Tryz.underlying5 Tryz.underlying9 (48 + -n) (by omega) wx g hg
        clear ih hlo hhi
        go_enter Tryz.func50, Tryz.ntmps50
        go_wp2_with fail
        go_ret
        exact ⟨ret_str (itoa_nsmall hn hs).symm, (Gr.refl _).alloc _⟩
      · have hq := tdiv_neg_bd (n := n) (by omega)
        obtain ⟨hq1, hq2⟩ := hq
        have HE := Lib.hid (itoa_nbig (n := n) (by omega))
        have IH := Lib.hid (fun wx => ih (n.tdiv 10) wx (by omega) (by omega) (by omega))
        have hc1 := fun (wx : World) g (hg : wx.cell? ⟨g, 0, none⟩ = some (.int .u8 (48 + -(n.tmod 10)))) => conv1_cell (P := Tryz.prog) 46 9 5 Tryz.underlying46 Tryz.underlying5 Tryz.underlying9 (48 + -(n.tmod 10)) (by omega) wx g hg
        have r1 : n.tmod 10 ≤ 0 := by omega
        have r2 : -9 ≤ n.tmod 10 := by omega
        have q1 : IntKind.i64.wrap (48 + -(n.tmod 10)) = 48 + -(n.tmod 10) := IntWalk.i64_in _ (by omega)
        have q3 : IntKind.i64.wrap (n.tdiv 10) = n.tdiv 10 := IntWalk.i64_in _ (by omega)
        have q4 : IntKind.u8.wrap (48 + -(n.tmod 10)) = 48 + -(n.tmod 10) := IntWalk.u8_in _ (by omega)
        have q5 : ¬ 9223372036854775807 < (dgs (n.tdiv 10)).size + 1 := by have := dgs_len (n.tdiv 10); omega
        clear ih hlo hhi hq1 hq2
        go_enter Tryz.func50, Tryz.ntmps50
        go_wp2_with fail
        go_region_with (go_at_call 50; (with_reducible refine (IH.out _).mono ?_); rintro e w2 ⟨rfl, h2⟩; have hcc := gcell' h2)
        all_goals go_simp
        all_goals go_wp2_with fail
        all_goals go_ret
        all_goals refine ⟨ret_str HE.out.symm, ?_⟩
        all_goals first | exact ((Gr.refl w).drew.trans h2).alloc _ | exact ((Gr.refl w).alloc _).drew.trans h2
    · by_cases hs : n < 10
      · have hc1 := fun (wx : World) g (hg : wx.cell? ⟨g, 0, none⟩ = some (.int .u8 (48 + n % 10))) => conv1_cell (P := Tryz.prog) 46 9 5 Tryz.underlying46 Tryz.underlying5 Tryz.underlying9 (48 + n % 10) (by omega) wx g hg
        clear ih hlo hhi
        go_enter Tryz.func50, Tryz.ntmps50
        go_wp2_with fail
        go_ret
        refine ⟨ret_str ?_, (Gr.refl _).alloc _⟩
        rw [itoa_small hn hs, show n % 10 = n from by omega]
        apply ByteArray.ext
        simp
      · have IH := Lib.hid (fun wx => ih (n / 10) wx (by omega) (by omega) (by omega))
        have HE := Lib.hid (itoa_big (n := n) (by omega))
        have hc1 := fun (wx : World) g (hg : wx.cell? ⟨g, 0, none⟩ = some (.int .u8 (48 + n % 10))) => conv1_cell (P := Tryz.prog) 46 9 5 Tryz.underlying46 Tryz.underlying5 Tryz.underlying9 (48 + n % 10) (by omega) wx g hg
        have q1 : IntKind.i64.wrap (48 + n % 10) = 48 + n % 10 := IntWalk.i64_in _ (by omega)
        have q2 : n.tdiv 10 = n / 10 := Int.tdiv_eq_ediv_of_nonneg hn
        have q3 : IntKind.i64.wrap (n / 10) = n / 10 := IntWalk.i64_in _ (by omega)
        have q5 : ¬ 9223372036854775807 < (dgs (n / 10)).size + 1 := by have := dgs_len (n / 10); omega
        have q4 : IntKind.u8.wrap (48 + n % 10) = 48 + n % 10 := IntWalk.u8_in _ (by omega)
        clear ih hlo hhi
        go_enter Tryz.func50, Tryz.ntmps50
        go_wp2_with fail
        go_region_with (go_at_call 50; (with_reducible refine (IH.out _).mono ?_); rintro e w2 ⟨rfl, h2⟩; have hcc := gcell' h2)
        all_goals go_simp
        all_goals go_wp2_with fail
        all_goals go_ret
        all_goals refine ⟨ret_str HE.out.symm, ?_⟩
        all_goals first | exact ((Gr.refl w).drew.trans h2).alloc _ | exact ((Gr.refl w).alloc _).drew.trans h2
end Go.Proofs.YtgjnlgcdpbilfaaGreatDoor
namespace Go.Proofs.YtgjnlgcdpbilfaaGreatDoor
open Go.ChangeShapes Go.WideShapes Go.ChangeAt Go.RowKit Go.Maps
set_option linter.unusedVariables false
set_option linter.unusedSimpArgs false
theorem ownS_two {w : World} {x y : ByteArray} {B : Nat} (hB : B ≤ w.heap.size) : OwnS B (w.alloc (.cells #[.string x, .string y] 9)) (.slice (some ⟨w.heap.size, 0, none⟩) 2 2) [x, y] :=
  World.ownsRow_lit w #[.string x, .string y] 2 hB (by unfold maxLen; simp) rfl
theorem digits_of {n : Int} {w : World} (ht : Tabs w) (h0 : 0 ≤ n) (h1 : n ≤ 9999) (w' : World) (g : Gr w w') : Calls Tryz.prog 46 #[.int .i64 n] w' fun e w'' => e = .returned (.string (dgs n)) ∧ Gr w' w'' :=
  digits_word n (I64_of (by omega) (by omega)) w' (ht.gr g)
theorem own_ne {w : World} {B : Nat} {e : TypeId} {sz n : Nat} {v : Value} {xs : List Value} (h : w.ownsRow B e sz v n xs) {b : Nat} {cs : Array Value} {e' : TypeId} (hb : w.heap[b]? = some (.cells cs e')) (hne : e' ≠ e) : some b ≠ v.ownBlock := by
  intro hk
  rcases h.2 with ⟨rfl, _⟩ | ⟨g, cap, cur, rfl, _, hh, _⟩
  · cases hk
  · simp only [Value.ownBlock, Option.some.injEq] at hk
    subst hk
    rw [hb] at hh
    simp only [Option.some.injEq, Obj.cells.injEq] at hh
    exact hne hh.2.1
theorem four_at {w : World} {b : Nat} {l t a c : Int} {T : TypeId} (h : w.heap[b]? = some (.cells #[.int .i64 l, .int .i64 t, .int .i64 a, .int .i64 c] T)) (k : Nat) (hk : k < 4) : w.cell? ⟨b, k, none⟩ = some (.int .i64 ([l, t, a, c][k]'(by simpa using hk))) := by
  have hk' : k = 0 ∨ k = 1 ∨ k = 2 ∨ k = 3 := by omega
  rcases hk' with rfl | rfl | rfl | rfl <;> simp [World.cell?, h]
set_option maxRecDepth 100000 in
set_option maxHeartbeats 2000000 in
theorem stLine_any (nm : ByteArray) (l t a b : Int) (w : World) (ht : Tabs w) (hm : mayS ⟨nm, l, t, a, b⟩ = true) :
    Calls Tryz.prog 75 #[.agg #[.string nm, .int .i64 l, .int .i64 t, .int .i64 a, .int .i64 b]] w fun e w' => e = .returned (.string (lineS ⟨nm, l, t, a, b⟩)) ∧ Gr w w' := by
  obtain ⟨h0, h1, h2, h3, h4⟩ := mayS_parts hm
  have hls := lineS_size hm
  have hw : wordsS ⟨nm, l, t, a, b⟩ = [bStock, nm] ++ [l, t, a, b].map dgs := rfl
  have hln : (⟨(Lib.join (([bStock, nm] ++ [l, t, a, b].map dgs).map (·.data.toList)) [32]).toArray⟩ : ByteArray) = lineS ⟨nm, l, t, a, b⟩ := by unfold lineS; rw [hw]; rfl
  generalize lineS ⟨nm, l, t, a, b⟩ = R at hls hln ⊢
  dsimp only at h0 h1 h2 h3 h4
  have HI : Hid (∀ x ∈ [l, t, a, b], 0 ≤ x ∧ x ≤ 9999) := by
    intro x hx
    simp only [List.mem_cons, List.not_mem_nil, or_false] at hx
    rcases hx with rfl | rfl | rfl | rfl <;> omega
  have HD := Lib.hid (fun (n : Int) (h : 0 ≤ n ∧ n ≤ 9999) (w' : World) (g : Gr w w') => digits_of ht h.1 h.2 w' g)
  have HLN := Lib.hid hln
  clear hw hm hln h0 h1 h2 h3 h4
  have g0 : Gr w (w.alloc (.cells #[.string nm, .int .i64 l, .int .i64 t, .int .i64 a, .int .i64 b] 64)) := (Gr.refl _).alloc _
  go_enter Tryz.func75, Tryz.ntmps75
  go_wp2_with fail
  have hB1 : ((((w.alloc (.cells #[.string nm, .int .i64 l, .int .i64 t, .int .i64 a, .int .i64 b] 64))).alloc (.cells #[.string ⟨#[115, 116, 111, 99, 107]⟩, .string nm] 9)).alloc (.cells #[.int .i64 l, .int .i64 t, .int .i64 a, .int .i64 b] 3)).heap[w.heap.size + 1 + 1]? = some (.cells #[.int .i64 l, .int .i64 t, .int .i64 a, .int .i64 b] 3) := by
    have hs : (((w.alloc (.cells #[.string nm, .int .i64 l, .int .i64 t, .int .i64 a, .int .i64 b] 64))).alloc (.cells #[.string ⟨#[115, 116, 111, 99, 107]⟩, .string nm] 9)).heap.size = w.heap.size + 1 + 1 := by simp
    rw [← hs]
    exact heap_alloc_last _ _
  have hO : OwnS w.heap.size ((((w.alloc (.cells #[.string nm, .int .i64 l, .int .i64 t, .int .i64 a, .int .i64 b] 64))).alloc (.cells #[.string ⟨#[115, 116, 111, 99, 107]⟩, .string nm] 9)).alloc (.cells #[.int .i64 l, .int .i64 t, .int .i64 a, .int .i64 b] 3)) (.slice (some ⟨w.heap.size + 1, 0, none⟩) 2 2) [bStock, nm] := by
    have := ownS_two (w := (w.alloc (.cells #[.string nm, .int .i64 l, .int .i64 t, .int .i64 a, .int .i64 b] 64))) (x := bStock) (y := nm) (B := w.heap.size) (by simp)
    have h2 := own_gr this ((Gr.refl _).alloc (.cells #[.int .i64 l, .int .i64 t, .int .i64 a, .int .i64 b] 3))
    have hs : ((w.alloc (.cells #[.string nm, .int .i64 l, .int .i64 t, .int .i64 a, .int .i64 b] 64))).heap.size = w.heap.size + 1 := by simp
    rw [hs] at h2
    exact h2
  have gW : Gr w ((((w.alloc (.cells #[.string nm, .int .i64 l, .int .i64 t, .int .i64 a, .int .i64 b] 64))).alloc (.cells #[.string ⟨#[115, 116, 111, 99, 107]⟩, .string nm] 9)).alloc (.cells #[.int .i64 l, .int .i64 t, .int .i64 a, .int .i64 b] 3)) := (g0.alloc _).alloc _
  have HW := Lib.hid (And.intro hB1 (And.intro hO gW))
  clear hB1 hO gW
  obtain ⟨i0, hi0, hi1, hi2, hi3⟩ := info_parts Tryz.infoS
  go_loopw [3, 5, 19] (fun v _ x wr => ∃ k : Nat, x = .int .i64 k ∧ k ≤ 4 ∧ Gr w wr ∧ OwnS w.heap.size wr v ([bStock, nm] ++ ([l, t, a, b].take k).map dgs) ∧ wr.heap[w.heap.size + 1 + 1]? = some (.cells #[.int .i64 l, .int .i64 t, .int .i64 a, .int .i64 b] 3)) (fun _ _ x _ => 4 - (intOf x).toNat)
  case atStart => exact ⟨0, rfl, Nat.zero_le _, HW.out.2.2, HW.out.2.1, HW.out.1⟩
  case round =>
    clear HW
    obtain ⟨k, rfl, hk, g, ho, hI⟩ := hrel
    obtain ⟨va, vc, rfl⟩ := own_form ho
    by_cases hlt : k < 4
    · have hk1 : (k : Int) < 4 := by omega
      have y0 := four_at hI k hlt
      have hx := HI.out ([l, t, a, b][k]'(by simpa using hlt)) (List.getElem_mem _)
      have HN : Hid ([bStock, nm] ++ ([l, t, a, b].take (k + 1)).map dgs = ([bStock, nm] ++ ([l, t, a, b].take k).map dgs) ++ [dgs ([l, t, a, b][k]'(by simpa using hlt))]) := by
        show _ = _
        rw [List.take_succ_eq_append_getElem (by simpa using hlt), List.map_append, List.append_assoc]; rfl
      have hll : ([bStock, nm] ++ ([l, t, a, b].take k).map dgs).length ≤ 6 := by simp; omega
      have HDk := Lib.hid (HD.out ([l, t, a, b][k]'(by simpa using hlt)) hx)
      have hzI : w.heap.size + 1 + 1 < wr.heap.size := by
        rcases Nat.lt_or_ge (w.heap.size + 1 + 1) wr.heap.size with h | h
        · exact h
        · rw [Array.getElem?_eq_none h] at hI; cases hI
      have HII := Lib.hid hI
      clear hI
      generalize [bStock, nm] ++ ([l, t, a, b].take k).map dgs = L1 at HN ho hll
      generalize [l, t, a, b][k]'(by simpa using hlt) = x at y0 hx HN HDk
      generalize dgs x = d at HN HDk
      have HO : Hid (wr.ownsRow w.heap.size 9 1 (.slice va L1.length vc) L1.length (L1.map Value.string)) := ho
      clear ho
      go_wp2_with (first | (go_at_call 46; (with_reducible refine (HDk.out _ g).mono ?_); rintro e w3 ⟨rfl, g3⟩; have HOz := Lib.hid (own_gr HO.out g3)) | (at_builtin; refine wpList_append_own _ rfl _ _ 55 rfl w.heap.size 9 i0 (.string ByteArray.empty) 1 16 Tryz.underlying55 hi0 hi1 hi2 hi3 rfl (by decide) _ _ _ rfl (HOz.out.alloc _) ⟨w3.heap.size, 0, none⟩ 1 1 [.string d] rfl rfl ?c1 ?c2 ?c3 ?c4 ?c5 ?_))
      case c1 => exact cell_one_new _ _ _
      case c2 => simp [Value.oneCell']
      case c3 => unfold maxLen; omega
      case c4 => omega
      case c5 => have := (g.trans g3).size; simp; omega
      intro v' w4 hown' hgrow _
      have hg1 : Gr w w4 := Gr.grown ((g.trans g3).alloc _) hgrow HO.out
      have hI3 : (w3.alloc (.cells #[.string d] 9)).heap[w.heap.size + 1 + 1]? = some (.cells #[.int .i64 l, .int .i64 t, .int .i64 a, .int .i64 b] 3) := ((g3.alloc (.cells #[.string d] 9)).block _ hzI).trans HII.out
      have hI4 : w4.heap[w.heap.size + 1 + 1]? = some (.cells #[.int .i64 l, .int .i64 t, .int .i64 a, .int .i64 b] 3) := (hgrow.block _ (Nat.lt_of_lt_of_le hzI (g3.alloc _).size) (own_ne HO.out HII.out (by decide))).trans hI3
      have ho1 := Lib.hid (OwnS.snoc hown')
      rw [← HN.out] at ho1
      have HI4 := Lib.hid hI4
      clear hown' hgrow hI4 hI3
      go_wp2_with fail
      go_roundw
      case rel => exact ⟨k + 1, by go_num, hlt, hg1, ho1.out, HI4.out⟩
      case measure => simp [intOf]; omega
    · have hk1 : ¬ (k : Int) < 4 := by omega
      obtain rfl : k = 4 := by omega
      clear hI
      have e4 : [l, t, a, b].take 4 = [l, t, a, b] := rfl
      rw [e4] at ho ⊢
      have hv := ho.vals (by unfold maxLen; simp)
      have hcp := ho.cap _ _ _ rfl
      obtain ⟨a', c', e', -, hx⟩ := hv
      simp only [Value.slice.injEq] at e'
      obtain ⟨rfl, -, rfl⟩ := e'
      rcases hx with hx | ⟨bb, o, rfl, hbb, hcell⟩
      · cases hx
      have HJ : Hid (Calls Tryz.prog 80 #[.slice (some ⟨bb, o, none⟩) ([bStock, nm] ++ [l, t, a, b].map dgs).length vc, .string ⟨#[32]⟩] wr fun e w' => e = .returned (.string R) ∧ Gr wr w') := by
        have := Tryz.strings_Join bb o vc ([bStock, nm] ++ [l, t, a, b].map dgs) ⟨#[32]⟩ wr (fun j x hj => hcell j _ (by rw [List.getElem?_map, hj]; rfl)) hbb (by simp) hcp (by
          have h1 : (Lib.join (([bStock, nm] ++ [l, t, a, b].map dgs).map (·.data.toList)) [32]).length = R.size := by rw [← HLN.out]; rfl
          show (Lib.join _ [32]).length ≤ _
          rw [h1]; omega)
        rw [← HLN.out]
        exact this
      clear hcell hcp ho e4
      generalize ([bStock, nm] ++ [l, t, a, b].map dgs).length = nl at HJ ⊢
      go_wp2_with (first | (go_at_call 80; (with_reducible refine (HJ.out).mono ?_); rintro e w5 ⟨rfl, g5⟩) | fail)
      go_ret
      exact ⟨rfl, g.trans g5⟩
end Go.Proofs.YtgjnlgcdpbilfaaGreatDoor
namespace Go.Proofs.YtgjnlgcdpbilfaaGreatDoor
open Go.ChangeShapes Go.WideShapes Go.ChangeAt Go.RowKit Go.Maps
set_option linter.unusedVariables false
set_option linter.unusedSimpArgs false
theorem Tryz.infoLg : (Tryz.prog.info? 54).map (fun i => (i.zero, i.size, i.bytes)) = some (some (.agg #[.bool false, .int .i64 0, .int .i64 0, .int .i64 0]), 4, 32) := by kernel_rfl
theorem Tryz.infoRn : (Tryz.prog.info? 51).map (fun i => (i.zero, i.size, i.bytes)) = some (some (.agg #[.string ByteArray.empty, .int .i64 0, .int .i64 0, .int .i64 0, .slice none 0 0]), 5, 64) := by kernel_rfl
def OwnLg (B : Nat) (w : World) (v : Value) (L : List Leg) : Prop := w.ownsRow B 54 4 v L.length (L.flatMap Leg.cs)
def runCs (A : List (Rn × Value)) : List Value := A.flatMap fun x => x.1.cs x.2
def OwnRn (B : Nat) (w : World) (v : Value) (A : List (Rn × Value)) : Prop := w.ownsRow B 51 5 v A.length (runCs A)
theorem OwnLg.nil (B : Nat) (w : World) : OwnLg B w (.slice none 0 0) [] := ⟨rfl, .inl ⟨rfl, rfl⟩⟩
theorem OwnRn.nil (B : Nat) (w : World) : OwnRn B w (.slice none 0 0) [] := ⟨rfl, .inl ⟨rfl, rfl⟩⟩
theorem OwnLg.snoc {B : Nat} {w : World} {v : Value} {L : List Leg} {s : Leg} (h : w.ownsRow B 54 4 v (L.length + 1) (L.flatMap Leg.cs ++ s.cs)) : OwnLg B w v (L ++ [s]) := by
  unfold OwnLg
  simpa using h
theorem OwnRn.snoc {B : Nat} {w : World} {v : Value} {A : List (Rn × Value)} {r : Rn} {u : Value} (h : w.ownsRow B 51 5 v (A.length + 1) (runCs A ++ r.cs u)) : OwnRn B w v (A ++ [(r, u)]) := by
  unfold OwnRn runCs at *
  simpa using h
theorem own_capok {B : Nat} {w : World} {e : TypeId} {sz n : Nat} {v : Value} {xs : List Value} (h : w.ownsRow B e sz v n xs) : CapOk v := by
  intro a m c e
  rcases h.2 with ⟨rfl, h0⟩ | ⟨g, cap, cur, rfl, _, _, hc, _⟩
  · cases e; omega
  · cases e; exact hc
theorem OwnLg.legs {B : Nat} {w : World} {v : Value} {L : List Leg} (h : OwnLg B w v L) (hl : L.length ≤ maxLen) : IsLegs w v L := by
  refine ⟨row_of_own h hl fun i j hi hj => ?_, own_capok h⟩
  rw [flat_get Leg.cs 4 (fun _ => rfl) L i j hi hj]
  rw [getD_at _ _ hi]
  match j, hj with
  | 0, _ => rfl
  | 1, _ => rfl
  | 2, _ => rfl
  | 3, _ => rfl
theorem own_setC {w : World} {B : Nat} {e : TypeId} {sz n : Nat} {v : Value} {xs : List Value} (h : w.ownsRow B e sz v n xs) (a : Addr) (ha : a.block < B) (u : Value) : (w.setCell a u).ownsRow B e sz v n xs := ownsRow_setCell_below h ha u
theorem getD_in {α : Type} (l : List α) (d : α) (i : Nat) (hi : i < l.length) : l.getD i d = l[i] := by
  rw [List.getD_eq_getElem?_getD, List.getElem?_eq_getElem hi]; rfl
theorem own_diff {w : World} {B B' : Nat} {e e' : TypeId} {sz sz' n n' : Nat} {v v' : Value} {xs xs' : List Value} (h : w.ownsRow B e sz v n xs) (h' : w.ownsRow B' e' sz' v' n' xs') (hne : e' ≠ e) : v.ownBlock = none ∨ v.ownBlock ≠ v'.ownBlock := by
  rcases h'.2 with ⟨rfl, _⟩ | ⟨g, cap, cur, rfl, _, hh, _⟩
  · cases v.ownBlock with
    | none => exact .inl rfl
    | some k => exact .inr (by simp [Value.ownBlock])
  · exact .inr (fun e => own_ne h hh hne (by rw [e]; rfl))
def Bx (T : TypeId) (b o : Nat) (w : World) (t : Int) (sv rv : Value) : Prop :=
  (∃ cs, w.heap[b]? = some (.cells cs T)) ∧ w.cell? ⟨b, o, none⟩ = some (.int .i64 t) ∧ w.cell? ⟨b, o + 1, none⟩ = some sv ∧ w.cell? ⟨b, o + 2, none⟩ = some rv
theorem Bx.lt {T : TypeId} {b o : Nat} {w : World} {t : Int} {sv rv : Value} (h : Bx T b o w t sv rv) : b < w.heap.size := World.block_lt_of_cell? w _ h.2.1
theorem Bx.frozen {T : TypeId} {b o : Nat} {w : World} {t : Int} {sv rv : Value} (h : Bx T b o w t sv rv) (j : Nat) : w.frozen? ⟨b, j, none⟩ = false := by
  obtain ⟨⟨cs, hh⟩, -⟩ := h
  exact frozen_of_row w b j cs T hh
theorem Bx.block {T : TypeId} {b o : Nat} {w w' : World} {t : Int} {sv rv : Value} (h : Bx T b o w t sv rv) (hb : w'.heap[b]? = w.heap[b]?) : Bx T b o w' t sv rv := by
  obtain ⟨⟨cs, hh⟩, c0, c1, c2⟩ := h
  exact ⟨⟨cs, hb.trans hh⟩, (World.cell?_of_block (a := ⟨b, o, none⟩) hb).trans c0, (World.cell?_of_block (a := ⟨b, o + 1, none⟩) hb).trans c1, (World.cell?_of_block (a := ⟨b, o + 2, none⟩) hb).trans c2⟩
theorem Bx.gr {T : TypeId} {b o : Nat} {w w' : World} {t : Int} {sv rv : Value} (h : Bx T b o w t sv rv) (g : Gr w w') : Bx T b o w' t sv rv := h.block (g.block b h.lt)
theorem heap_set_same {w : World} {b j : Nat} {u : Value} {T : TypeId} (h : ∃ cs, w.heap[b]? = some (.cells cs T)) : ∃ cs, (w.setCell ⟨b, j, none⟩ u).heap[b]? = some (.cells cs T) := by
  obtain ⟨cs, hh⟩ := h
  exact ⟨_, heap_setCell_same w b j cs T u hh⟩
theorem Bx.set0 {T : TypeId} {b o : Nat} {w : World} {t : Int} {sv rv : Value} (h : Bx T b o w t sv rv) (t' : Int) : Bx T b o (w.setCell ⟨b, o, none⟩ (.int .i64 t')) t' sv rv :=
  ⟨heap_set_same h.1, World.cell?_setCell_same _ _ _ h.2.1, (World.cell?_setCell_other _ _ _ _ (by simp)).trans h.2.2.1, (World.cell?_setCell_other _ _ _ _ (by simp)).trans h.2.2.2⟩
theorem Bx.set1 {T : TypeId} {b o : Nat} {w : World} {t : Int} {sv rv : Value} (h : Bx T b o w t sv rv) (v : Value) : Bx T b o (w.setCell ⟨b, o + 1, none⟩ v) t v rv :=
  ⟨heap_set_same h.1, (World.cell?_setCell_other _ _ _ _ (by simp)).trans h.2.1, World.cell?_setCell_same _ _ _ h.2.2.1, (World.cell?_setCell_other _ _ _ _ (by simp)).trans h.2.2.2⟩
theorem Bx.set2 {T : TypeId} {b o : Nat} {w : World} {t : Int} {sv rv : Value} (h : Bx T b o w t sv rv) (v : Value) : Bx T b o (w.setCell ⟨b, o + 2, none⟩ v) t sv v :=
  ⟨heap_set_same h.1, (World.cell?_setCell_other _ _ _ _ (by simp)).trans h.2.1, (World.cell?_setCell_other _ _ _ _ (by simp)).trans h.2.2.1, World.cell?_setCell_same _ _ _ h.2.2.2⟩
theorem PBox.block {w w' : World} {b : Nat} {P : Pln} {e j s l : Value} (h : PBox w b P e j s l) (hb : w'.heap[b]? = w.heap[b]?) (hz : b < w'.heap.size) : PBox w' b P e j s l := by
  obtain ⟨h0, c0, c1, c2, c3, c4, c5, c6, c7, c8⟩ := h
  have k : ∀ o, w'.cell? ⟨b, o, none⟩ = w.cell? ⟨b, o, none⟩ := fun o => World.cell?_of_block (a := ⟨b, o, none⟩) hb
  exact ⟨hz, (k 0).trans c0, (k 1).trans c1, (k 2).trans c2, (k 3).trans c3, (k 4).trans c4, (k 5).trans c5, (k 6).trans c6, (k 7).trans c7, (k 8).trans c8⟩
theorem PBox.set {w : World} {b : Nat} {P : Pln} {e j s l : Value} (h : PBox w b P e j s l) {a : Addr} (ha : a.block ≠ b ∨ 9 ≤ a.off) (u : Value) : PBox (w.setCell a u) b P e j s l := by
  obtain ⟨h0, c0, c1, c2, c3, c4, c5, c6, c7, c8⟩ := h
  have k : ∀ o, o < 9 → (w.setCell a u).cell? ⟨b, o, none⟩ = w.cell? ⟨b, o, none⟩ := fun o ho => World.cell?_setCell_other _ _ _ _ (by rintro rfl; dsimp only at ha; omega)
  exact ⟨by simpa using h0, (k 0 (by omega)).trans c0, (k 1 (by omega)).trans c1, (k 2 (by omega)).trans c2, (k 3 (by omega)).trans c3, (k 4 (by omega)).trans c4, (k 5 (by omega)).trans c5, (k 6 (by omega)).trans c6, (k 7 (by omega)).trans c7, (k 8 (by omega)).trans c8⟩
def Lgs (B M : Nat) (w : World) (A : List (Rn × Value)) : Prop :=
  A = [] ∨ ∃ A' r v, A = A' ++ [(r, v)] ∧ (∀ x ∈ A', OwnLg B w x.2 x.1.legs ∧ x.1.legs.length ≤ maxLen ∧ ∀ k, x.2.ownBlock = some k → k < M) ∧ OwnLg M w v r.legs ∧ r.legs.length ≤ maxLen
theorem Lgs.all {B M : Nat} {w : World} {A : List (Rn × Value)} (h : Lgs B M w A) (hM : B ≤ M) : ∀ x ∈ A, OwnLg B w x.2 x.1.legs ∧ x.1.legs.length ≤ maxLen ∧ ∀ k, x.2.ownBlock = some k → k < w.heap.size := by
  rcases h with rfl | ⟨A', r, v, rfl, h1, h2, h3⟩
  · intro x hx; cases hx
  · intro x hx
    rcases List.mem_append.1 hx with hx | hx
    · obtain ⟨h4, h5, h6⟩ := h1 x hx
      exact ⟨h4, h5, own_lt h4⟩
    · obtain rfl := List.mem_singleton.1 hx
      exact ⟨own_base_le h2 hM, h3, own_lt h2⟩
theorem Lgs.kept {B M : Nat} {w w' : World} {A : List (Rn × Value)} {row : Option Nat} (h : Lgs B M w A) (hg : w.grownBy w' row) (hne : ∀ (B' : Nat) (v : Value) (L : List Leg), OwnLg B' w v L → v.ownBlock = none ∨ v.ownBlock ≠ row) : Lgs B M w' A := by
  rcases h with rfl | ⟨A', r, v, rfl, h1, h2, h3⟩
  · exact .inl rfl
  · exact .inr ⟨A', r, v, rfl, fun x hx => ⟨(h1 x hx).1.kept hg (hne _ _ _ (h1 x hx).1), (h1 x hx).2⟩, h2.kept hg (hne _ _ _ h2), h3⟩
theorem Lgs.gr {B M : Nat} {w w' : World} {A : List (Rn × Value)} (h : Lgs B M w A) (g : Gr w w') : Lgs B M w' A := by
  rcases h with rfl | ⟨A', r, v, rfl, h1, h2, h3⟩
  · exact .inl rfl
  · exact .inr ⟨A', r, v, rfl, fun x hx => ⟨own_gr (h1 x hx).1 g, (h1 x hx).2⟩, own_gr h2 g, h3⟩
theorem Lgs.set {B M : Nat} {w : World} {A : List (Rn × Value)} (h : Lgs B M w A) (hM : B ≤ M) {a : Addr} (ha : a.block < B) (u : Value) : Lgs B M (w.setCell a u) A := by
  rcases h with rfl | ⟨A', r, v, rfl, h1, h2, h3⟩
  · exact .inl rfl
  · exact .inr ⟨A', r, v, rfl, fun x hx => ⟨own_setC (h1 x hx).1 a ha u, (h1 x hx).2⟩, own_setC h2 a (by omega) u, h3⟩
def Dt (b B : Nat) (w : World) (D : Dgm) (sv rv : Value) : Prop :=
  b < B ∧ ∃ A M, OwnK B w sv D.st ∧ OwnRn B w rv A ∧ Lgs B M w A ∧ A.map Prod.fst = D.runs ∧ M ≤ w.heap.size ∧ B ≤ M
theorem Dt.gr {b B : Nat} {w w' : World} {D : Dgm} {sv rv : Value} (h : Dt b B w D sv rv) (g : Gr w w') : Dt b B w' D sv rv := by
  obtain ⟨hbB, A, M, h1, h2, h3, h4, h5, h6⟩ := h
  exact ⟨hbB, A, M, own_gr h1 g, own_gr h2 g, h3.gr g, h4, Nat.le_trans h5 g.size, h6⟩
theorem Dt.nil {b B : Nat} {w : World} (h : b < B) (hB : B ≤ w.heap.size) : Dt b B w dgm0 (.slice none 0 0) (.slice none 0 0) :=
  ⟨h, [], w.heap.size, OwnK.nil _ _, OwnRn.nil _ _, .inl rfl, rfl, Nat.le_refl _, hB⟩
theorem Dt.set {b B : Nat} {w : World} {D : Dgm} {sv rv : Value} (h : Dt b B w D sv rv) (o : Nat) (u : Value) : Dt b B (w.setCell ⟨b, o, none⟩ u) D sv rv := by
  obtain ⟨hbB, A, M, h1, h2, h3, h4, h5, h6⟩ := h
  exact ⟨hbB, A, M, own_setC h1 _ hbB u, own_setC h2 _ hbB u, h3.set h6 hbB u, h4, by simpa using h5, h6⟩
theorem Dt.beg {b B : Nat} {w : World} {D : Dgm} {sv rv : Value} (h : Dt b B w D sv rv) (t : Int) : Dt b B w { D with beg := t } sv rv := h
def Rd (T : TypeId) (b o B : Nat) (w : World) (D : Dgm) : Prop := ∃ sv rv, Bx T b o w D.beg sv rv ∧ Dt b B w D sv rv
theorem Rd.gr {T : TypeId} {b o B : Nat} {w w' : World} {D : Dgm} (h : Rd T b o B w D) (g : Gr w w') : Rd T b o B w' D := by
  obtain ⟨sv, rv, h1, h2⟩ := h
  exact ⟨sv, rv, h1.gr g, h2.gr g⟩
theorem Rd.day {T : TypeId} {b o B : Nat} {w : World} {D : Dgm} (h : Rd T b o B w D) (t : Int) : Rd T b o B (w.setCell ⟨b, o, none⟩ (.int .i64 t)) { D with beg := t } := by
  obtain ⟨sv, rv, h1, h2⟩ := h
  exact ⟨sv, rv, h1.set0 t, (h2.set _ _).beg t⟩
theorem Rd.stock {T : TypeId} {b o B : Nat} {w w3 : World} {D : Dgm} {sv rv v' : Value} {k : Stk} (hT : T ≠ 64) (h1 : Bx T b o w D.beg sv rv) (h2 : Dt b B w D sv rv) (hg : w.grownBy w3 sv.ownBlock)
    (hown : w3.ownsRow B 64 5 v' (D.st.length + 1) (D.st.flatMap Stk.cs ++ k.cs)) : Rd T b o B (w3.setCell ⟨b, o + 1, none⟩ v') { D with st := D.st ++ [k] } := by
  obtain ⟨hbB, A, M, k1, k2, k3, k4, k5, k6⟩ := h2
  obtain ⟨cs, hh⟩ := h1.1
  have hb := hg.block b h1.lt (own_ne k1 hh hT)
  have d : Dt b B w3 { D with st := D.st ++ [k] } v' rv := ⟨hbB, A, M, OwnK.snoc hown, k2.kept hg (own_diff k2 k1 (by decide)), k3.kept hg fun B' v L h => own_diff h k1 (by decide), k4, Nat.le_trans k5 hg.size, k6⟩
  exact ⟨v', rv, (h1.block hb).set1 v', d.set _ _⟩
theorem Rd.run {T : TypeId} {b o B : Nat} {w w3 : World} {D : Dgm} {sv rv v' : Value} {r : Rn} {A : List (Rn × Value)} {M : Nat} (hT : T ≠ 51) (h1 : Bx T b o w D.beg sv rv) (k1 : OwnK B w sv D.st) (k2 : OwnRn B w rv A) (k3 : Lgs B M w A) (k4 : A.map Prod.fst = D.runs) (k5 : M ≤ w.heap.size) (k6 : B ≤ M) (hbB : b < B) (hg : w.grownBy w3 rv.ownBlock) (hr : r.legs = [])
    (hown : w3.ownsRow B 51 5 v' (A.length + 1) (runCs A ++ r.cs (.slice none 0 0))) : Rd T b o B (w3.setCell ⟨b, o + 2, none⟩ v') { D with runs := D.runs ++ [r] } := by
  obtain ⟨cs, hh⟩ := h1.1
  have hb := hg.block b h1.lt (own_ne k2 hh hT)
  have k3' : Lgs B M w3 A := k3.kept hg fun B' v L h => own_diff h k2 (by decide)
  have d : Dt b B w3 { D with runs := D.runs ++ [r] } sv v' := by
    refine ⟨hbB, A ++ [(r, .slice none 0 0)], w3.heap.size, k1.kept hg (own_diff k1 k2 (by decide)), OwnRn.snoc hown, .inr ⟨A, r, _, rfl, fun x hx => ?_, ?_, ?_⟩, by simp [k4], Nat.le_refl _, Nat.le_trans k6 (Nat.le_trans k5 hg.size)⟩
    · exact k3'.all k6 x hx
    · rw [hr]; exact OwnLg.nil _ _
    · rw [hr]; simp
  exact ⟨sv, v', (h1.block hb).set2 v', d.set _ _⟩
theorem runCs_len (A : List (Rn × Value)) : (runCs A).length = A.length * 5 := by
  unfold runCs
  induction A with
  | nil => rfl
  | cons x t ih => rw [List.flatMap_cons, List.length_append, ih]; show 5 + t.length * 5 = (t.length + 1) * 5; omega
theorem runCs_set (A : List (Rn × Value)) (r : Rn) (u v : Value) (l : List Leg) : (runCs (A ++ [(r, u)])).set (A.length * 5 + 4) v = runCs (A ++ [({ r with legs := l }, v)]) := by
  have h : ∀ (q : Rn) (x : Value), runCs (A ++ [(q, x)]) = runCs A ++ q.cs x := fun q x => by unfold runCs; simp
  rw [h, h, List.set_append_right _ _ (by rw [runCs_len]; omega), runCs_len, show A.length * 5 + 4 - A.length * 5 = 4 from by omega]
  rfl
theorem Rd.leg {T : TypeId} {b o g c B : Nat} {w w3 : World} {D : Dgm} {sv u v' : Value} {r : Rn} {x : Leg} {A : List (Rn × Value)} {M : Nat} (hT : T ≠ 54) (hT2 : T ≠ 51) (h1 : Bx T b o w D.beg sv (.slice (some ⟨g, 0, none⟩) (A.length + 1) c)) (k1 : OwnK B w sv D.st) (k2 : OwnRn B w (.slice (some ⟨g, 0, none⟩) (A.length + 1) c) (A ++ [(r, u)]))
    (k3 : ∀ x ∈ A, OwnLg B w x.2 x.1.legs ∧ x.1.legs.length ≤ maxLen ∧ ∀ k, x.2.ownBlock = some k → k < M) (k7 : OwnLg M w u r.legs) (k8 : r.legs.length + 1 ≤ maxLen) (k4 : (A ++ [(r, u)]).map Prod.fst = D.runs) (k5 : M ≤ w.heap.size) (k6 : B ≤ M) (hbB : b < B) (hg : w.grownBy w3 u.ownBlock)
    (hown : w3.ownsRow M 54 4 v' (r.legs.length + 1) (r.legs.flatMap Leg.cs ++ x.cs)) : Rd T b o B (w3.setCell ⟨g, A.length * 5 + 4, none⟩ v') { D with runs := addLeg D.runs x } := by
  obtain ⟨cs, hh⟩ := h1.1
  have hb := hg.block b h1.lt (own_ne k7 hh hT)
  have j2 : OwnRn B w3 _ _ := k2.kept hg (own_diff k2 k7 (by decide))
  have j1 : OwnK B w3 sv D.st := k1.kept hg (own_diff k1 k7 (by decide))
  have j3 : ∀ x ∈ A, OwnLg B w3 x.2 x.1.legs ∧ x.1.legs.length ≤ maxLen ∧ ∀ k, x.2.ownBlock = some k → k < M := fun x hx => by
    obtain ⟨q1, q2, q3⟩ := k3 x hx
    refine ⟨q1.kept hg ?_, q2, q3⟩
    cases hx2 : x.2.ownBlock with
    | none => exact .inl rfl
    | some k => exact .inr fun e => by have := own_base k7 k e.symm; have := q3 k hx2; omega
  have j7 : OwnLg M w3 v' (r.legs ++ [x]) := OwnLg.snoc hown
  have e2 : (A ++ [(r, u)]).length = A.length + 1 := by simp
  have j2' : w3.ownsRow B 51 5 (.slice (some ⟨g, 0, none⟩) (A.length + 1) c) (A.length + 1) (runCs (A ++ [(r, u)])) := by rw [← e2]; rw [← e2] at j2; exact j2
  obtain ⟨s1, s2⟩ := j2'.stored (A.length * 5 + 4) v'
  rw [runCs_set A r u v' (r.legs ++ [x])] at s1
  obtain ⟨cs3, hh3⟩ := (h1.block hb).1
  have hb2 := s2.block b (h1.block hb).lt (by have := own_ne j2' hh3 hT2; exact this)
  refine ⟨sv, .slice (some ⟨g, 0, none⟩) (A.length + 1) c, (h1.block hb).block hb2, hbB, A ++ [({ r with legs := r.legs ++ [x] }, v')], M, j1.kept s2 (own_diff j1 j2' (by decide)), ?_, .inr ⟨A, { r with legs := r.legs ++ [x] }, v', rfl, fun y hy => ?_, j7.kept s2 (own_diff j7 j2' (by decide)), ?_⟩, ?_, ?_, k6⟩
  · unfold OwnRn
    rw [show (A ++ [(({ r with legs := r.legs ++ [x] } : Rn), v')]).length = A.length + 1 from by simp]
    exact s1
  · exact ⟨(j3 y hy).1.kept s2 (own_diff (j3 y hy).1 j2' (by decide)), (j3 y hy).2⟩
  · simpa using k8
  · rw [← k4, List.map_append, List.map_append]
    exact (addLeg_snoc _ _ _).symm
  · have := hg.size; simp; omega
theorem run_cell {w : World} {B g c : Nat} {A : List (Rn × Value)} {r : Rn} {u : Value} (h : OwnRn B w (.slice (some ⟨g, 0, none⟩) (A.length + 1) c) (A ++ [(r, u)])) : w.cell? ⟨g, A.length * 5 + 4, none⟩ = some u ∧ ∀ j, w.frozen? ⟨g, j, none⟩ = false := by
  have e2 : (A ++ [(r, u)]).length = A.length + 1 := by simp
  have h' : w.ownsRow B 51 5 (.slice (some ⟨g, 0, none⟩) (A.length + 1) c) (A.length + 1) (runCs (A ++ [(r, u)])) := by rw [← e2]; rw [← e2] at h; exact h
  refine ⟨?_, fun j => h'.frozenAt j⟩
  rw [h'.cellAt _ (by omega)]
  have : runCs (A ++ [(r, u)]) = runCs A ++ r.cs u := by unfold runCs; simp
  rw [this, List.getElem?_append_right (by rw [runCs_len]; omega), runCs_len, show A.length * 5 + 4 - A.length * 5 = 4 from by omega]
  rfl
theorem runs_getD (A : List (Rn × Value)) (i : Nat) (hi : i < A.length) : (A.map Prod.fst).getD i default = (A[i]).1 := by
  rw [getD_in _ _ i (by simpa using hi)]; simp
theorem Dt.runs {b B : Nat} {w : World} {D : Dgm} {sv rv : Value} (h : Dt b B w D sv rv) (hn : D.runs.length ≤ maxLen) : IsRuns w rv D.runs := by
  obtain ⟨hbB, A, M, k1, k2, k3, k4, k5, k6⟩ := h
  have hl : A.length = D.runs.length := by rw [← k4]; simp
  refine ⟨⟨fun i => (A.map Prod.snd).getD i (.slice none 0 0), ?_, fun i hi => ?_⟩, own_capok k2⟩
  · rw [← hl]
    refine row_of_own k2 (by omega) fun i j hi hj => ?_
    unfold runCs
    rw [flat_get (fun x : Rn × Value => x.1.cs x.2) 5 (fun _ => rfl) A i j hi hj, ← k4, runs_getD A i hi]
    dsimp only
    rw [getD_in _ _ i (by simpa using hi), List.getElem_map]
    match j, hj with
    | 0, _ => rfl
    | 1, _ => rfl
    | 2, _ => rfl
    | 3, _ => rfl
    | 4, _ => rfl
  · rw [← k4, runs_getD A i (by omega)]
    dsimp only
    rw [getD_in _ _ i (by simp; omega), List.getElem_map]
    obtain ⟨q1, q2, -⟩ := k3.all k6 A[i] (List.getElem_mem _)
    exact OwnLg.legs q1 q2
theorem Dt.stks {b B : Nat} {w : World} {D : Dgm} {sv rv : Value} (h : Dt b B w D sv rv) (hn : D.st.length ≤ maxLen) : IsStks w sv D.st := by
  obtain ⟨hbB, A, M, k1, -⟩ := h
  exact OwnK.stks k1 hn
theorem Dt.dgm {b B : Nat} {w : World} {D : Dgm} {sv rv : Value} (h : Dt b B w D sv rv) (h1 : D.st.length ≤ maxLen) (h2 : D.runs.length ≤ maxLen) : IsDgm w (.agg #[.int .i64 D.beg, sv, rv]) D := IsDgm.of (h.stks h1) (h.runs h2)
end Go.Proofs.YtgjnlgcdpbilfaaGreatDoor
namespace Go.Proofs.YtgjnlgcdpbilfaaGreatDoor
open Go.ChangeShapes Go.WideShapes Go.ChangeAt Go.RowKit Go.Maps
set_option linter.unusedVariables false
set_option linter.unusedSimpArgs false
def SzD (n : Nat) (D : Dgm) : Prop := D.st.length ≤ n ∧ D.runs.length ≤ n ∧ (∀ r ∈ D.runs, r.legs.length ≤ n ∧ r.nm.size ≤ maxLen) ∧ ∀ s ∈ D.st, s.nm.size ≤ maxLen
theorem SzD.zero : SzD 0 dgm0 := ⟨Nat.le_refl _, Nat.le_refl _, (fun r hr => by cases hr), (fun s hs => by cases hs)⟩
theorem addLeg_mem : ∀ (A : List Rn) (x : Leg), ∀ r ∈ addLeg A x, ∃ q ∈ A, r.nm = q.nm ∧ r.legs.length ≤ q.legs.length + 1
  | [], x, r, h => by cases h
  | [a], x, r, h => by
    obtain rfl := List.mem_singleton.1 h
    exact ⟨a, by simp, rfl, by simp⟩
  | a :: b :: t, x, r, h => by
    have h' : r ∈ a :: addLeg (b :: t) x := h
    rcases List.mem_cons.1 h' with rfl | h'
    · exact ⟨r, by simp, rfl, by omega⟩
    · obtain ⟨q, hq, h1, h2⟩ := addLeg_mem (b :: t) x r h'
      exact ⟨q, List.mem_cons_of_mem _ hq, h1, h2⟩
theorem leg3_sz {P : Pln} {D D' : Dgm} {tn : Bool} {v t n : ByteArray} {m : Nat} (h : leg3 P D tn v t n = .inr D') (hz : SzD m D) : SzD (m + 1) D' := by
  unfold leg3 at h
  split at h
  · cases h
  · split at h
    · cases h
    · cases h
      obtain ⟨h1, h2, h3, h4⟩ := hz
      refine ⟨Nat.le_succ_of_le h1, ?_, fun r hr => ?_, h4⟩
      · show (addLeg _ _).length ≤ _
        rw [addLeg_len]; omega
      · obtain ⟨q, hq, e1, e2⟩ := addLeg_mem _ _ r hr
        have := h3 q hq
        rw [e1]; exact ⟨by omega, this.2⟩
theorem legW_sz {P : Pln} {D D' : Dgm} {tn : Bool} {w : List ByteArray} {m : Nat} (h : legW P D tn w = .inr D') (hz : SzD m D) : SzD (m + 1) D' := by
  match w with
  | [v, t, n] => exact leg3_sz h hz
  | [] => cases h
  | [_] => cases h
  | [_, _] => cases h
  | _ :: _ :: _ :: _ :: _ => cases h
theorem train5_sz {P : Pln} {D D' : Dgm} {n k s d : ByteArray} {m : Nat} (h : train5 P D n k s d = .inr D') (hz : SzD m D) (hs : n.size ≤ maxLen) : SzD (m + 1) D' := by
  unfold train5 at h
  split at h
  · split at h
    · cases h
    · cases h
      obtain ⟨h1, h2, h3, h4⟩ := hz
      refine ⟨Nat.le_succ_of_le h1, ?_, fun r hr => ?_, h4⟩
      · simp; omega
      · rcases List.mem_append.1 hr with hr | hr
        · have := h3 r hr; exact ⟨by omega, this.2⟩
        · obtain rfl := List.mem_singleton.1 hr
          exact ⟨by simp, hs⟩
  · cases h
theorem lineW_sz {P : Pln} {D D' : Dgm} {f : Bool} {w : List ByteArray} {m : Nat} (h : lineW P D f w = .inr D') (hz : SzD m D) (hs : ∀ x ∈ w, x.size ≤ maxLen) : SzD (m + 1) D' := by
  cases w with
  | nil => cases h
  | cons a t =>
    unfold lineW at h
    dsimp only at h
    split at h
    · cases h
    split at h
    · obtain ⟨h1, h2, h3, h4⟩ := hz
      match t, h with
      | [x], h =>
        have h : (if clkB x = true then .inr { D with beg := clkN x } else .inl 2 : Int ⊕ Dgm) = .inr D' := h
        split at h
        · cases h
          exact ⟨Nat.le_succ_of_le h1, Nat.le_succ_of_le h2, fun r hr => by have := h3 r hr; exact ⟨by omega, this.2⟩, h4⟩
        · cases h
      | [], h => cases h
      | _ :: _ :: _, h => cases h
    split at h
    · unfold stockW at h
      cases hr : rowS (a :: t) with
      | none => rw [hr] at h; cases h
      | some k =>
        rw [hr] at h
        cases h
        obtain ⟨h1, h2, h3, h4⟩ := hz
        refine ⟨by simp; omega, Nat.le_succ_of_le h2, fun r hr => by have := h3 r hr; exact ⟨by omega, this.2⟩, fun s hs' => ?_⟩
        rcases List.mem_append.1 hs' with hs' | hs'
        · exact h4 s hs'
        · obtain rfl := List.mem_singleton.1 hs'
          exact hs _ (by rw [rowS_inv hr]; unfold wordsS; simp)
    split at h
    · match t, h, hs with
      | [n, k, s, d], h, hs => exact train5_sz h hz (hs n (by simp))
      | [], h, _ => cases h
      | [_], h, _ => cases h
      | [_, _], h, _ => cases h
      | [_, _, _], h, _ => cases h
      | _ :: _ :: _ :: _ :: _ :: _, h, _ => cases h
    · unfold legL at h
      dsimp only at h
      split at h
      · exact legW_sz h hz
      · exact legW_sz h hz
theorem lineD_sz {P : Pln} {D D' : Dgm} {f : Bool} {s : ByteArray} {m : Nat} (h : lineD P D f s = .inr D') (hz : SzD m D) (hs : ∀ L, wdB s = some L → ∀ x ∈ L, x.size ≤ maxLen) : SzD (m + 1) D' := by
  unfold lineD at h
  cases hw : wdB s with
  | none => rw [hw] at h; cases h
  | some w => rw [hw] at h; exact lineW_sz h hz (hs w hw)
end Go.Proofs.YtgjnlgcdpbilfaaGreatDoor
namespace Go.Proofs.YtgjnlgcdpbilfaaGreatDoor
open Go.ChangeShapes Go.WideShapes Go.ChangeAt Go.RowKit Go.Maps
set_option linter.unusedVariables false
set_option linter.unusedSimpArgs false
theorem list_five {α : Type} {l : List α} (h : l.length = 5) : ∃ a b c d e, l = [a, b, c, d, e] := by
  match l, h with
  | [a, b, c, d, e], _ => exact ⟨a, b, c, d, e, rfl⟩
theorem list_three {α : Type} {l : List α} (h : l.length = 3) : ∃ a b c, l = [a, b, c] := by
  match l, h with
  | [a, b, c], _ => exact ⟨a, b, c, rfl⟩
theorem list_two {α : Type} {l : List α} (h : l.length = 2) : ∃ a b, l = [a, b] := by
  match l, h with
  | [a, b], _ => exact ⟨a, b, rfl⟩
theorem slice_fourth (b o c : Nat) (hc : 5 ≤ c) (w' : World) : (Instr.slice 55 (.slice (some ⟨b, o, none⟩) 5 c) (some (.int .i64 4)) none none).run Tryz.prog w' = .ok (.slice (some ⟨b, o + 4, none⟩) 1 (c - 4)) w' := by
  rw [run_slice_l (w := w') (P := Tryz.prog) 55 _ 5 c (by kernel_rfl) .i64 4 (by omega) (by omega)]
  have hs : (sizeOf (Tryz.prog.elem 55)).run Tryz.prog w' = .ok 1 w' := by kernel_rfl
  rw [hs]
  simp only [Result.andThen, sliced]
  rw [show Int.toNat 4 = 4 from rfl, if_neg (by omega)]
  rfl
theorem slice_first (b o n c : Nat) (hn : 1 ≤ n) (hc : n ≤ c) : ∃ A, (∀ w', (Instr.slice 55 (.slice (some ⟨b, o, none⟩) n c) (some (.int .i64 1)) none none).run Tryz.prog w' = .ok (.slice A (n - 1) (c - 1)) w') ∧ (1 < n → A = some ⟨b, o + 1, none⟩) := by
  refine ⟨if c = 1 then some ⟨b, o, none⟩ else some ⟨b, o + 1, none⟩, fun w' => ?_, fun h => by rw [if_neg (by omega)]⟩
  rw [run_slice_l (w := w') (P := Tryz.prog) 55 _ n c (by kernel_rfl) .i64 1 (by omega) (by omega)]
  have hs : (sizeOf (Tryz.prog.elem 55)).run Tryz.prog w' = .ok 1 w' := by kernel_rfl
  rw [hs]
  simp only [Result.andThen, sliced]
  rw [show Int.toNat 1 = 1 from rfl]
  by_cases h1 : c = 1
  · rw [if_pos h1, if_pos h1]
  · rw [if_neg h1, if_neg h1]; rfl
theorem vals_five {w : World} {bb o c : Nat} {a b d e f : ByteArray} (h : IsVals w (.slice (some ⟨bb, o, none⟩) 5 c) ([a, b, d, e, f].map Value.string)) :
    bb < w.heap.size ∧ w.cell? ⟨bb, o, none⟩ = some (.string a) ∧ w.cell? ⟨bb, o + 1, none⟩ = some (.string b) ∧ w.cell? ⟨bb, o + 2, none⟩ = some (.string d) ∧ w.cell? ⟨bb, o + 3, none⟩ = some (.string e) ∧ w.cell? ⟨bb, o + 4, none⟩ = some (.string f) ∧ IsVals w (.slice (some ⟨bb, o + 4, none⟩) 1 (c - 4)) ([f].map Value.string) := by
  obtain ⟨a', c', e', _, hx⟩ := h
  simp only [Value.slice.injEq] at e'
  obtain ⟨rfl, -, rfl⟩ := e'
  rcases hx with hx | ⟨b2, o2, h2, hb, hc⟩
  · cases hx
  · cases h2
    refine ⟨hb, hc 0 _ rfl, hc 1 _ rfl, hc 2 _ rfl, hc 3 _ rfl, hc 4 _ rfl, ⟨_, c - 4, rfl, by simp; unfold maxLen; omega, .inr ⟨bb, o + 4, rfl, hb, fun i x hi => ?_⟩⟩⟩
    have := hc (i + 4) x (by simpa using hi)
    rw [show o + 4 + i = o + (i + 4) from by omega]
    exact this
theorem vals_first {w : World} {v : Value} {x : ByteArray} {t : List ByteArray} (h : IsVals w v ((x :: t).map Value.string)) :
    ∃ bb o c, v = .slice (some ⟨bb, o, none⟩) (t.length + 1) c ∧ bb < w.heap.size ∧ w.cell? ⟨bb, o, none⟩ = some (.string x) ∧ Hid (∀ (i : Nat) (hi : i < t.length), w.cell? ⟨bb, o + 1 + i, none⟩ = some (.string t[i])) := by
  obtain ⟨a', c', rfl, _, hx⟩ := h
  rcases hx with hx | ⟨b2, o2, rfl, hb, hc⟩
  · cases hx
  · refine ⟨b2, o2, c', by simp, hb, hc 0 _ rfl, fun i hi => ?_⟩
    rw [show o2 + 1 + i = o2 + (i + 1) from by omega]
    exact hc (i + 1) _ (by simp [hi])
theorem one_val {w : World} {v : Value} {a : Int} (h : IsVals w v ([a].map (Value.int .i64))) : ∃ bb o cc, v = .slice (some ⟨bb, o, none⟩) 1 cc ∧ bb < w.heap.size ∧ w.cell? ⟨bb, o, none⟩ = some (.int .i64 a) := by
  obtain ⟨a', c', rfl, _, hx⟩ := h
  rcases hx with hx | ⟨b2, o2, rfl, hb, hc⟩
  · cases hx
  · exact ⟨b2, o2, c', rfl, hb, hc 0 _ rfl⟩
theorem nums_one (x : ByteArray) : nums [x] = if numB x 4 = true then some [numN x 4] else none := by
  unfold nums
  simp
theorem train5_no {P : Pln} {D : Dgm} {n k s d : ByteArray} (h : nmB n = false ∨ nmB k = false ∨ nmB s = false ∨ numB d 4 = false) : train5 P D n k s d = .inl 2 := by
  unfold train5
  rw [if_neg]
  rintro ⟨h1, h2, h3, h4⟩
  rcases h with h | h | h | h <;> simp_all
theorem train5_at {P : Pln} {D : Dgm} {n k s d : ByteArray} (h1 : nmB n = true) (h2 : nmB k = true) (h3 : nmB s = true) (h4 : numB d 4 = true) : train5 P D n k s d = if findN D.st k < 0 ∨ sigN P s < 0 then .inl 5 else .inr { D with runs := D.runs ++ [⟨n, findN D.st k, sigN P s, numN d 4, []⟩] } := by
  unfold train5
  rw [if_pos ⟨h1, h2, h3, h4⟩]
theorem train_len {P : Pln} {D : Dgm} {L : List ByteArray} (h : L.length ≠ 5) : trainW P D L = .inl 2 := by
  match L, h with
  | [], _ => rfl
  | [_], _ => rfl
  | [_, _], _ => rfl
  | [_, _, _], _ => rfl
  | [_, _, _, _], _ => rfl
  | [_, _, _, _, _], h => exact absurd rfl h
  | _ :: _ :: _ :: _ :: _ :: _ :: _, _ => rfl
theorem legW_len {P : Pln} {D : Dgm} {tn : Bool} {L : List ByteArray} (h : L.length ≠ 3) : legW P D tn L = .inl 2 := by
  match L, h with
  | [], _ => rfl
  | [_], _ => rfl
  | [_, _], _ => rfl
  | [_, _, _], h => exact absurd rfl h
  | _ :: _ :: _ :: _ :: _, _ => rfl
theorem leg3_no {P : Pln} {D : Dgm} {tn : Bool} {v t n : ByteArray} (h : D.runs = [] ∨ nmB n = false ∨ clkB t = false ∨ endW v = 0) : leg3 P D tn v t n = .inl 2 := by
  unfold leg3; rw [if_pos h]
theorem leg3_at {P : Pln} {D : Dgm} {tn : Bool} {v t n : ByteArray} {E : Int} (h1 : D.runs ≠ []) (h2 : nmB n = true) (h3 : clkB t = true) (h4 : endW v = E) (h5 : E ≠ 0) : leg3 P D tn v t n = if toW P E n < 0 then .inl 5 else .inr { D with runs := addLeg D.runs ⟨tn, (clkN t - D.beg) % 86400, E, toW P E n⟩ } := by
  unfold leg3
  rw [if_neg (by rw [h2, h3, h4]; simp [h1, h5]), h4]
def KB (b : Nat) (P : Pln) (e j s l : Value) (k : Nat) (h0 : Option Obj) (w : World) : Prop := PBox w b P e j s l ∧ w.heap[k]? = h0 ∧ k < w.heap.size
theorem KB.gr {b k : Nat} {P : Pln} {e j s l : Value} {h0 : Option Obj} {w w' : World} (h : KB b P e j s l k h0 w) (g : Gr w w') : KB b P e j s l k h0 w' := ⟨h.1.gr g, (g.block k h.2.2).trans h.2.1, Nat.lt_of_lt_of_le h.2.2 g.size⟩
theorem KB.set {b k : Nat} {P : Pln} {e j s l : Value} {h0 : Option Obj} {w : World} (h : KB b P e j s l k h0 w) {a : Addr} (ha : a.block ≠ b ∨ 9 ≤ a.off) (hk : k ≠ a.block) (u : Value) : KB b P e j s l k h0 (w.setCell a u) := ⟨h.1.set ha u, (heap_setCell_other w a k u hk).trans h.2.1, by simpa using h.2.2⟩
def RetLn (T : TypeId) (w0 : World) (b o B : Nat) (K : World → Prop) (r : Int ⊕ Dgm) (x : Ending) (w' : World) : Prop :=
  match r with
  | .inl n => x = .returned (.int .i64 n) ∧ Gr w0 w'
  | .inr D => x = .returned (.int .i64 0) ∧ Gr w0 w' ∧ K w' ∧ Rd T b o B w' D
theorem RetLn.no {T : TypeId} {w0 w' : World} {b o B : Nat} {K : World → Prop} {r : Int ⊕ Dgm} {n : Int} (h : r = .inl n) (g : Gr w0 w') : RetLn T w0 b o B K r (.returned (.int .i64 n)) w' := by subst h; exact ⟨rfl, g⟩
theorem RetLn.yes {T : TypeId} {w0 w' : World} {b o B : Nat} {K : World → Prop} {r : Int ⊕ Dgm} {D : Dgm} (h : r = .inr D) (g : Gr w0 w') (k : K w') (d : Rd T b o B w' D) : RetLn T w0 b o B K r (.returned (.int .i64 0)) w' := by subst h; exact ⟨rfl, g, k, d⟩
end Go.Proofs.YtgjnlgcdpbilfaaGreatDoor
namespace Go.Proofs.YtgjnlgcdpbilfaaGreatDoor
open Go.ChangeShapes Go.WideShapes Go.ChangeAt Go.RowKit Go.Maps
set_option linter.unusedVariables false
set_option linter.unusedSimpArgs false
theorem bx_far {T : TypeId} {b o : Nat} {w : World} {t : Int} {sv rv : Value} (h : Bx T b o w t sv rv) {e : TypeId} {sz n : Nat} {v : Value} {xs : List Value} {B : Nat} (ho : w.ownsRow B e sz v n xs) (hT : T ≠ e) : v.ownBlock ≠ some b := by
  obtain ⟨⟨cs, hh⟩, -⟩ := h
  exact fun e' => (own_ne ho hh hT) e'.symm
theorem PBox.grown {w w' : World} {b : Nat} {P : Pln} {e j s l : Value} {v : Value} (h : PBox w b P e j s l) (hg : w.grownBy w' v.ownBlock) (hne : v.ownBlock ≠ some b) : PBox w' b P e j s l :=
  h.block (hg.block b h.1 (Ne.symm hne)) (Nat.lt_of_lt_of_le h.1 hg.size)
theorem KB.grown {w w' : World} {b k B : Nat} {P : Pln} {e j s l : Value} {h0 : Option Obj} {T : TypeId} {sz n : Nat} {v : Value} {xs : List Value} (h : KB b P e j s l k h0 w) (hg : w.grownBy w' v.ownBlock) (hne : v.ownBlock ≠ some b) {W : World} (ho : W.ownsRow B T sz v n xs) (hk : k < B) : KB b P e j s l k h0 w' := by
  refine ⟨h.1.grown hg hne, (hg.block k h.2.2 fun e => ?_).trans h.2.1, Nat.lt_of_lt_of_le h.2.2 hg.size⟩
  have := own_base ho k e.symm
  omega
theorem train_end {T : TypeId} (hT : T ≠ 51) {b B k gg cap rc : Nat} {h0 : Option Obj} {ra : Option Addr} {P : Pln} {e j s l : Value} {D : Dgm} {w0 w wq w9 : World} {sv : Value} {A : List (Rn × Value)} {M : Nat} {R : Int ⊕ Dgm} {r : Rn}
    (hbx : Bx T b 9 w D.beg sv (.slice ra A.length rc)) (k1 : OwnK B w sv D.st) (k2 : OwnRn B w (.slice ra A.length rc) A) (k3 : Lgs B M w A) (k4 : A.map Prod.fst = D.runs) (k5 : M ≤ w.heap.size) (k6 : B ≤ M) (hbB : b < B) (hkB : k < B) (hkb : k ≠ b)
    (hB : KB b P e j s l k h0 w) (g0 : Gr w0 w) (hb : w0.heap.size ≤ b) (gq : Gr w wq) (hr : r.legs = []) (hR : R = .inr { D with runs := D.runs ++ [r] })
    (hgrow : wq.grownBy w9 (Value.slice ra A.length rc).ownBlock) (hown : w9.ownsRow B 51 5 (.slice (some ⟨gg, 0, none⟩) (A.length + 1) cap) (A.length + 1) (runCs A ++ r.cs (.slice none 0 0))) :
    RetLn T w0 b 9 B (KB b P e j s l k h0) R (.returned (.int .i64 0)) (w9.setCell ⟨b, 11, none⟩ (.slice (some ⟨gg, 0, none⟩) (A.length + 1) cap)) := by
  have hfar := bx_far hbx k2 hT
  have hd := Rd.run hT (hbx.gr gq) (own_gr k1 gq) (own_gr k2 gq) (k3.gr gq) k4 (Nat.le_trans k5 gq.size) k6 hbB hgrow hr hown
  refine RetLn.yes hR ?_ (((hB.gr gq).grown hgrow hfar k2 hkB).set (.inr (by simp)) hkb _) hd
  exact (Gr.grown (g0.trans gq) hgrow (own_base_le k2 (show w0.heap.size ≤ B by omega))).setCell hb _
theorem stock_end {T : TypeId} (hT : T ≠ 64) {b B k gg cap sc : Nat} {h0 : Option Obj} {sa : Option Addr} {P : Pln} {e j s l : Value} {D : Dgm} {w0 w wq w9 : World} {rv : Value} {R : Int ⊕ Dgm} {kk : Stk}
    (hbx : Bx T b 9 w D.beg (.slice sa D.st.length sc) rv) (hkB : k < B) (hkb : k ≠ b) (hd : Dt b B w D (.slice sa D.st.length sc) rv)
    (hB : KB b P e j s l k h0 w) (g0 : Gr w0 w) (hb : w0.heap.size ≤ b) (gq : Gr w wq) (hR : R = .inr { D with st := D.st ++ [kk] })
    (hgrow : wq.grownBy w9 (Value.slice sa D.st.length sc).ownBlock) (hown : w9.ownsRow B 64 5 (.slice (some ⟨gg, 0, none⟩) (D.st.length + 1) cap) (D.st.length + 1) (D.st.flatMap Stk.cs ++ kk.cs)) :
    RetLn T w0 b 9 B (KB b P e j s l k h0) R (.returned (.int .i64 0)) (w9.setCell ⟨b, 10, none⟩ (.slice (some ⟨gg, 0, none⟩) (D.st.length + 1) cap)) := by
  obtain ⟨hbB, A, M, k1, k2⟩ := id hd
  have hfar := bx_far hbx k1 hT
  have hd' := Rd.stock hT (hbx.gr gq) (hd.gr gq) hgrow hown
  refine RetLn.yes hR ?_ (((hB.gr gq).grown hgrow hfar k1 hkB).set (.inr (by simp)) hkb _) hd'
  exact (Gr.grown (g0.trans gq) hgrow (own_base_le k1 (show w0.heap.size ≤ B by omega))).setCell hb _
theorem leg_end {T : TypeId} (hT : T ≠ 54) (hT2 : T ≠ 51) {b B k g c gg cap uc : Nat} {h0 : Option Obj} {ua : Option Addr} {P : Pln} {e j s l : Value} {D : Dgm} {w0 w wq w9 : World} {sv : Value} {A : List (Rn × Value)} {M : Nat} {R : Int ⊕ Dgm} {r : Rn} {x : Leg}
    (hbx : Bx T b 9 w D.beg sv (.slice (some ⟨g, 0, none⟩) (A.length + 1) c)) (k1 : OwnK B w sv D.st) (k2 : OwnRn B w (.slice (some ⟨g, 0, none⟩) (A.length + 1) c) (A ++ [(r, .slice ua r.legs.length uc)]))
    (k3 : ∀ x ∈ A, OwnLg B w x.2 x.1.legs ∧ x.1.legs.length ≤ maxLen ∧ ∀ k, x.2.ownBlock = some k → k < M) (k7 : OwnLg M w (.slice ua r.legs.length uc) r.legs) (k8 : r.legs.length + 1 ≤ maxLen) (k4 : (A ++ [(r, Value.slice ua r.legs.length uc)]).map Prod.fst = D.runs) (k5 : M ≤ w.heap.size) (k6 : B ≤ M) (hbB : b < B) (hkB : k < B) (hkb : k ≠ b)
    (hgb : B ≤ g) (hB : KB b P e j s l k h0 w) (g0 : Gr w0 w) (hb : w0.heap.size ≤ b) (gq : Gr w wq) (hR : R = .inr { D with runs := addLeg D.runs x })
    (hgrow : wq.grownBy w9 (Value.slice ua r.legs.length uc).ownBlock) (hown : w9.ownsRow M 54 4 (.slice (some ⟨gg, 0, none⟩) (r.legs.length + 1) cap) (r.legs.length + 1) (r.legs.flatMap Leg.cs ++ x.cs)) :
    RetLn T w0 b 9 B (KB b P e j s l k h0) R (.returned (.int .i64 0)) (w9.setCell ⟨g, A.length * 5 + 4, none⟩ (.slice (some ⟨gg, 0, none⟩) (r.legs.length + 1) cap)) := by
  have hfar := bx_far hbx k7 hT
  have hd' := Rd.leg hT hT2 (hbx.gr gq) (own_gr k1 gq) (own_gr k2 gq) (fun x hx => ⟨own_gr (k3 x hx).1 gq, (k3 x hx).2⟩) (own_gr k7 gq) k8 k4 (Nat.le_trans k5 gq.size) k6 hbB hgrow hown
  refine RetLn.yes hR ?_ (((hB.gr gq).grown hgrow hfar k7 (Nat.lt_of_lt_of_le hkB k6)).set (.inl (by simp; omega)) (by simp; omega) _) hd'
  exact (Gr.grown (g0.trans gq) hgrow (own_base_le k7 (show w0.heap.size ≤ M by omega))).setCell (by simp; omega) _
end Go.Proofs.YtgjnlgcdpbilfaaGreatDoor
