/- stock.line, Print; the reference's Line, Print. -/
import Derived.Test.YtaanepadgoefhaaGreatDoorRows
import Derived.Test.YtaanepadgoefhaaGreatDoorRStY
import Derived.Test.YtaanepadgoefhaaGreatDoorRStT
import Derived.Test.YtaanepadgoefhaaGreatDoorRWrd6
import Derived.Test.YtaanepadgoefhaaGreatDoorRSeeP
import Derived.Deep.Cut
import Derived.Deep.WholeRow
import Derived.Test.YtaanepadgoefhaaGreatDoorB9
namespace Go.Proofs.YtaanepadgoefhaaGreatDoor
open Go.ChangeShapes Go.WideShapes Go.ChangeAt Go.RowKit Go.Maps
set_option linter.unusedVariables false
set_option linter.unusedSimpArgs false
theorem ownS_two {w : World} {x y : ByteArray} {B : Nat} (hB : B ≤ w.heap.size) : OwnS B (w.alloc (.cells #[.string x, .string y] 9)) (.slice (some ⟨w.heap.size, 0, none⟩) 2 2) [x, y] :=
  World.ownsRow_lit w #[.string x, .string y] 2 hB (by unfold maxLen; simp) rfl
theorem digits_of {n : Int} {w : World} (ht : Tabs w) (h0 : 0 ≤ n) (h1 : n ≤ 9999) (w' : World) (g : Gr w w') : Calls Tryz.prog 102 #[.int .i64 n] w' fun e w'' => e = .returned (.string (dgs n)) ∧ Gr w' w'' :=
  digits_word n (I64_of (by omega) (by omega)) w' (ht.gr g)
theorem own_ne {w : World} {B : Nat} {e : TypeId} {sz n : Nat} {v : Value} {xs : List Value} (h : w.ownsRow B e sz v n xs) {b : Nat} {cs : Array Value} {e' : TypeId} (hb : w.heap[b]? = some (.cells cs e')) (hne : e' ≠ e) : some b ≠ v.ownBlock := by
  intro hk
  rcases h.2 with ⟨rfl, _⟩ | ⟨g, cap, cur, rfl, _, hh, _⟩
  · cases hk
  · simp only [Value.ownBlock, Option.some.injEq] at hk
    subst hk
    rw [hb] at hh
    simp only [Option.some.injEq, Obj.cells.injEq] at hh
    exact hne hh.2.1
theorem four_at {w : World} {b : Nat} {l t a c : Int} {T : TypeId} (h : w.heap[b]? = some (.cells #[.int .i64 l, .int .i64 t, .int .i64 a, .int .i64 c] T)) (k : Nat) (hk : k < 4) : w.cell? ⟨b, k, none⟩ = some (.int .i64 ([l, t, a, c][k]'(by simpa using hk))) := by
  have hk' : k = 0 ∨ k = 1 ∨ k = 2 ∨ k = 3 := by omega
  rcases hk' with rfl | rfl | rfl | rfl <;> simp [World.cell?, h]
set_option maxRecDepth 100000 in
set_option maxHeartbeats 2000000 in
theorem stLine_any (nm : ByteArray) (l t a b : Int) (w : World) (ht : Tabs w) (hm : mayS ⟨nm, l, t, a, b⟩ = true) :
    Calls Tryz.prog 61 #[.agg #[.string nm, .int .i64 l, .int .i64 t, .int .i64 a, .int .i64 b]] w fun e w' => e = .returned (.string (lineS ⟨nm, l, t, a, b⟩)) ∧ Gr w w' := by
  obtain ⟨h0, h1, h2, h3, h4⟩ := mayS_parts hm
  have hls := lineS_size hm
  have hw : wordsS ⟨nm, l, t, a, b⟩ = [bStock, nm] ++ [l, t, a, b].map dgs := rfl
  have hln : (⟨(Lib.join (([bStock, nm] ++ [l, t, a, b].map dgs).map (·.data.toList)) [32]).toArray⟩ : ByteArray) = lineS ⟨nm, l, t, a, b⟩ := by unfold lineS; rw [hw]; rfl
  generalize lineS ⟨nm, l, t, a, b⟩ = R at hls hln ⊢
  dsimp only at h0 h1 h2 h3 h4
  have HI : Hid (∀ x ∈ [l, t, a, b], 0 ≤ x ∧ x ≤ 9999) := by
    intro x hx
    simp only [List.mem_cons, List.not_mem_nil, or_false] at hx
    rcases hx with rfl | rfl | rfl | rfl <;> omega
  have HD := Lib.hid (fun (n : Int) (h : 0 ≤ n ∧ n ≤ 9999) (w' : World) (g : Gr w w') => digits_of ht h.1 h.2 w' g)
  have HLN := Lib.hid hln
  clear hw hm hln h0 h1 h2 h3 h4
  have g0 : Gr w (w.alloc (.cells #[.string nm, .int .i64 l, .int .i64 t, .int .i64 a, .int .i64 b] 30)) := (Gr.refl _).alloc _
  go_enter Tryz.func61, Tryz.ntmps61
  go_wp2_with fail
  have hB1 : ((((w.alloc (.cells #[.string nm, .int .i64 l, .int .i64 t, .int .i64 a, .int .i64 b] 30))).alloc (.cells #[.string ⟨#[115, 116, 111, 99, 107]⟩, .string nm] 9)).alloc (.cells #[.int .i64 l, .int .i64 t, .int .i64 a, .int .i64 b] 3)).heap[w.heap.size + 1 + 1]? = some (.cells #[.int .i64 l, .int .i64 t, .int .i64 a, .int .i64 b] 3) := by
    have hs : (((w.alloc (.cells #[.string nm, .int .i64 l, .int .i64 t, .int .i64 a, .int .i64 b] 30))).alloc (.cells #[.string ⟨#[115, 116, 111, 99, 107]⟩, .string nm] 9)).heap.size = w.heap.size + 1 + 1 := by simp
    rw [← hs]
    exact heap_alloc_last _ _
  have hO : OwnS w.heap.size ((((w.alloc (.cells #[.string nm, .int .i64 l, .int .i64 t, .int .i64 a, .int .i64 b] 30))).alloc (.cells #[.string ⟨#[115, 116, 111, 99, 107]⟩, .string nm] 9)).alloc (.cells #[.int .i64 l, .int .i64 t, .int .i64 a, .int .i64 b] 3)) (.slice (some ⟨w.heap.size + 1, 0, none⟩) 2 2) [bStock, nm] := by
    have := ownS_two (w := (w.alloc (.cells #[.string nm, .int .i64 l, .int .i64 t, .int .i64 a, .int .i64 b] 30))) (x := bStock) (y := nm) (B := w.heap.size) (by simp)
    have h2 := own_gr this ((Gr.refl _).alloc (.cells #[.int .i64 l, .int .i64 t, .int .i64 a, .int .i64 b] 3))
    have hs : ((w.alloc (.cells #[.string nm, .int .i64 l, .int .i64 t, .int .i64 a, .int .i64 b] 30))).heap.size = w.heap.size + 1 := by simp
    rw [hs] at h2
    exact h2
  have gW : Gr w ((((w.alloc (.cells #[.string nm, .int .i64 l, .int .i64 t, .int .i64 a, .int .i64 b] 30))).alloc (.cells #[.string ⟨#[115, 116, 111, 99, 107]⟩, .string nm] 9)).alloc (.cells #[.int .i64 l, .int .i64 t, .int .i64 a, .int .i64 b] 3)) := (g0.alloc _).alloc _
  have HW := Lib.hid (And.intro hB1 (And.intro hO gW))
  clear hB1 hO gW
  obtain ⟨i0, hi0, hi1, hi2, hi3⟩ := info_parts Tryz.infoS
  go_loopw [3, 5, 19] (fun v _ x wr => ∃ k : Nat, x = .int .i64 k ∧ k ≤ 4 ∧ Gr w wr ∧ OwnS w.heap.size wr v ([bStock, nm] ++ ([l, t, a, b].take k).map dgs) ∧ wr.heap[w.heap.size + 1 + 1]? = some (.cells #[.int .i64 l, .int .i64 t, .int .i64 a, .int .i64 b] 3)) (fun _ _ x _ => 4 - (intOf x).toNat)
  case atStart => exact ⟨0, rfl, Nat.zero_le _, HW.out.2.2, HW.out.2.1, HW.out.1⟩
  case round =>
    clear HW
    obtain ⟨k, rfl, hk, g, ho, hI⟩ := hrel
    obtain ⟨va, vc, rfl⟩ := own_form ho
    by_cases hlt : k < 4
    · have hk1 : (k : Int) < 4 := by omega
      have y0 := four_at hI k hlt
      have hx := HI.out ([l, t, a, b][k]'(by simpa using hlt)) (List.getElem_mem _)
      have HN : Hid ([bStock, nm] ++ ([l, t, a, b].take (k + 1)).map dgs = ([bStock, nm] ++ ([l, t, a, b].take k).map dgs) ++ [dgs ([l, t, a, b][k]'(by simpa using hlt))]) := by
        show _ = _
        rw [List.take_succ_eq_append_getElem (by simpa using hlt), List.map_append, List.append_assoc]; rfl
      have hll : ([bStock, nm] ++ ([l, t, a, b].take k).map dgs).length ≤ 6 := by simp; omega
      have HDk := Lib.hid (HD.out ([l, t, a, b][k]'(by simpa using hlt)) hx)
      have hzI : w.heap.size + 1 + 1 < wr.heap.size := by
        rcases Nat.lt_or_ge (w.heap.size + 1 + 1) wr.heap.size with h | h
        · exact h
        · rw [Array.getElem?_eq_none h] at hI; cases hI
      have HII := Lib.hid hI
      clear hI
      generalize [bStock, nm] ++ ([l, t, a, b].take k).map dgs = L1 at HN ho hll
      generalize [l, t, a, b][k]'(by simpa using hlt) = x at y0 hx HN HDk
      generalize dgs x = d at HN HDk
      have HO : Hid (wr.ownsRow w.heap.size 9 1 (.slice va L1.length vc) L1.length (L1.map Value.string)) := ho
      clear ho
      go_wp2_with (first | (go_at_call 102; (with_reducible refine (HDk.out _ g).mono ?_); rintro e w3 ⟨rfl, g3⟩; have HOz := Lib.hid (own_gr HO.out g3)) | (at_builtin; refine wpList_append_own _ rfl _ _ 93 rfl w.heap.size 9 i0 (.string ByteArray.empty) 1 16 Tryz.underlying93 hi0 hi1 hi2 hi3 rfl (by decide) _ _ _ rfl (HOz.out.alloc _) ⟨w3.heap.size, 0, none⟩ 1 1 [.string d] rfl rfl ?c1 ?c2 ?c3 ?c4 ?c5 ?_))
      case c1 => exact cell_one_new _ _ _
      case c2 => simp [Value.oneCell']
      case c3 => unfold maxLen; omega
      case c4 => omega
      case c5 => have := (g.trans g3).size; simp; omega
      intro v' w4 hown' hgrow _
      have hg1 : Gr w w4 := Gr.grown ((g.trans g3).alloc _) hgrow HO.out
      have hI3 : (w3.alloc (.cells #[.string d] 9)).heap[w.heap.size + 1 + 1]? = some (.cells #[.int .i64 l, .int .i64 t, .int .i64 a, .int .i64 b] 3) := ((g3.alloc (.cells #[.string d] 9)).block _ hzI).trans HII.out
      have hI4 : w4.heap[w.heap.size + 1 + 1]? = some (.cells #[.int .i64 l, .int .i64 t, .int .i64 a, .int .i64 b] 3) := (hgrow.block _ (Nat.lt_of_lt_of_le hzI (g3.alloc _).size) (own_ne HO.out HII.out (by decide))).trans hI3
      have ho1 := Lib.hid (OwnS.snoc hown')
      rw [← HN.out] at ho1
      have HI4 := Lib.hid hI4
      clear hown' hgrow hI4 hI3
      go_wp2_with fail
      go_roundw
      case rel => exact ⟨k + 1, by go_num, hlt, hg1, ho1.out, HI4.out⟩
      case measure => simp [intOf]; omega
    · have hk1 : ¬ (k : Int) < 4 := by omega
      obtain rfl : k = 4 := by omega
      clear hI
      have e4 : [l, t, a, b].take 4 = [l, t, a, b] := rfl
      rw [e4] at ho ⊢
      have hv := ho.vals (by unfold maxLen; simp)
      have hcp := ho.cap _ _ _ rfl
      obtain ⟨a', c', e', -, hx⟩ := hv
      simp only [Value.slice.injEq] at e'
      obtain ⟨rfl, -, rfl⟩ := e'
      rcases hx with hx | ⟨bb, o, rfl, hbb, hcell⟩
      · cases hx
      have HJ : Hid (Calls Tryz.prog 103 #[.slice (some ⟨bb, o, none⟩) ([bStock, nm] ++ [l, t, a, b].map dgs).length vc, .string ⟨#[32]⟩] wr fun e w' => e = .returned (.string R) ∧ Gr wr w') := by
        have := Tryz.strings_Join bb o vc ([bStock, nm] ++ [l, t, a, b].map dgs) ⟨#[32]⟩ wr (fun j x hj => hcell j _ (by rw [List.getElem?_map, hj]; rfl)) hbb (by simp) hcp (by
          have h1 : (Lib.join (([bStock, nm] ++ [l, t, a, b].map dgs).map (·.data.toList)) [32]).length = R.size := by rw [← HLN.out]; rfl
          show (Lib.join _ [32]).length ≤ _
          rw [h1]; omega)
        rw [← HLN.out]
        exact this
      clear hcell hcp ho e4
      generalize ([bStock, nm] ++ [l, t, a, b].map dgs).length = nl at HJ ⊢
      go_wp2_with (first | (go_at_call 103; (with_reducible refine (HJ.out).mono ?_); rintro e w5 ⟨rfl, g5⟩) | fail)
      go_ret
      exact ⟨rfl, g.trans g5⟩
end Go.Proofs.YtaanepadgoefhaaGreatDoor
