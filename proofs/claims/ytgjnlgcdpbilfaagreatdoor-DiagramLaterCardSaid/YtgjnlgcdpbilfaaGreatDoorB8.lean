/- StR: half.Numbers, half.Stock, stock.read; the reference's Row.
StS: half.Stock, stock.read; the reference's Row.
StU: The reference's Row.
Tab1: What the walks need of the library's variables.
Wrd1: Lines and words: the document's Lines.
Wrd2: word.Lines.
StV: stock.read, Parse; the reference's Parse.
StY: The reference's plain and Check; stock.Check.
Wrd6: Digits.
StL: stock.line, Print; the reference's Line, Print. -/
import Derived.Test.YtgjnlgcdpbilfaaGreatDoorRows
import Derived.Test.YtgjnlgcdpbilfaaGreatDoorB7
import Derived.Test.YtgjnlgcdpbilfaaGreatDoorB1
import Derived.Test.YtgjnlgcdpbilfaaGreatDoorB2
import Derived.Test.YtgjnlgcdpbilfaaGreatDoorB4
import Derived.Deep.RegionHeld3
import Derived.Test.YtgjnlgcdpbilfaaGreatDoorShelf
import Derived.ChangeAgain
import Derived.LaidMore
import Derived.Deep.DeepHandedRow
import Derived.Test.YtgjnlgcdpbilfaaGreatDoorB6
import Derived.Deep.RegionWith
import Derived.Deep.Cut
import Derived.Deep.WholeRow
namespace Go.Proofs.YtgjnlgcdpbilfaaGreatDoor
open Go.ChangeShapes Go.WideShapes Go.ChangeAt Go.RowKit Go.Maps
set_option linter.unusedVariables false
set_option linter.unusedSimpArgs false
def nums (l : List ByteArray) : Option (List Int) := if l.all (fun x => numB x 4) then some (l.map fun x => numN x 4) else none
theorem nums_bad {l : List ByteArray} {k : Nat} (hk : k < l.length) (h : numB l[k] 4 = false) : nums l = none := by
  unfold nums
  rw [if_neg]
  simp only [List.all_eq_true]
  intro h2
  rw [h2 _ (List.getElem_mem hk)] at h; cases h
theorem nums_good {l : List ByteArray} (h : ∀ k (hk : k < l.length), numB l[k] 4 = true) : nums l = some (l.map fun x => numN x 4) := by
  unfold nums
  rw [if_pos]
  rw [List.all_eq_true]
  intro x hx
  obtain ⟨k, hk, rfl⟩ := List.getElem_of_mem hx
  exact h k hk
def RetNm (w : World) (o : Option (List Int)) (e : Ending) (w' : World) : Prop :=
  ∃ v, e = .returned (.tuple #[v, .bool o.isSome]) ∧ IsVals w' v ((o.getD []).map (Value.int .i64)) ∧ Gr w w'
theorem RetNm.no {w w' : World} {o : Option (List Int)} (h : o = none) (g : Gr w w') : RetNm w o (.returned (.tuple #[.slice none 0 0, .bool false])) w' := by
  subst h; exact ⟨_, rfl, ⟨none, 0, rfl, by simp, .inl rfl⟩, g⟩
theorem RetNm.yes {w w' : World} {o : Option (List Int)} {L : List Int} {v : Value} (h : o = some L) (hv : IsVals w' v (L.map (Value.int .i64))) (g : Gr w w') : RetNm w o (.returned (.tuple #[v, .bool true])) w' := by
  subst h; exact ⟨_, rfl, hv, g⟩
set_option maxRecDepth 100000 in
set_option maxHeartbeats 1000000 in
theorem hnums_any (v : Value) (L : List ByteArray) (w : World) (hv : IsVals w v (L.map Value.string)) (hs : ∀ x ∈ L, x.size ≤ maxLen) (hn : L.length ≤ 1000) :
    Calls Tryz.prog 115 #[v] w (RetNm w (nums L)) := by
  have HV := Lib.hid hv
  obtain ⟨a, c, rfl, hm, -⟩ := hv
  rw [List.length_map] at HV hm ⊢
  unfold maxLen at hm
  have HS := Lib.hid hs
  have HNU := Lib.hid (fun (x : ByteArray) (h : x ∈ L) (w' : World) => number_any x 4 (hs x h) w')
  obtain ⟨i0, hi0, hi1, hi2, hi3⟩ := info_parts Tryz.infoI
  clear hs
  go_enter Tryz.func115, Tryz.ntmps115
  go_wp2_with fail
  go_loopw [4, 6, 7, 8, 11] (fun V _ _ _ x wr => ∃ k : Nat, x = .int .i64 k ∧ k ≤ L.length ∧ Gr w wr ∧ OwnI w.heap.size wr V ((L.take k).map fun x => numN x 4) ∧ Hid (∀ i (hi : i < L.length), i < k → numB L[i] 4 = true)) (fun _ _ _ _ x _ => L.length - (intOf x).toNat)
  case atStart => exact ⟨0, rfl, Nat.zero_le _, Gr.refl _, OwnI.nil _ _, fun i _ h => by omega⟩
  case round =>
    obtain ⟨k, rfl, hk, g, ho, HA⟩ := hrel
    obtain ⟨va, vc, rfl⟩ := own_form ho
    by_cases hlt : k < L.length
    · have hk1 : (k : Int) < (L.length : Int) := by omega
      obtain ⟨bb, o, hs, z, y0⟩ := vals_at (HV.out.gr g) k hlt
      subst hs
      have HNk := Lib.hid (HNU.out L[k] (List.getElem_mem hlt))
      have HBD := Lib.hid (fun (h : numB L[k] 4 = false) => nums_bad hlt h)
      have HA2 : Hid (numB L[k] 4 = true → ∀ i (hi : i < L.length), i < k + 1 → numB L[i] 4 = true) := fun h i hi hik => by
        by_cases e : i = k
        · subst e; exact h
        · exact HA.out i hi (by omega)
      have HN : Hid ((L.take (k + 1)).map (fun x => numN x 4) = (L.take k).map (fun x => numN x 4) ++ [numN L[k] 4]) := by
        show _ = _
        rw [List.take_succ_eq_append_getElem hlt, List.map_append]; rfl
      have hll : ((L.take k).map (fun x => numN x 4)).length ≤ 1000 := by simp; omega
      clear HA
      generalize (L.take k).map (fun x => numN x 4) = M at HN ho hll
      generalize numN L[k] 4 = n at HNk HN
      generalize numB L[k] 4 = q at HNk HBD HA2
      generalize L[k] = x at y0 HNk
      have HO : Hid (wr.ownsRow w.heap.size 3 1 (.slice va M.length vc) M.length (M.map (Value.int .i64))) := ho
      clear ho
      cases q
      · have HR := Lib.hid (HBD.out rfl)
        go_wp2_with (first | (go_at_call 127; (with_reducible refine (HNk.out _).mono ?_); rintro e w3 ⟨rfl, hq⟩; obtain rfl := hq.symm) | fail)
        go_ret2
        exact RetNm.no HR.out g
      · have HA3 := Lib.hid (HA2.out rfl)
        clear HA2 HBD
        go_wp2_with (first | (go_at_call 127; (with_reducible refine (HNk.out _).mono ?_); rintro e w3 ⟨rfl, hq⟩; obtain rfl := hq.symm) | (at_builtin; refine wpList_append_own _ rfl _ _ 102 rfl w.heap.size 3 i0 (.int .i64 0) 1 8 Tryz.underlying102 hi0 hi1 hi2 hi3 rfl (by decide) _ _ _ rfl (HO.out.alloc _) ⟨wr.heap.size, 0, none⟩ 1 1 [.int .i64 n] rfl rfl ?c1 ?c2 ?c3 ?c4 ?c5 ?_))
        case c1 => exact cell_one_new _ _ _
        case c2 => simp [Value.oneCell']
        case c3 => unfold maxLen; omega
        case c4 => omega
        case c5 => have := g.size; simp; omega
        intro v' w4 hown' hgrow _
        have hg1 : Gr w w4 := Gr.grown (g.alloc _) hgrow HO.out
        have ho1 := Lib.hid (OwnI.snoc hown')
        rw [← HN.out] at ho1
        clear hown' hgrow
        go_wp2_with fail
        go_roundw
        case rel => exact ⟨k + 1, by go_num, hlt, hg1, ho1.out, HA3.out⟩
        case measure => simp [intOf]; omega
    · have hk1 : ¬ (k : Int) < (L.length : Int) := by omega
      rw [List.take_of_length_le (show L.length ≤ k by omega)] at ho ⊢
      have hvv : Hid (IsVals wr (.slice va L.length vc) ((L.map fun x => numN x 4).map (Value.int .i64))) := by
        have := OwnI.vals ho (by unfold maxLen; simp; omega)
        rwa [List.length_map] at this
      have HG := Lib.hid (nums_good fun i hi => HA.out i hi (by omega))
      clear ho
      go_wp2_with fail
      go_ret2
      exact RetNm.yes HG.out hvv.out g
def stkR (o : Option Stk) : Value := .tuple #[(o.getD ⟨⟨#[]⟩, 0, 0, 0, 0⟩).v, .bool o.isSome]
theorem rowS_len {l : List ByteArray} (h : l.length ≠ 6) : rowS l = none := by
  match l with
  | [a, b, c, d, e, f] => simp at h
  | [] => rfl
  | [_] => rfl
  | [_, _] => rfl
  | [_, _, _] => rfl
  | [_, _, _, _] => rfl
  | [_, _, _, _, _] => rfl
  | _ :: _ :: _ :: _ :: _ :: _ :: _ :: _ => rfl
theorem rowS_six (a b c d e f : ByteArray) : rowS [a, b, c, d, e, f] = if a = bStock ∧ nmB b = true then (match nums [c, d, e, f] with | some _ => some ⟨b, numN c 4, numN d 4, numN e 4, numN f 4⟩ | none => none) else none := by
  show (if a = bStock ∧ nmB b = true ∧ numB c 4 = true ∧ numB d 4 = true ∧ numB e 4 = true ∧ numB f 4 = true then some (⟨b, numN c 4, numN d 4, numN e 4, numN f 4⟩ : Stk) else none) = _
  unfold nums
  simp only [List.all_cons, List.all_nil, Bool.and_true, Bool.and_eq_true]
  by_cases h1 : a = bStock
  · by_cases h2 : nmB b = true
    · by_cases h3 : numB c 4 = true ∧ numB d 4 = true ∧ numB e 4 = true ∧ numB f 4 = true
      · rw [if_pos ⟨h1, h2, h3.1, h3.2.1, h3.2.2.1, h3.2.2.2⟩, if_pos ⟨h1, h2⟩, if_pos h3]
      · rw [if_neg (fun h => h3 ⟨h.2.2.1, h.2.2.2.1, h.2.2.2.2.1, h.2.2.2.2.2⟩), if_pos ⟨h1, h2⟩, if_neg h3]
    · rw [if_neg (fun h => h2 h.2.1), if_neg (fun h => h2 h.2)]
  · rw [if_neg (fun h => h1 h.1), if_neg (fun h => h1 h.1)]
theorem list_six {α : Type} {l : List α} (h : l.length = 6) : ∃ a b c d e f, l = [a, b, c, d, e, f] := by
  match l, h with
  | [a, b, c, d, e, f], _ => exact ⟨a, b, c, d, e, f, rfl⟩
theorem slice_two (b o c : Nat) (hc : 6 ≤ c) (w' : World) : (Instr.slice 55 (.slice (some ⟨b, o, none⟩) 6 c) (some (.int .i64 2)) none none).run Tryz.prog w' = .ok (.slice (some ⟨b, o + 2, none⟩) 4 (c - 2)) w' := by
  rw [run_slice_l (w := w') (P := Tryz.prog) 55 _ 6 c (by kernel_rfl) .i64 2 (by omega) (by omega)]
  have hs : (sizeOf (Tryz.prog.elem 55)).run Tryz.prog w' = .ok 1 w' := by kernel_rfl
  rw [hs]
  simp only [Result.andThen, sliced]
  rw [show Int.toNat 2 = 2 from rfl, if_neg (by omega)]
  rfl
theorem vals_six {w : World} {bb o c : Nat} {a b d e f g : ByteArray} (h : IsVals w (.slice (some ⟨bb, o, none⟩) 6 c) ([a, b, d, e, f, g].map Value.string)) :
    bb < w.heap.size ∧ w.cell? ⟨bb, o, none⟩ = some (.string a) ∧ w.cell? ⟨bb, o + 1, none⟩ = some (.string b) ∧ IsVals w (.slice (some ⟨bb, o + 2, none⟩) 4 (c - 2)) ([d, e, f, g].map Value.string) := by
  obtain ⟨a', c', e', _, hx⟩ := h
  simp only [Value.slice.injEq] at e'
  obtain ⟨rfl, -, rfl⟩ := e'
  rcases hx with hx | ⟨b2, o2, h2, hb, hc⟩
  · cases hx
  · cases h2
    refine ⟨hb, hc 0 _ rfl, hc 1 _ rfl, ⟨_, c - 2, rfl, by simp; unfold maxLen; omega, .inr ⟨bb, o + 2, rfl, hb, fun i x hi => ?_⟩⟩⟩
    have := hc (i + 2) x (by simpa using hi)
    rw [show o + 2 + i = o + (i + 2) from by omega]
    exact this
end Go.Proofs.YtgjnlgcdpbilfaaGreatDoor
namespace Go.Proofs.YtgjnlgcdpbilfaaGreatDoor
open Go.ChangeShapes Go.WideShapes Go.ChangeAt Go.RowKit Go.Maps
set_option linter.unusedVariables false
set_option linter.unusedSimpArgs false
theorem stockL : bStock.toList = [115, 116, 111, 99, 107] := by rw [ByteArray.toList_eq]; rfl
theorem nums_val {l : List ByteArray} {N : List Int} (h : nums l = some N) : N = l.map fun x => numN x 4 := by
  unfold nums at h
  split at h
  · cases h; rfl
  · cases h
theorem stk_box {w w' : World} (g : Gr (w.alloc (.cells #[.string ⟨#[]⟩, .int .i64 0, .int .i64 0, .int .i64 0, .int .i64 0] 64)) w') : w.heap.size < w'.heap.size ∧ w'.cell? ⟨w.heap.size, 0, none⟩ = some (.string ⟨#[]⟩) ∧ w'.cell? ⟨w.heap.size, 1, none⟩ = some (.int .i64 0) ∧ w'.cell? ⟨w.heap.size, 2, none⟩ = some (.int .i64 0) ∧ w'.cell? ⟨w.heap.size, 3, none⟩ = some (.int .i64 0) ∧ w'.cell? ⟨w.heap.size, 4, none⟩ = some (.int .i64 0) ∧ w'.frozen? ⟨w.heap.size, 0, none⟩ = false ∧ w'.frozen? ⟨w.heap.size, 1, none⟩ = false ∧ w'.frozen? ⟨w.heap.size, 2, none⟩ = false ∧ w'.frozen? ⟨w.heap.size, 3, none⟩ = false ∧ w'.frozen? ⟨w.heap.size, 4, none⟩ = false := by
  have hz : w.heap.size < ((w.alloc (.cells #[.string ⟨#[]⟩, .int .i64 0, .int .i64 0, .int .i64 0, .int .i64 0] 64))).heap.size := by simp
  refine ⟨Nat.lt_of_lt_of_le hz g.size, (g.cell _ _ hz).trans ?_, (g.cell _ _ hz).trans ?_, (g.cell _ _ hz).trans ?_, (g.cell _ _ hz).trans ?_, (g.cell _ _ hz).trans ?_, (g.frozen _ _ hz).trans ?_, (g.frozen _ _ hz).trans ?_, (g.frozen _ _ hz).trans ?_, (g.frozen _ _ hz).trans ?_, (g.frozen _ _ hz).trans ?_⟩
  all_goals go_simp
theorem four_vals {w : World} {v : Value} {a b c d : Int} (h : IsVals w v ([a, b, c, d].map (Value.int .i64))) :
    ∃ bb o cc, v = .slice (some ⟨bb, o, none⟩) 4 cc ∧ bb < w.heap.size ∧ w.cell? ⟨bb, o, none⟩ = some (.int .i64 a) ∧ w.cell? ⟨bb, o + 1, none⟩ = some (.int .i64 b) ∧ w.cell? ⟨bb, o + 2, none⟩ = some (.int .i64 c) ∧ w.cell? ⟨bb, o + 3, none⟩ = some (.int .i64 d) := by
  obtain ⟨a', c', rfl, _, hx⟩ := h
  rcases hx with hx | ⟨b2, o2, rfl, hb, hc⟩
  · cases hx
  · exact ⟨b2, o2, c', rfl, hb, hc 0 _ rfl, hc 1 _ rfl, hc 2 _ rfl, hc 3 _ rfl⟩
set_option maxRecDepth 100000 in
set_option maxHeartbeats 2000000 in
theorem halfStock_any (v : Value) (L : List ByteArray) (w : World) (hv : IsVals w v (L.map Value.string)) (hc : CapOk v) (hs : ∀ x ∈ L, x.size ≤ maxLen) :
    Calls Tryz.prog 85 #[v] w fun e w' => e = .returned (stkR (rowS L)) ∧ Gr w w' := by
  have HV := Lib.hid hv
  obtain ⟨a, c, rfl, hm, -⟩ := hv
  rw [List.length_map] at HV hm hc ⊢
  unfold maxLen at hm
  have hcap := hc _ _ _ rfl
  have g0 : Gr w (w.alloc (.cells #[.string ⟨#[]⟩, .int .i64 0, .int .i64 0, .int .i64 0, .int .i64 0] 64)) := (Gr.refl _).alloc _
  by_cases h6 : L.length = 6
  · obtain ⟨x0, x1, x2, x3, x4, x5, rfl⟩ := list_six h6
    have hne := HV.out
    obtain ⟨a', c', e', _, hx⟩ := hne
    simp only [Value.slice.injEq] at e'
    obtain ⟨rfl, -, rfl⟩ := e'
    rcases hx with hx | ⟨bb, o, rfl, -, -⟩
    · cases hx
    obtain ⟨z, y0, y1, hv4⟩ := vals_six HV.out
    have HV4 := Lib.hid hv4
    have hs1 : x1.size ≤ maxLen := hs x1 (by simp)
    have HNM := Lib.hid (fun w' => name_any x1 hs1 w')
    have HNU := Lib.hid (fun (w' : World) (g : Gr w w') => hnums_any _ [x2, x3, x4, x5] w' (hv4.gr g) (fun x hx => hs x (by simp only [List.mem_cons] at hx ⊢; exact .inr (.inr hx))) (by simp))
    have HSL := slice_two bb o c hcap
    have HR0 := Lib.hid (rowS_six x0 x1 x2 x3 x4 x5)
    have y0 := (g0.cell _ _ z).trans y0
    have y1 := (g0.cell _ _ z).trans y1
    clear hv4 hs hc h6
    dsimp only [List.length] at *
    generalize rowS [x0, x1, x2, x3, x4, x5] = R at HR0 ⊢
    generalize nmB x1 = q at HNM HR0
    have hh : w.heap.size ≤ w.heap.size := Nat.le_refl _
    by_cases h0 : x0 = bStock
    · subst h0
      have t0 : (bStock.toList == [115, 116, 111, 99, 107]) = true := by rw [stockL]; rfl
      cases q
      · have HR : Hid (R = none) := by show _ = _; rw [HR0.out, if_neg (by simp)]
        clear HR0
        go_enter Tryz.func85, Tryz.ntmps85
        go_wp2_with (first | (go_at_call 72; (with_reducible refine (HNM.out _).mono ?_); rintro e w3 ⟨rfl, hq⟩; obtain rfl := hq.symm) | fail)
        (refine bodyPost_ret (v := .tuple #[.agg #[.string ⟨#[]⟩, .int .i64 0, .int .i64 0, .int .i64 0, .int .i64 0], .bool false]) (by simp [results, Tryz.results85, go_sem]) rfl ⟨by rw [HR.out]; rfl, ?_⟩)
        first | exact g0 | exact g0.trans g4 | exact (((((g0.trans g4).setCell hh _).setCell hh _).setCell hh _).setCell hh _).setCell hh _ | exact ((((g0.setCell hh _).setCell hh _).setCell hh _).setCell hh _).setCell hh _
      · cases hn : nums [x2, x3, x4, x5] with
        | none =>
          have HR : Hid (R = none) := by show _ = _; rw [HR0.out, if_pos (by simp), hn]
          have HNN : Hid (∀ w', Gr w w' → Calls Tryz.prog 115 #[.slice (some ⟨bb, o + 2, none⟩) 4 (c - 2)] w' fun e w'' => ∃ v, e = .returned (.tuple #[v, .bool false]) ∧ Gr w' w'') := fun w' g => by
            have := HNU.out w' g
            rw [hn] at this
            exact this.mono fun e w2 ⟨v, he, _, hg⟩ => ⟨v, he, hg⟩
          clear HR0 hn HNU
          go_enter Tryz.func85, Tryz.ntmps85
          go_wp2_with (first | (first | (go_at_call 72; (with_reducible refine (HNM.out _).mono ?_); rintro e w3 ⟨rfl, hq⟩; obtain rfl := hq.symm) | fail) | (go_at_call 115; (with_reducible refine (HNN.out _ g0).mono ?_); rintro e w4 ⟨v4, rfl, g4⟩; obtain ⟨z4, k0, k1, k2, k3, k4, f0, f1, f2, f3, f4⟩ := stk_box g4) | fail)
          refine bodyPost_ret (v := .tuple #[.agg #[.string ⟨#[]⟩, .int .i64 0, .int .i64 0, .int .i64 0, .int .i64 0], .bool false]) (by simp [results, Tryz.results85, go_sem, z4, k0, k1, k2, k3, k4, f0, f1, f2, f3, f4]) rfl ⟨by rw [HR.out]; rfl, ?_⟩
          first | exact g0 | exact g0.trans g4 | exact (((((g0.trans g4).setCell hh _).setCell hh _).setCell hh _).setCell hh _).setCell hh _ | exact ((((g0.setCell hh _).setCell hh _).setCell hh _).setCell hh _).setCell hh _
        | some N =>
          have HR : Hid (R = some ⟨x1, numN x2 4, numN x3 4, numN x4 4, numN x5 4⟩) := by show _ = _; rw [HR0.out, if_pos (by simp), hn]
          have hN := nums_val hn
          have HNN : Hid (∀ w', Gr w w' → Calls Tryz.prog 115 #[.slice (some ⟨bb, o + 2, none⟩) 4 (c - 2)] w' fun e w'' => ∃ v, e = .returned (.tuple #[v, .bool true]) ∧ IsVals w'' v ([numN x2 4, numN x3 4, numN x4 4, numN x5 4].map (Value.int .i64)) ∧ Gr w' w'') := fun w' g => by
            have := HNU.out w' g
            rw [hn] at this
            exact this.mono fun e w2 ⟨v, he, hv, hg⟩ => ⟨v, he, by rw [hN] at hv; exact hv, hg⟩
          clear HR0 hn HNU hN
          generalize numN x2 4 = n2 at HR HNN
          generalize numN x3 4 = n3 at HR HNN
          generalize numN x4 4 = n4 at HR HNN
          generalize numN x5 4 = n5 at HR HNN
          go_enter Tryz.func85, Tryz.ntmps85
          go_wp2_with (first | (first | (go_at_call 72; (with_reducible refine (HNM.out _).mono ?_); rintro e w3 ⟨rfl, hq⟩; obtain rfl := hq.symm) | fail) | (go_at_call 115; (with_reducible refine (HNN.out _ g0).mono ?_); rintro e w4 ⟨v4, rfl, hv4, g4⟩; obtain ⟨b4, o4, c4, rfl, z5, m0, m1, m2, m3⟩ := four_vals hv4; obtain ⟨z4, k0, k1, k2, k3, k4, f0, f1, f2, f3, f4⟩ := stk_box g4; have y1 := (g4.cell _ _ (Nat.lt_of_lt_of_le z g0.size)).trans y1) | fail)
          clear HNN hv4
          go_region
          all_goals go_wp2_with fail
          all_goals
            refine bodyPost_ret (v := .tuple #[.agg #[.string x1, .int .i64 n2, .int .i64 n3, .int .i64 n4, .int .i64 n5], .bool true]) (by simp [results, Tryz.results85, go_sem, z4, k0, k1, k2, k3, k4, f0, f1, f2, f3, f4]) rfl ⟨by rw [HR.out]; rfl, ?_⟩
            first | exact (((((g0.trans g4).drew.setCell hh _).setCell hh _).setCell hh _).setCell hh _).setCell hh _ | exact ((((((g0.trans g4).setCell hh _).setCell hh _).setCell hh _).setCell hh _).setCell hh _).drew
    · have HR : Hid (R = none) := by show _ = _; rw [HR0.out, if_neg (by simp [h0])]
      have t0 : (x0.toList == [115, 116, 111, 99, 107]) = false := by rw [← stockL]; exact str_ne h0
      clear HR0 h0
      go_enter Tryz.func85, Tryz.ntmps85
      go_wp2_with fail
      (refine bodyPost_ret (v := .tuple #[.agg #[.string ⟨#[]⟩, .int .i64 0, .int .i64 0, .int .i64 0, .int .i64 0], .bool false]) (by simp [results, Tryz.results85, go_sem]) rfl ⟨by rw [HR.out]; rfl, ?_⟩)
      first | exact g0 | exact g0.trans g4 | exact (((((g0.trans g4).setCell hh _).setCell hh _).setCell hh _).setCell hh _).setCell hh _ | exact ((((g0.setCell hh _).setCell hh _).setCell hh _).setCell hh _).setCell hh _
  · have HR : Hid (rowS L = none) := rowS_len h6
    have t6 : ((L.length : Int) != 6) = true := bneT (by omega)
    clear hc h6
    have hh : w.heap.size ≤ w.heap.size := Nat.le_refl _
    go_enter Tryz.func85, Tryz.ntmps85
    go_wp2_with fail
    (refine bodyPost_ret (v := .tuple #[.agg #[.string ⟨#[]⟩, .int .i64 0, .int .i64 0, .int .i64 0, .int .i64 0], .bool false]) (by simp [results, Tryz.results85, go_sem]) rfl ⟨by rw [HR.out]; rfl, ?_⟩)
    first | exact g0 | exact g0.trans g4 | exact (((((g0.trans g4).setCell hh _).setCell hh _).setCell hh _).setCell hh _).setCell hh _ | exact ((((g0.setCell hh _).setCell hh _).setCell hh _).setCell hh _).setCell hh _
end Go.Proofs.YtgjnlgcdpbilfaaGreatDoor
namespace Go.Proofs.YtgjnlgcdpbilfaaGreatDoor
open Go.ChangeShapes Go.WideShapes Go.ChangeAt Go.RowKit Go.Maps
set_option linter.unusedVariables false
set_option linter.unusedSimpArgs false
structure RowW (w wr : World) (m0 m1 m2 m3 : Int) : Prop where
  gr : Gr w wr
  lt : w.heap.size + 1 < wr.heap.size
  k0 : wr.cell? ⟨w.heap.size, 0, none⟩ = some (.string ⟨#[]⟩)
  k1 : wr.cell? ⟨w.heap.size, 1, none⟩ = some (.int .i64 0)
  k2 : wr.cell? ⟨w.heap.size, 2, none⟩ = some (.int .i64 0)
  k3 : wr.cell? ⟨w.heap.size, 3, none⟩ = some (.int .i64 0)
  k4 : wr.cell? ⟨w.heap.size, 4, none⟩ = some (.int .i64 0)
  f0 : wr.frozen? ⟨w.heap.size, 0, none⟩ = false
  f1 : wr.frozen? ⟨w.heap.size, 1, none⟩ = false
  f2 : wr.frozen? ⟨w.heap.size, 2, none⟩ = false
  f3 : wr.frozen? ⟨w.heap.size, 3, none⟩ = false
  f4 : wr.frozen? ⟨w.heap.size, 4, none⟩ = false
  m0 : wr.cell? ⟨w.heap.size + 1, 0, none⟩ = some (.int .i64 m0)
  m1 : wr.cell? ⟨w.heap.size + 1, 1, none⟩ = some (.int .i64 m1)
  m2 : wr.cell? ⟨w.heap.size + 1, 2, none⟩ = some (.int .i64 m2)
  m3 : wr.cell? ⟨w.heap.size + 1, 3, none⟩ = some (.int .i64 m3)
  e0 : wr.frozen? ⟨w.heap.size + 1, 0, none⟩ = false
  e1 : wr.frozen? ⟨w.heap.size + 1, 1, none⟩ = false
  e2 : wr.frozen? ⟨w.heap.size + 1, 2, none⟩ = false
  e3 : wr.frozen? ⟨w.heap.size + 1, 3, none⟩ = false
theorem RowW.start (w : World) : RowW w ((w.alloc (.cells #[.string ⟨#[]⟩, .int .i64 0, .int .i64 0, .int .i64 0, .int .i64 0] 64)).alloc (.cells #[.int .i64 0, .int .i64 0, .int .i64 0, .int .i64 0] 118)) 0 0 0 0 := by
  refine ⟨((Gr.refl _).alloc _).alloc _, by simp, ?_, ?_, ?_, ?_, ?_, ?_, ?_, ?_, ?_, ?_, ?_, ?_, ?_, ?_, ?_, ?_, ?_, ?_⟩
  all_goals go_simp
theorem RowW.put {w wr : World} {m0 m1 m2 m3 : Int} (h : RowW w wr m0 m1 m2 m3) (k : Nat) (n : Int) :
    RowW w (wr.setCell ⟨w.heap.size + 1, k, none⟩ (.int .i64 n)) (if k = 0 then n else m0) (if k = 1 then n else m1) (if k = 2 then n else m2) (if k = 3 then n else m3) := by
  have ne : ∀ j, (⟨w.heap.size + 1, k, none⟩ : Addr) ≠ ⟨w.heap.size, j, none⟩ := fun j e => by simp at e
  have key : ∀ (j : Nat) (m : Int), wr.cell? ⟨w.heap.size + 1, j, none⟩ = some (.int .i64 m) → (wr.setCell ⟨w.heap.size + 1, k, none⟩ (.int .i64 n)).cell? ⟨w.heap.size + 1, j, none⟩ = some (.int .i64 (if k = j then n else m)) := fun j m hj => by
    by_cases e : k = j
    · subst e; rw [if_pos rfl]; exact World.cell?_setCell_same _ _ _ hj
    · rw [if_neg e]; exact (World.cell?_setCell_other _ _ _ _ (fun e2 => e (by injection e2))).trans hj
  exact ⟨h.gr.setCell (Nat.le_succ _) _, (by simpa using h.lt), (World.cell?_setCell_other _ _ _ _ (ne 0)).trans h.k0, (World.cell?_setCell_other _ _ _ _ (ne 1)).trans h.k1, (World.cell?_setCell_other _ _ _ _ (ne 2)).trans h.k2, (World.cell?_setCell_other _ _ _ _ (ne 3)).trans h.k3, (World.cell?_setCell_other _ _ _ _ (ne 4)).trans h.k4,
    by simpa using h.f0, by simpa using h.f1, by simpa using h.f2, by simpa using h.f3, by simpa using h.f4, key 0 _ h.m0, key 1 _ h.m1, key 2 _ h.m2, key 3 _ h.m3, by simpa using h.e0, by simpa using h.e1, by simpa using h.e2, by simpa using h.e3⟩
end Go.Proofs.YtgjnlgcdpbilfaaGreatDoor
namespace Go.Proofs.YtgjnlgcdpbilfaaGreatDoor
open Go.ChangeShapes Go.WideShapes Go.ChangeAt Go.RowKit
set_option linter.unusedVariables false
set_option linter.unusedSimpArgs false

structure Tabs (w : World) : Prop where
  pow : Lib.TabIs Tryz.prog w "internal/strconv.uint64pow10" .u64 Lib.pow10Tab
  sh : w.ShapedOpen Tryz.prog
theorem pow_named : Tryz.prog.globalNamed "internal/strconv.uint64pow10" = some 1 := by kernel_rfl
theorem Tabs.gr {w w' : World} (h : Tabs w) (g : Gr w w') : Tabs w' := by
  have hp := h.pow
  have hlt : 1 < w.heap.size := by
    unfold Lib.TabIs World.var? at hp
    rw [pow_named] at hp
    simp only [Option.bind_some] at hp
    rcases Nat.lt_or_ge 1 w.heap.size with hl | hl
    · exact hl
    · rw [Array.getElem?_eq_none hl] at hp
      cases hp
  exact ⟨var?_below g pow_named hlt hp, shp_gr h.sh g⟩
end Go.Proofs.YtgjnlgcdpbilfaaGreatDoor
namespace Go.Proofs.YtgjnlgcdpbilfaaGreatDoor
open Go.ChangeShapes Go.WideShapes Go.ChangeAt Go.RowKit
set_option linter.unusedVariables false
set_option linter.unusedSimpArgs false

set_option maxHeartbeats 400000 in
theorem refLines_any (s : ByteArray) (hs : s.size ≤ 1048576) (w : World) :
    Calls Tryz.prog 23 #[.string s] w (RetS w (lnB s)) := by
  obtain ⟨i0, hi, hz0, hz1, hz2⟩ := info_parts Tryz.infoS
  go_enter Tryz.func23, Tryz.ntmps23
  go_wp2
  go_loopw [3, 4, 5] (fun v f i wr => ∃ (V : Value) (F I : Nat) (L : List ByteArray), V = v ∧ f = .int .i64 F ∧ i = .int .i64 I ∧ F ≤ I ∧ I ≤ s.size ∧ L.length ≤ I ∧ OwnS w.heap.size wr V L ∧ Hid (L ++ lnR s F I = lnB s) ∧ Gr w wr) (fun _ _ i _ => s.size - (intOf i).toNat)
  case atStart => exact ⟨_, 0, 0, [], rfl, rfl, rfl, by omega, by omega, by simp, OwnS.nil _ _, by unfold Hid; rw [lnR_start]; rfl, Gr.refl _⟩
  case round =>
    obtain ⟨v, F, I, L, rfl, rfl, rfl, r1, r2, r3, ho, HL, g⟩ := hrel
    have hown : wr.ownsRow w.heap.size 9 1 v L.length (L.map Value.string) := ho
    have HO := Lib.hid hown
    have g' := g
    by_cases hlt : I < s.size
    · have hI : (I : Int) < (s.size : Int) := by omega
      have hF : (F : Int) ≤ (I : Int) := by omega
      by_cases hnl : s[I] = 10
      · have HN : Hid ((L ++ [s.extract F I]) ++ lnR s (I + 1) (I + 1) = lnB s) := by
          unfold Hid; rw [← HL.out, lnR_nl s F I r1 hlt hnl]; simp
        have ht : ((s[I].toNat : Int) == 10) = true := by rw [hnl]; rfl
        clear hnl HL ho hown
        go_wp2_with (first | (at_builtin; refine wpList_append_own _ rfl _ _ 55 rfl w.heap.size 9 i0 (.string ByteArray.empty) 1 16 Tryz.underlying55 hi hz0 hz1 hz2 rfl (by decide) _ _ _ rfl (HO.out.alloc _) ⟨wr.heap.size, 0, none⟩ 1 1 [.string (s.extract F I)] rfl rfl ?c1 ?c2 ?c3 ?c4 ?c5 ?_))
        case c1 => exact cell_one_new _ _ _
        case c2 => simp [Value.oneCell']
        case c3 => unfold maxLen; omega
        case c4 => omega
        case c5 => have := g.size; simp; omega
        intro v' w1 hown' hgrow _
        have hg1 : Gr w w1 := Gr.grown (g'.alloc _) hgrow HO.out
        have ho1 : OwnS w.heap.size w1 v' (L ++ [s.extract F I]) := OwnS.snoc hown'
        clear hown' hgrow HO
        go_wp2
        go_roundw
        case rel => exact ⟨_, I + 1, I + 1, L ++ [s.extract F I], rfl, by go_num, by go_num, by omega, by omega, by simp; omega, ho1, HN, hg1⟩
        case measure => simp [intOf]; omega
      · have HN : Hid (L ++ lnR s F (I + 1) = lnB s) := by
          unfold Hid; rw [← HL.out, lnR_step s F I r1 hlt hnl]
        have ht : ((s[I].toNat : Int) == 10) = false := by
          simp
          intro e
          apply hnl
          apply UInt8.toNat_inj.1
          have : (10 : UInt8).toNat = 10 := rfl
          omega
        clear hnl HL
        go_wp2
        go_roundw
        case rel => exact ⟨_, F, I + 1, L, rfl, rfl, by go_num, by omega, by omega, by omega, ho, HN, g⟩
        case measure => simp [intOf]; omega
    · obtain rfl : I = s.size := by omega
      have hE := lnR_end s F r1
      by_cases hf : F < s.size
      · have hF : (F : Int) < (s.size : Int) := by omega
        have HN : Hid (L ++ [s.extract F s.size] = lnB s) := by
          unfold Hid; rw [← HL.out, hE, if_pos hf]
        clear HL hE ho hown
        go_wp2_with (first | (at_builtin; refine wpList_append_own _ rfl _ _ 55 rfl w.heap.size 9 i0 (.string ByteArray.empty) 1 16 Tryz.underlying55 hi hz0 hz1 hz2 rfl (by decide) _ _ _ rfl (HO.out.alloc _) ⟨wr.heap.size, 0, none⟩ 1 1 [.string (s.extract F s.size)] rfl rfl ?c1 ?c2 ?c3 ?c4 ?c5 ?_))
        case c1 => exact cell_one_new _ _ _
        case c2 => simp [Value.oneCell']
        case c3 => unfold maxLen; omega
        case c4 => omega
        case c5 => have := g.size; simp; omega
        intro v' w1 hown' hgrow _
        have hg1 : Gr w w1 := Gr.grown (g'.alloc _) hgrow HO.out
        have ho1 : OwnS w.heap.size w1 v' (L ++ [s.extract F s.size]) := OwnS.snoc hown'
        have hv := ho1.vals (by unfold maxLen; simp; omega)
        clear hown' hgrow HO
        go_wp2
        go_ret
        refine ⟨v', rfl, ?_, hg1⟩
        rw [← HN.out]; exact hv
      · have HN : Hid (L = lnB s) := by
          unfold Hid; rw [← HL.out, hE, if_neg hf]; simp
        have hv := ho.vals (by unfold maxLen; omega)
        clear HL hE
        go_wp2
        go_ret
        refine ⟨v, rfl, ?_, g⟩
        rw [← HN.out]; exact hv
end Go.Proofs.YtgjnlgcdpbilfaaGreatDoor
namespace Go.Proofs.YtgjnlgcdpbilfaaGreatDoor
open Go.ChangeShapes Go.WideShapes Go.ChangeAt Go.RowKit
set_option linter.unusedVariables false
set_option linter.unusedSimpArgs false

theorem idx_none {s : ByteArray} (h : Lib.indexByte s.data.toList 10 = -1) : ∀ c ∈ s.data.toList, c ≠ 10 := by
  intro c hc e
  obtain ⟨k, hk⟩ := List.mem_iff_getElem?.1 hc
  exact Lib.indexByte_none h k (by rw [hk, e])
theorem idx_some {s : ByteArray} {i : Nat} (h : Lib.indexByte s.data.toList 10 = i) : s.data.toList[i]? = some 10 ∧ ∀ c ∈ s.data.toList.take i, c ≠ 10 := by
  obtain ⟨h1, h2⟩ := Lib.indexByte_some h
  refine ⟨h1, fun c hc e => ?_⟩
  obtain ⟨k, hk⟩ := List.mem_iff_getElem?.1 hc
  have hki : k < i := by
    have := (List.getElem?_eq_some_iff.1 hk).1
    simp at this
    omega
  rw [List.getElem?_take, if_pos hki] at hk
  exact h2 k hki (by rw [hk, e])
theorem toList_ne {s : ByteArray} : (s.toList = []) ↔ s.size = 0 := by
  rw [ByteArray.toList_eq]
  have hl : s.data.toList.length = s.size := by simp
  rw [← hl, List.length_eq_zero_iff]
set_option maxRecDepth 100000 in
set_option maxHeartbeats 400000 in
theorem lines_any (s : ByteArray) (hs : s.size ≤ 1048576) (w : World) :
    Calls Tryz.prog 51 #[.string s] w (RetS w (lnB s)) := by
  obtain ⟨i0, hi, hz0, hz1, hz2⟩ := info_parts Tryz.infoS
  go_enter Tryz.func51, Tryz.ntmps51
  go_wp2
  go_loopw [0, 3, 4] (fun x v _ wr => ∃ (V : Value) (r : ByteArray) (L : List ByteArray), V = v ∧ x = .string r ∧ L.length + r.size ≤ s.size ∧ OwnS w.heap.size wr V L ∧ Hid (L ++ lnB r = lnB s) ∧ Gr w wr) (fun x _ _ _ => match x with | .string r => r.size | _ => 0)
  case atStart => exact ⟨_, s, [], rfl, rfl, by simp, OwnS.nil _ _, rfl, Gr.refl _⟩
  case round =>
    obtain ⟨v, r, L, rfl, rfl, r1, ho, HL, g⟩ := hrel
    have HO : Hid (wr.ownsRow w.heap.size 9 1 v L.length (L.map Value.string)) := ho
    have g' := g
    by_cases he : r.size = 0
    · have hd : r.data.toList = [] := List.length_eq_zero_iff.1 (by simpa using he)
      have HN : Hid (L = lnB s) := by unfold Hid; rw [← HL.out, lnB_empty r hd]; simp
      have hv := ho.vals (by unfold maxLen; omega)
      have hl : r.toList = [] := toList_ne.2 he
      have hl2 : (!r.toList.isEmpty) = false := by rw [hl]; rfl
      have hl3 : r.toList.isEmpty = true := by rw [hl]; rfl
      clear HL ho HO hd he
      go_wp2
      go_ret
      refine ⟨v, rfl, ?_, g⟩
      rw [← HN.out]; exact hv
    · have hne : r.data.toList ≠ [] := fun e => he (by have := congrArg List.length e; simpa using this)
      have hl : ¬ r.toList = [] := fun e => he (toList_ne.1 e)
      have hl2 : (!r.toList.isEmpty) = true := by simp [List.isEmpty_iff, hl]
      have hl3 : r.toList.isEmpty = false := by simp [List.isEmpty_iff, hl]
      rcases Int.lt_or_le (Lib.indexByte r.data.toList 10) 0 with hi0 | hi0
      · have hm : Lib.indexByte r.data.toList 10 = -1 := by have := Lib.indexByte_ge r.data.toList 10; omega
        have HN : Hid (L ++ [r] = lnB s) := by unfold Hid; rw [← HL.out, lnB_none r hne (idx_none hm)]
        have HM := Lib.hid hm
        clear HL ho hne hl hm hi0
        go_wp2_with fail
        refine (Tryz.strings_IndexByte r 10 _).mono ?_
        rintro e w1 ⟨rfl, rfl⟩
        have e10 : (10 : Int).toNat.toUInt8 = 10 := rfl
        rw [e10, HM.out]
        clear e10
        go_wp2_with (first | (at_builtin; refine wpList_append_own _ rfl _ _ 55 rfl w.heap.size 9 i0 (.string ByteArray.empty) 1 16 Tryz.underlying55 hi hz0 hz1 hz2 rfl (by decide) _ _ _ rfl (HO.out.alloc _) ⟨_, 0, none⟩ 1 1 [.string r] rfl rfl ?c1 ?c2 ?c3 ?c4 ?c5 ?_))
        case c1 => exact cell_one_new _ _ _
        case c2 => simp [Value.oneCell']
        case c3 => unfold maxLen; omega
        case c4 => omega
        case c5 => have := g.size; simp; omega
        intro v' w2 hown' hgrow _
        have hg1 : Gr w w2 := Gr.grown (g'.alloc _) hgrow HO.out
        have ho1 : OwnS w.heap.size w2 v' (L ++ [r]) := OwnS.snoc hown'
        have hv := ho1.vals (by unfold maxLen; simp; omega)
        clear hown' hgrow HO
        go_wp2
        go_ret
        refine ⟨v', rfl, ?_, hg1⟩
        rw [← HN.out]; exact hv
      · obtain ⟨i, hin⟩ : ∃ i : Nat, Lib.indexByte r.data.toList 10 = i := ⟨(Lib.indexByte r.data.toList 10).toNat, by omega⟩
        obtain ⟨x1, x2⟩ := idx_some hin
        have ilt : i < r.size := by have := (List.getElem?_eq_some_iff.1 x1).1; simpa using this
        have HN : Hid ((L ++ [r.extract 0 i]) ++ lnB (r.extract (i + 1) r.size) = lnB s) := by
          unfold Hid; rw [← HL.out, lnB_at r i x1 x2]; simp
        have HM := Lib.hid hin
        have b1 : (i : Int) < (r.size : Int) := by omega
        have b2 : (i : Int) ≤ (r.size : Int) := by omega
        have b3 : (i : Int) + 1 ≤ (r.size : Int) := by omega
        have b4 : (r.size : Int) ≤ 1048576 := by omega
        clear HL ho hne hl hin hi0 x1 x2
        go_wp2_with fail
        refine (Tryz.strings_IndexByte r 10 _).mono ?_
        rintro e w1 ⟨rfl, rfl⟩
        have e10 : (10 : Int).toNat.toUInt8 = 10 := rfl
        rw [e10, HM.out]
        clear e10
        go_wp2_with (first | (at_builtin; refine wpList_append_own _ rfl _ _ 55 rfl w.heap.size 9 i0 (.string ByteArray.empty) 1 16 Tryz.underlying55 hi hz0 hz1 hz2 rfl (by decide) _ _ _ rfl (HO.out.alloc _) ⟨_, 0, none⟩ 1 1 [.string (r.extract 0 i)] rfl rfl ?c1 ?c2 ?c3 ?c4 ?c5 ?_))
        case c1 => exact cell_one_new _ _ _
        case c2 => simp [Value.oneCell']
        case c3 => unfold maxLen; omega
        case c4 => omega
        case c5 => have := g.size; simp; omega
        intro v' w2 hown' hgrow _
        have hg1 : Gr w w2 := Gr.grown (g'.alloc _) hgrow HO.out
        have ho1 : OwnS w.heap.size w2 v' (L ++ [r.extract 0 i]) := OwnS.snoc hown'
        clear hown' hgrow HO
        go_wp2
        go_roundw
        case rel => exact ⟨_, r.extract (i + 1) r.size, L ++ [r.extract 0 i], rfl, rfl, by simp; omega, ho1, HN, hg1⟩
        case measure => simp; omega
end Go.Proofs.YtgjnlgcdpbilfaaGreatDoor
namespace Go.Proofs.YtgjnlgcdpbilfaaGreatDoor
open Go.ChangeShapes Go.WideShapes Go.ChangeAt Go.RowKit Go.Maps
set_option linter.unusedVariables false
set_option linter.unusedSimpArgs false
def OwnK (B : Nat) (w : World) (v : Value) (L : List Stk) : Prop := w.ownsRow B 64 5 v L.length (L.flatMap Stk.cs)
theorem OwnK.nil (B : Nat) (w : World) : OwnK B w (.slice none 0 0) [] := ⟨rfl, .inl ⟨rfl, rfl⟩⟩
theorem OwnK.snoc {B : Nat} {w : World} {v : Value} {L : List Stk} {s : Stk} (h : w.ownsRow B 64 5 v (L.length + 1) (L.flatMap Stk.cs ++ s.cs)) : OwnK B w v (L ++ [s]) := by
  unfold OwnK
  simpa using h
theorem OwnK.stks {B : Nat} {w : World} {v : Value} {L : List Stk} (h : OwnK B w v L) (hl : L.length ≤ maxLen) : IsStks w v L := by
  refine ⟨row_of_own h hl fun i j hi hj => ?_, ?_⟩
  · rw [flat_get Stk.cs 5 (fun _ => rfl) L i j hi hj]
    rw [getD_at _ _ hi]
    match j, hj with
    | 0, _ => rfl
    | 1, _ => rfl
    | 2, _ => rfl
    | 3, _ => rfl
    | 4, _ => rfl
  · intro a n c e
    rcases h.2 with ⟨rfl, h0⟩ | ⟨g, cap, cur, rfl, _, _, hc, _⟩
    · cases e; omega
    · cases e; exact hc
theorem Tryz.infoK : (Tryz.prog.info? 64).map (fun i => (i.zero, i.size, i.bytes)) = some (some (.agg #[.string ByteArray.empty, .int .i64 0, .int .i64 0, .int .i64 0, .int .i64 0]), 5, 48) := by kernel_rfl
theorem unl_len : ∀ (L : List ByteArray), L.length ≤ (unl L).size ∧ ∀ x ∈ L, x.size ≤ (unl L).size
  | [] => ⟨by simp, fun x hx => by cases hx⟩
  | x :: t => by
    have ih := unl_len t
    have h1 : (⟨#[10]⟩ : ByteArray).size = 1 := rfl
    unfold unl
    simp only [size_app, h1, List.length_cons]
    refine ⟨by omega, fun y hy => ?_⟩
    rcases List.mem_cons.1 hy with rfl | hy
    · omega
    · have := ih.2 y hy; omega
theorem lnB_bd (s : ByteArray) : (lnB s).length ≤ s.size + 1 ∧ ∀ x ∈ lnB s, x.size ≤ s.size + 1 := by
  have h := unl_len (lnB s)
  have h1 : (⟨#[10]⟩ : ByteArray).size = 1 := rfl
  rcases unl_lnB s with e | e
  · rw [e] at h
    exact ⟨by omega, fun x hx => by have := h.2 x hx; omega⟩
  · rw [e, size_app, h1] at h
    exact ⟨h.1, h.2⟩
theorem wdS_ne {s : ByteArray} {L : List ByteArray} (h : wdB s = some L) : L ≠ [] ∧ L.length ≤ s.size + 1 ∧ ∀ x ∈ L, x.size ≤ s.size := by
  rw [wdB_pcs] at h
  split at h
  · cases h
    refine ⟨?_, ?_, fun x hx => pcs_size hx⟩
    · intro e
      have h1 := pcs_len s
      rw [e] at h1
      simp at h1
    · rw [pcs_len]
      have := Lib.countB_le blank (by rw [blank_size]; omega) s.size s (Nat.le_refl _)
      omega
  · cases h
theorem stkR_form (o : Option Stk) : ∃ kn kl kt ka kb, stkR o = .tuple #[.agg #[.string kn, .int .i64 kl, .int .i64 kt, .int .i64 ka, .int .i64 kb], .bool o.isSome] ∧ (∀ s, o = some s → s = ⟨kn, kl, kt, ka, kb⟩) := by
  cases o with
  | none => exact ⟨⟨#[]⟩, 0, 0, 0, 0, rfl, fun s h => by cases h⟩
  | some s => exact ⟨s.nm, s.l, s.t, s.a, s.b, rfl, fun s' h => by cases h; rfl⟩
end Go.Proofs.YtgjnlgcdpbilfaaGreatDoor
namespace Go.Proofs.YtgjnlgcdpbilfaaGreatDoor
open Go.ChangeShapes Go.WideShapes Go.ChangeAt Go.RowKit Go.Maps
set_option linter.unusedVariables false
set_option linter.unusedSimpArgs false
theorem twice_find {L : List Stk} : twiceB (L.map (·.nm)) = false ↔ ∀ i (hi : i < L.length), findN L L[i].nm = i := by
  constructor
  · intro h i hi
    refine fstN_go _ hi (by simp) fun k hk hki => ?_
    rw [decide_eq_false_iff_not]
    intro e
    rw [twiceS_yes hi hki e] at h; cases h
  · intro h
    refine twiceS_no fun i k hi hk e => ?_
    have h1 := h i hi
    have h2 := h k (by omega)
    rw [e] at h2
    omega
theorem plain_twice {L : List Stk} (h4 : ¬ 4 < L.length) (hm : ∀ i (hi : i < L.length), mayS L[i] = true) {k : Nat} (hk : k < L.length) (h : findN L L[k].nm ≠ k) : plainE L = 4 := by
  unfold plainE
  rw [if_neg h4, allS_good hm, if_neg (by decide)]
  cases ht : twiceB (L.map (·.nm))
  · exact absurd (twice_find.1 ht k hk) h
  · rw [if_pos rfl]
theorem plain_none {L : List Stk} (h4 : ¬ 4 < L.length) (hm : ∀ i (hi : i < L.length), mayS L[i] = true) (h : ∀ i (hi : i < L.length), findN L L[i].nm = i) : plainE L = 0 := by
  unfold plainE
  rw [if_neg h4, allS_good hm, if_neg (by decide), twice_find.2 h, if_neg (by decide)]
set_option maxRecDepth 100000 in
set_option maxHeartbeats 2000000 in
theorem plain_any (v : Value) (L : List Stk) (w : World) (hL : IsStks w v L) (hok : ∀ s ∈ L, s.nm.size ≤ maxLen) :
    Calls Tryz.prog 59 #[v] w fun e w' => e = .returned (.int .i64 (plainE L)) ∧ Gr w w' := by
  have HL := Lib.hid hL
  obtain ⟨a, c, rfl, hm, hc⟩ := hL.form
  unfold maxLen at hm
  have HOK := Lib.hid hok
  clear hL hok
  by_cases h4 : 4 < L.length
  · have h4' : 4 < (L.length : Int) := by omega
    have HR : Hid (plainE L = 3) := by show _ = _; unfold plainE; rw [if_pos h4]
    go_enter Tryz.func59, Tryz.ntmps59
    go_wp2_with fail
    go_ret
    exact ⟨ret_int HR.out.symm, Gr.refl _⟩
  have h4' : ¬ 4 < (L.length : Int) := by omega
  have HF := Lib.hid (fun (n : ByteArray) (w' : World) (g : Gr w w') => refFindS_any _ L n w' (HL.out.gr g))
  go_enter Tryz.func59, Tryz.ntmps59
  go_wp2_with fail
  go_loopw [12] (fun y wr => ∃ (k : Nat), y = .int .i64 k ∧ k ≤ L.length ∧ Gr w wr ∧ Hid (∀ i (hi : i < L.length), i < k → mayS L[i] = true)) (fun y _ => L.length - (intOf y).toNat)
  case atStart => exact ⟨0, rfl, Nat.zero_le _, Gr.refl _, fun i _ h => by omega⟩
  case round =>
    obtain ⟨k, rfl, hk, g, HA⟩ := hrel
    by_cases hlt : k < L.length
    · have hk1 : (k : Int) < (L.length : Int) := by omega
      obtain ⟨bb, o, hs, z, y0, y1, y2, y3, y4⟩ := (HL.out.gr g).at k hlt
      subst hs
      have hsz := HOK.out _ (List.getElem_mem hlt)
      have HM := Lib.hid (fun w' => may_any L[k].nm L[k].l L[k].t L[k].a L[k].b hsz w')
      have HN1 : Hid (mayS L[k] = false → plainE L = 1) := fun h => plain_arg h4 hlt h
      have HA2 : Hid (mayS L[k] = true → ∀ i (hi : i < L.length), i < k + 1 → mayS L[i] = true) := fun h i hi hik => by
        by_cases e : i = k
        · subst e; exact h
        · exact HA.out i hi (by omega)
      have e : mayS L[k] = mayB L[k].nm L[k].l L[k].t L[k].a L[k].b := rfl
      rw [← e] at HM
      clear e HA
      generalize hmq : mayS L[k] = q at HM HN1 HA2
      clear hmq
      generalize hL0 : L[k] = s at y0 y1 y2 y3 y4 HM hsz
      clear hL0
      obtain ⟨nm, l, t, a', b⟩ := s
      dsimp only at y0 y1 y2 y3 y4 HM
      cases q
      · have HR := Lib.hid (HN1.out rfl)
        clear HN1 HA2
        go_wp2_with (first | (go_at_call 93; (with_reducible refine (HM.out _).mono ?_); rintro e w2 ⟨rfl, g2⟩) | fail)
        go_ret
        exact ⟨ret_int HR.out.symm, (g.alloc _).trans g2⟩
      · have HA3 := Lib.hid (HA2.out rfl)
        clear HN1 HA2
        go_wp2_with (first | (go_at_call 93; (with_reducible refine (HM.out _).mono ?_); rintro e w2 ⟨rfl, g2⟩) | fail)
        go_roundw
        case rel => exact ⟨k + 1, by go_num, hlt, (g.alloc _).trans g2, HA3.out⟩
        case measure => simp [intOf]; omega
    · have hk1 : ¬ (k : Int) < (L.length : Int) := by omega
      have HMA : Hid (∀ i (hi : i < L.length), mayS L[i] = true) := fun i hi => HA.out i hi (by omega)
      go_wp2_with fail
      go_loopw [5, 22] (fun _ y w3 => ∃ (k : Nat), y = .int .i64 k ∧ k ≤ L.length ∧ Gr w w3 ∧ Hid (∀ i (hi : i < L.length), i < k → findN L L[i].nm = i)) (fun _ y _ => L.length - (intOf y).toNat)
      case atStart => exact ⟨0, rfl, Nat.zero_le _, g, fun i _ h => by omega⟩
      case round =>
        clear HA hlt hk1 hk g
        obtain ⟨k, rfl, hk, g, HA⟩ := hrel
        rename_i w3
        by_cases hlt : k < L.length
        · have hk1 : (k : Int) < (L.length : Int) := by omega
          obtain ⟨bb, o, hs, z, y0, y1, y2, y3, y4⟩ := (HL.out.gr g).at k hlt
          subst hs
          have HFk := Lib.hid (HF.out L[k].nm)
          have HN1 : Hid (findN L L[k].nm ≠ k → plainE L = 4) := fun h => plain_twice h4 HMA.out hlt h
          have HA2 : Hid (findN L L[k].nm = k → ∀ i (hi : i < L.length), i < k + 1 → findN L L[i].nm = i) := fun h i hi hik => by
            by_cases e : i = k
            · subst e; exact h
            · exact HA.out i hi (by omega)
          clear HA
          generalize findN L L[k].nm = q at HFk HN1 HA2
          generalize hL0 : L[k] = s at y0 y1 y2 y3 y4 HFk
          clear hL0
          obtain ⟨nm, l, t, a', b⟩ := s
          dsimp only at y0 y1 y2 y3 y4 HFk
          by_cases hq : q = k
          · have HA3 := Lib.hid (HA2.out hq)
            have tq : (q != (k : Int)) = false := bneF hq
            clear HN1 HA2 hq
            go_wp2_with (first | (go_at_call 89; (with_reducible refine (HFk.out _ (g.alloc _)).mono ?_); rintro e w2 ⟨rfl, g2⟩) | fail)
            go_roundw
            case rel => exact ⟨k + 1, by go_num, hlt, (g.alloc _).trans g2, HA3.out⟩
            case measure => simp [intOf]; omega
          · have HR := Lib.hid (HN1.out hq)
            have tq : (q != (k : Int)) = true := bneT hq
            clear HN1 HA2 hq
            go_wp2_with (first | (go_at_call 89; (with_reducible refine (HFk.out _ (g.alloc _)).mono ?_); rintro e w2 ⟨rfl, g2⟩) | fail)
            go_ret
            exact ⟨ret_int HR.out.symm, (g.alloc _).trans g2⟩
        · have hk1 : ¬ (k : Int) < (L.length : Int) := by omega
          have HR := Lib.hid (plain_none h4 HMA.out fun i hi => HA.out i hi (by omega))
          go_wp2_with fail
          go_ret
          exact ⟨ret_int HR.out.symm, g⟩
end Go.Proofs.YtgjnlgcdpbilfaaGreatDoor
namespace Go.Proofs.YtgjnlgcdpbilfaaGreatDoor
open Go.ChangeShapes Go.WideShapes Go.ChangeAt Go.RowKit
set_option linter.unusedVariables false
set_option linter.unusedSimpArgs false

theorem Gr.grow {a w : World} (h : Gr a w) (os : Array Obj) : Gr a (Go.Sort.grow w os) :=
  Gr.trans h ⟨rfl, rfl, rfl, by simp [Go.Sort.grow], fun k hk => by
    show (w.heap ++ os)[k]? = _
    rw [Array.getElem?_append_left hk]⟩
theorem digits_word (n : Int) (hn : (Lit.int .i64 n).wf = true) (w : World) (ht : Tabs w) :
    Calls Tryz.prog 46 #[.int .i64 n] w fun e w' => e = .returned (.string (dgs n)) ∧ Gr w w' := by
  have hb : -9223372036854775808 ≤ n ∧ n ≤ 9223372036854775807 := by simpa [Lit.wf, IntKind.min, IntKind.max, IntKind.signed, IntKind.bits] using hn
  have hc := Tryz.strconv_Itoa n hb.1 hb.2 w ht.pow
  have HC := Lib.hid hc
  clear hc hb
  go_enter Tryz.func46, Tryz.ntmps46
  go_wp2_with fail
  refine HC.out.mono ?_
  rintro e w1 ⟨rfl, k, os, rfl⟩
  have hg : Gr w (Go.Sort.grow (w.drewN k) os) := ((Gr.refl w).drewN k).grow os
  go_wp2_with fail
  go_ret
  exact ⟨rfl, hg⟩
end Go.Proofs.YtgjnlgcdpbilfaaGreatDoor
namespace Go.Proofs.YtgjnlgcdpbilfaaGreatDoor
open Go.ChangeShapes Go.WideShapes Go.ChangeAt Go.RowKit Go.Maps
set_option linter.unusedVariables false
set_option linter.unusedSimpArgs false
theorem ownS_two {w : World} {x y : ByteArray} {B : Nat} (hB : B ≤ w.heap.size) : OwnS B (w.alloc (.cells #[.string x, .string y] 9)) (.slice (some ⟨w.heap.size, 0, none⟩) 2 2) [x, y] :=
  World.ownsRow_lit w #[.string x, .string y] 2 hB (by unfold maxLen; simp) rfl
theorem digits_of {n : Int} {w : World} (ht : Tabs w) (h0 : 0 ≤ n) (h1 : n ≤ 9999) (w' : World) (g : Gr w w') : Calls Tryz.prog 46 #[.int .i64 n] w' fun e w'' => e = .returned (.string (dgs n)) ∧ Gr w' w'' :=
  digits_word n (I64_of (by omega) (by omega)) w' (ht.gr g)
theorem own_ne {w : World} {B : Nat} {e : TypeId} {sz n : Nat} {v : Value} {xs : List Value} (h : w.ownsRow B e sz v n xs) {b : Nat} {cs : Array Value} {e' : TypeId} (hb : w.heap[b]? = some (.cells cs e')) (hne : e' ≠ e) : some b ≠ v.ownBlock := by
  intro hk
  rcases h.2 with ⟨rfl, _⟩ | ⟨g, cap, cur, rfl, _, hh, _⟩
  · cases hk
  · simp only [Value.ownBlock, Option.some.injEq] at hk
    subst hk
    rw [hb] at hh
    simp only [Option.some.injEq, Obj.cells.injEq] at hh
    exact hne hh.2.1
theorem four_at {w : World} {b : Nat} {l t a c : Int} {T : TypeId} (h : w.heap[b]? = some (.cells #[.int .i64 l, .int .i64 t, .int .i64 a, .int .i64 c] T)) (k : Nat) (hk : k < 4) : w.cell? ⟨b, k, none⟩ = some (.int .i64 ([l, t, a, c][k]'(by simpa using hk))) := by
  have hk' : k = 0 ∨ k = 1 ∨ k = 2 ∨ k = 3 := by omega
  rcases hk' with rfl | rfl | rfl | rfl <;> simp [World.cell?, h]
set_option maxRecDepth 100000 in
set_option maxHeartbeats 2000000 in
theorem stLine_any (nm : ByteArray) (l t a b : Int) (w : World) (ht : Tabs w) (hm : mayS ⟨nm, l, t, a, b⟩ = true) :
    Calls Tryz.prog 75 #[.agg #[.string nm, .int .i64 l, .int .i64 t, .int .i64 a, .int .i64 b]] w fun e w' => e = .returned (.string (lineS ⟨nm, l, t, a, b⟩)) ∧ Gr w w' := by
  obtain ⟨h0, h1, h2, h3, h4⟩ := mayS_parts hm
  have hls := lineS_size hm
  have hw : wordsS ⟨nm, l, t, a, b⟩ = [bStock, nm] ++ [l, t, a, b].map dgs := rfl
  have hln : (⟨(Lib.join (([bStock, nm] ++ [l, t, a, b].map dgs).map (·.data.toList)) [32]).toArray⟩ : ByteArray) = lineS ⟨nm, l, t, a, b⟩ := by unfold lineS; rw [hw]; rfl
  generalize lineS ⟨nm, l, t, a, b⟩ = R at hls hln ⊢
  dsimp only at h0 h1 h2 h3 h4
  have HI : Hid (∀ x ∈ [l, t, a, b], 0 ≤ x ∧ x ≤ 9999) := by
    intro x hx
    simp only [List.mem_cons, List.not_mem_nil, or_false] at hx
    rcases hx with rfl | rfl | rfl | rfl <;> omega
  have HD := Lib.hid (fun (n : Int) (h : 0 ≤ n ∧ n ≤ 9999) (w' : World) (g : Gr w w') => digits_of ht h.1 h.2 w' g)
  have HLN := Lib.hid hln
  clear hw hm hln h0 h1 h2 h3 h4
  have g0 : Gr w (w.alloc (.cells #[.string nm, .int .i64 l, .int .i64 t, .int .i64 a, .int .i64 b] 64)) := (Gr.refl _).alloc _
  go_enter Tryz.func75, Tryz.ntmps75
  go_wp2_with fail
  have hB1 : ((((w.alloc (.cells #[.string nm, .int .i64 l, .int .i64 t, .int .i64 a, .int .i64 b] 64))).alloc (.cells #[.string ⟨#[115, 116, 111, 99, 107]⟩, .string nm] 9)).alloc (.cells #[.int .i64 l, .int .i64 t, .int .i64 a, .int .i64 b] 3)).heap[w.heap.size + 1 + 1]? = some (.cells #[.int .i64 l, .int .i64 t, .int .i64 a, .int .i64 b] 3) := by
    have hs : (((w.alloc (.cells #[.string nm, .int .i64 l, .int .i64 t, .int .i64 a, .int .i64 b] 64))).alloc (.cells #[.string ⟨#[115, 116, 111, 99, 107]⟩, .string nm] 9)).heap.size = w.heap.size + 1 + 1 := by simp
    rw [← hs]
    exact heap_alloc_last _ _
  have hO : OwnS w.heap.size ((((w.alloc (.cells #[.string nm, .int .i64 l, .int .i64 t, .int .i64 a, .int .i64 b] 64))).alloc (.cells #[.string ⟨#[115, 116, 111, 99, 107]⟩, .string nm] 9)).alloc (.cells #[.int .i64 l, .int .i64 t, .int .i64 a, .int .i64 b] 3)) (.slice (some ⟨w.heap.size + 1, 0, none⟩) 2 2) [bStock, nm] := by
    have := ownS_two (w := (w.alloc (.cells #[.string nm, .int .i64 l, .int .i64 t, .int .i64 a, .int .i64 b] 64))) (x := bStock) (y := nm) (B := w.heap.size) (by simp)
    have h2 := own_gr this ((Gr.refl _).alloc (.cells #[.int .i64 l, .int .i64 t, .int .i64 a, .int .i64 b] 3))
    have hs : ((w.alloc (.cells #[.string nm, .int .i64 l, .int .i64 t, .int .i64 a, .int .i64 b] 64))).heap.size = w.heap.size + 1 := by simp
    rw [hs] at h2
    exact h2
  have gW : Gr w ((((w.alloc (.cells #[.string nm, .int .i64 l, .int .i64 t, .int .i64 a, .int .i64 b] 64))).alloc (.cells #[.string ⟨#[115, 116, 111, 99, 107]⟩, .string nm] 9)).alloc (.cells #[.int .i64 l, .int .i64 t, .int .i64 a, .int .i64 b] 3)) := (g0.alloc _).alloc _
  have HW := Lib.hid (And.intro hB1 (And.intro hO gW))
  clear hB1 hO gW
  obtain ⟨i0, hi0, hi1, hi2, hi3⟩ := info_parts Tryz.infoS
  go_loopw [3, 5, 19] (fun v _ x wr => ∃ k : Nat, x = .int .i64 k ∧ k ≤ 4 ∧ Gr w wr ∧ OwnS w.heap.size wr v ([bStock, nm] ++ ([l, t, a, b].take k).map dgs) ∧ wr.heap[w.heap.size + 1 + 1]? = some (.cells #[.int .i64 l, .int .i64 t, .int .i64 a, .int .i64 b] 3)) (fun _ _ x _ => 4 - (intOf x).toNat)
  case atStart => exact ⟨0, rfl, Nat.zero_le _, HW.out.2.2, HW.out.2.1, HW.out.1⟩
  case round =>
    clear HW
    obtain ⟨k, rfl, hk, g, ho, hI⟩ := hrel
    obtain ⟨va, vc, rfl⟩ := own_form ho
    by_cases hlt : k < 4
    · have hk1 : (k : Int) < 4 := by omega
      have y0 := four_at hI k hlt
      have hx := HI.out ([l, t, a, b][k]'(by simpa using hlt)) (List.getElem_mem _)
      have HN : Hid ([bStock, nm] ++ ([l, t, a, b].take (k + 1)).map dgs = ([bStock, nm] ++ ([l, t, a, b].take k).map dgs) ++ [dgs ([l, t, a, b][k]'(by simpa using hlt))]) := by
        show _ = _
        rw [List.take_succ_eq_append_getElem (by simpa using hlt), List.map_append, List.append_assoc]; rfl
      have hll : ([bStock, nm] ++ ([l, t, a, b].take k).map dgs).length ≤ 6 := by simp; omega
      have HDk := Lib.hid (HD.out ([l, t, a, b][k]'(by simpa using hlt)) hx)
      have hzI : w.heap.size + 1 + 1 < wr.heap.size := by
        rcases Nat.lt_or_ge (w.heap.size + 1 + 1) wr.heap.size with h | h
        · exact h
        · rw [Array.getElem?_eq_none h] at hI; cases hI
      have HII := Lib.hid hI
      clear hI
      generalize [bStock, nm] ++ ([l, t, a, b].take k).map dgs = L1 at HN ho hll
      generalize [l, t, a, b][k]'(by simpa using hlt) = x at y0 hx HN HDk
      generalize dgs x = d at HN HDk
      have HO : Hid (wr.ownsRow w.heap.size 9 1 (.slice va L1.length vc) L1.length (L1.map Value.string)) := ho
      clear ho
      go_wp2_with (first | (go_at_call 46; (with_reducible refine (HDk.out _ g).mono ?_); rintro e w3 ⟨rfl, g3⟩; have HOz := Lib.hid (own_gr HO.out g3)) | (at_builtin; refine wpList_append_own _ rfl _ _ 55 rfl w.heap.size 9 i0 (.string ByteArray.empty) 1 16 Tryz.underlying55 hi0 hi1 hi2 hi3 rfl (by decide) _ _ _ rfl (HOz.out.alloc _) ⟨w3.heap.size, 0, none⟩ 1 1 [.string d] rfl rfl ?c1 ?c2 ?c3 ?c4 ?c5 ?_))
      case c1 => exact cell_one_new _ _ _
      case c2 => simp [Value.oneCell']
      case c3 => unfold maxLen; omega
      case c4 => omega
      case c5 => have := (g.trans g3).size; simp; omega
      intro v' w4 hown' hgrow _
      have hg1 : Gr w w4 := Gr.grown ((g.trans g3).alloc _) hgrow HO.out
      have hI3 : (w3.alloc (.cells #[.string d] 9)).heap[w.heap.size + 1 + 1]? = some (.cells #[.int .i64 l, .int .i64 t, .int .i64 a, .int .i64 b] 3) := ((g3.alloc (.cells #[.string d] 9)).block _ hzI).trans HII.out
      have hI4 : w4.heap[w.heap.size + 1 + 1]? = some (.cells #[.int .i64 l, .int .i64 t, .int .i64 a, .int .i64 b] 3) := (hgrow.block _ (Nat.lt_of_lt_of_le hzI (g3.alloc _).size) (own_ne HO.out HII.out (by decide))).trans hI3
      have ho1 := Lib.hid (OwnS.snoc hown')
      rw [← HN.out] at ho1
      have HI4 := Lib.hid hI4
      clear hown' hgrow hI4 hI3
      go_wp2_with fail
      go_roundw
      case rel => exact ⟨k + 1, by go_num, hlt, hg1, ho1.out, HI4.out⟩
      case measure => simp [intOf]; omega
    · have hk1 : ¬ (k : Int) < 4 := by omega
      obtain rfl : k = 4 := by omega
      clear hI
      have e4 : [l, t, a, b].take 4 = [l, t, a, b] := rfl
      rw [e4] at ho ⊢
      have hv := ho.vals (by unfold maxLen; simp)
      have hcp := ho.cap _ _ _ rfl
      obtain ⟨a', c', e', -, hx⟩ := hv
      simp only [Value.slice.injEq] at e'
      obtain ⟨rfl, -, rfl⟩ := e'
      rcases hx with hx | ⟨bb, o, rfl, hbb, hcell⟩
      · cases hx
      have HJ : Hid (Calls Tryz.prog 80 #[.slice (some ⟨bb, o, none⟩) ([bStock, nm] ++ [l, t, a, b].map dgs).length vc, .string ⟨#[32]⟩] wr fun e w' => e = .returned (.string R) ∧ Gr wr w') := by
        have := Tryz.strings_Join bb o vc ([bStock, nm] ++ [l, t, a, b].map dgs) ⟨#[32]⟩ wr (fun j x hj => hcell j _ (by rw [List.getElem?_map, hj]; rfl)) hbb (by simp) hcp (by
          have h1 : (Lib.join (([bStock, nm] ++ [l, t, a, b].map dgs).map (·.data.toList)) [32]).length = R.size := by rw [← HLN.out]; rfl
          show (Lib.join _ [32]).length ≤ _
          rw [h1]; omega)
        rw [← HLN.out]
        exact this
      clear hcell hcp ho e4
      generalize ([bStock, nm] ++ [l, t, a, b].map dgs).length = nl at HJ ⊢
      go_wp2_with (first | (go_at_call 80; (with_reducible refine (HJ.out).mono ?_); rintro e w5 ⟨rfl, g5⟩) | fail)
      go_ret
      exact ⟨rfl, g.trans g5⟩
end Go.Proofs.YtgjnlgcdpbilfaaGreatDoor
