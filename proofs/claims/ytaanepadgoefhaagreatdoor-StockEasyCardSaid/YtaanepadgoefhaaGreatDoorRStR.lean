/- half.Numbers, half.Stock, stock.read; the reference's Row. -/
import Derived.Test.YtaanepadgoefhaaGreatDoorRows
import Derived.Test.YtaanepadgoefhaaGreatDoorRStX
import Derived.Test.YtaanepadgoefhaaGreatDoorB6
import Derived.Test.YtaanepadgoefhaaGreatDoorB3
import Derived.Test.YtaanepadgoefhaaGreatDoorRWrd5
import Derived.Test.YtaanepadgoefhaaGreatDoorB9
import Derived.Test.YtaanepadgoefhaaGreatDoorRVls
import Derived.Test.YtaanepadgoefhaaGreatDoorB4
namespace Go.Proofs.YtaanepadgoefhaaGreatDoor
open Go.ChangeShapes Go.WideShapes Go.ChangeAt Go.RowKit Go.Maps
set_option linter.unusedVariables false
set_option linter.unusedSimpArgs false
/-- words as numbers of 1 to 4 digits -/
def nums (l : List ByteArray) : Option (List Int) := if l.all (fun x => numB x 4) then some (l.map fun x => numN x 4) else none
theorem nums_bad {l : List ByteArray} {k : Nat} (hk : k < l.length) (h : numB l[k] 4 = false) : nums l = none := by
  unfold nums
  rw [if_neg]
  simp only [List.all_eq_true]
  intro h2
  rw [h2 _ (List.getElem_mem hk)] at h; cases h
theorem nums_good {l : List ByteArray} (h : ∀ k (hk : k < l.length), numB l[k] 4 = true) : nums l = some (l.map fun x => numN x 4) := by
  unfold nums
  rw [if_pos]
  rw [List.all_eq_true]
  intro x hx
  obtain ⟨k, hk, rfl⟩ := List.getElem_of_mem hx
  exact h k hk
/-- what Numbers returns -/
def RetNm (w : World) (o : Option (List Int)) (e : Ending) (w' : World) : Prop :=
  ∃ v, e = .returned (.tuple #[v, .bool o.isSome]) ∧ IsVals w' v ((o.getD []).map (Value.int .i64)) ∧ Gr w w'
theorem RetNm.no {w w' : World} {o : Option (List Int)} (h : o = none) (g : Gr w w') : RetNm w o (.returned (.tuple #[.slice none 0 0, .bool false])) w' := by
  subst h; exact ⟨_, rfl, ⟨none, 0, rfl, by simp, .inl rfl⟩, g⟩
theorem RetNm.yes {w w' : World} {o : Option (List Int)} {L : List Int} {v : Value} (h : o = some L) (hv : IsVals w' v (L.map (Value.int .i64))) (g : Gr w w') : RetNm w o (.returned (.tuple #[v, .bool true])) w' := by
  subst h; exact ⟨_, rfl, hv, g⟩
set_option maxRecDepth 100000 in
set_option maxHeartbeats 1000000 in
theorem hnums_any (v : Value) (L : List ByteArray) (w : World) (hv : IsVals w v (L.map Value.string)) (hs : ∀ x ∈ L, x.size ≤ maxLen) (hn : L.length ≤ 1000) :
    Calls Tryz.prog 139 #[v] w (RetNm w (nums L)) := by
  have HV := Lib.hid hv
  obtain ⟨a, c, rfl, hm, -⟩ := hv
  rw [List.length_map] at HV hm ⊢
  unfold maxLen at hm
  have HS := Lib.hid hs
  have HNU := Lib.hid (fun (x : ByteArray) (h : x ∈ L) (w' : World) => number_any x 4 (hs x h) w')
  obtain ⟨i0, hi0, hi1, hi2, hi3⟩ := info_parts Tryz.infoI
  clear hs
  go_enter Tryz.func139, Tryz.ntmps139
  go_wp2_with fail
  go_loopw [4, 6, 7, 8, 11] (fun V _ _ _ x wr => ∃ k : Nat, x = .int .i64 k ∧ k ≤ L.length ∧ Gr w wr ∧ OwnI w.heap.size wr V ((L.take k).map fun x => numN x 4) ∧ Hid (∀ i (hi : i < L.length), i < k → numB L[i] 4 = true)) (fun _ _ _ _ x _ => L.length - (intOf x).toNat)
  case atStart => exact ⟨0, rfl, Nat.zero_le _, Gr.refl _, OwnI.nil _ _, fun i _ h => by omega⟩
  case round =>
    obtain ⟨k, rfl, hk, g, ho, HA⟩ := hrel
    obtain ⟨va, vc, rfl⟩ := own_form ho
    by_cases hlt : k < L.length
    · have hk1 : (k : Int) < (L.length : Int) := by omega
      obtain ⟨bb, o, hs, z, y0⟩ := vals_at (HV.out.gr g) k hlt
      subst hs
      have HNk := Lib.hid (HNU.out L[k] (List.getElem_mem hlt))
      have HBD := Lib.hid (fun (h : numB L[k] 4 = false) => nums_bad hlt h)
      have HA2 : Hid (numB L[k] 4 = true → ∀ i (hi : i < L.length), i < k + 1 → numB L[i] 4 = true) := fun h i hi hik => by
        by_cases e : i = k
        · subst e; exact h
        · exact HA.out i hi (by omega)
      have HN : Hid ((L.take (k + 1)).map (fun x => numN x 4) = (L.take k).map (fun x => numN x 4) ++ [numN L[k] 4]) := by
        show _ = _
        rw [List.take_succ_eq_append_getElem hlt, List.map_append]; rfl
      have hll : ((L.take k).map (fun x => numN x 4)).length ≤ 1000 := by simp; omega
      clear HA
      generalize (L.take k).map (fun x => numN x 4) = M at HN ho hll
      generalize numN L[k] 4 = n at HNk HN
      generalize numB L[k] 4 = q at HNk HBD HA2
      generalize L[k] = x at y0 HNk
      have HO : Hid (wr.ownsRow w.heap.size 3 1 (.slice va M.length vc) M.length (M.map (Value.int .i64))) := ho
      clear ho
      cases q
      · have HR := Lib.hid (HBD.out rfl)
        go_wp2_with (first | (go_at_call 111; (with_reducible refine (HNk.out _).mono ?_); rintro e w3 ⟨rfl, hq⟩; obtain rfl := hq.symm) | fail)
        go_ret2
        exact RetNm.no HR.out g
      · have HA3 := Lib.hid (HA2.out rfl)
        clear HA2 HBD
        go_wp2_with (first | (go_at_call 111; (with_reducible refine (HNk.out _).mono ?_); rintro e w3 ⟨rfl, hq⟩; obtain rfl := hq.symm) | (at_builtin; refine wpList_append_own _ rfl _ _ 28 rfl w.heap.size 3 i0 (.int .i64 0) 1 8 Tryz.underlying28 hi0 hi1 hi2 hi3 rfl (by decide) _ _ _ rfl (HO.out.alloc _) ⟨wr.heap.size, 0, none⟩ 1 1 [.int .i64 n] rfl rfl ?c1 ?c2 ?c3 ?c4 ?c5 ?_))
        case c1 => exact cell_one_new _ _ _
        case c2 => simp [Value.oneCell']
        case c3 => unfold maxLen; omega
        case c4 => omega
        case c5 => have := g.size; simp; omega
        intro v' w4 hown' hgrow _
        have hg1 : Gr w w4 := Gr.grown (g.alloc _) hgrow HO.out
        have ho1 := Lib.hid (OwnI.snoc hown')
        rw [← HN.out] at ho1
        clear hown' hgrow
        go_wp2_with fail
        go_roundw
        case rel => exact ⟨k + 1, by go_num, hlt, hg1, ho1.out, HA3.out⟩
        case measure => simp [intOf]; omega
    · have hk1 : ¬ (k : Int) < (L.length : Int) := by omega
      rw [List.take_of_length_le (show L.length ≤ k by omega)] at ho ⊢
      have hvv : Hid (IsVals wr (.slice va L.length vc) ((L.map fun x => numN x 4).map (Value.int .i64))) := by
        have := OwnI.vals ho (by unfold maxLen; simp; omega)
        rwa [List.length_map] at this
      have HG := Lib.hid (nums_good fun i hi => HA.out i hi (by omega))
      clear ho
      go_wp2_with fail
      go_ret2
      exact RetNm.yes HG.out hvv.out g
/-- a kind, or none -/
def stkR (o : Option Stk) : Value := .tuple #[(o.getD ⟨⟨#[]⟩, 0, 0, 0, 0⟩).v, .bool o.isSome]
theorem rowS_len {l : List ByteArray} (h : l.length ≠ 6) : rowS l = none := by
  match l with
  | [a, b, c, d, e, f] => simp at h
  | [] => rfl
  | [_] => rfl
  | [_, _] => rfl
  | [_, _, _] => rfl
  | [_, _, _, _] => rfl
  | [_, _, _, _, _] => rfl
  | _ :: _ :: _ :: _ :: _ :: _ :: _ :: _ => rfl
theorem rowS_six (a b c d e f : ByteArray) : rowS [a, b, c, d, e, f] = if a = bStock ∧ nmB b = true then (match nums [c, d, e, f] with | some _ => some ⟨b, numN c 4, numN d 4, numN e 4, numN f 4⟩ | none => none) else none := by
  show (if a = bStock ∧ nmB b = true ∧ numB c 4 = true ∧ numB d 4 = true ∧ numB e 4 = true ∧ numB f 4 = true then some (⟨b, numN c 4, numN d 4, numN e 4, numN f 4⟩ : Stk) else none) = _
  unfold nums
  simp only [List.all_cons, List.all_nil, Bool.and_true, Bool.and_eq_true]
  by_cases h1 : a = bStock
  · by_cases h2 : nmB b = true
    · by_cases h3 : numB c 4 = true ∧ numB d 4 = true ∧ numB e 4 = true ∧ numB f 4 = true
      · rw [if_pos ⟨h1, h2, h3.1, h3.2.1, h3.2.2.1, h3.2.2.2⟩, if_pos ⟨h1, h2⟩, if_pos h3]
      · rw [if_neg (fun h => h3 ⟨h.2.2.1, h.2.2.2.1, h.2.2.2.2.1, h.2.2.2.2.2⟩), if_pos ⟨h1, h2⟩, if_neg h3]
    · rw [if_neg (fun h => h2 h.2.1), if_neg (fun h => h2 h.2)]
  · rw [if_neg (fun h => h1 h.1), if_neg (fun h => h1 h.1)]
theorem list_six {α : Type} {l : List α} (h : l.length = 6) : ∃ a b c d e f, l = [a, b, c, d, e, f] := by
  match l, h with
  | [a, b, c, d, e, f], _ => exact ⟨a, b, c, d, e, f, rfl⟩
theorem slice_two (b o c : Nat) (hc : 6 ≤ c) (w' : World) : (Instr.slice 93 (.slice (some ⟨b, o, none⟩) 6 c) (some (.int .i64 2)) none none).run Tryz.prog w' = .ok (.slice (some ⟨b, o + 2, none⟩) 4 (c - 2)) w' := by
  rw [run_slice_l (w := w') (P := Tryz.prog) 93 _ 6 c (by kernel_rfl) .i64 2 (by omega) (by omega)]
  have hs : (sizeOf (Tryz.prog.elem 93)).run Tryz.prog w' = .ok 1 w' := by kernel_rfl
  rw [hs]
  simp only [Result.andThen, sliced]
  rw [show Int.toNat 2 = 2 from rfl, if_neg (by omega)]
  rfl
theorem vals_six {w : World} {bb o c : Nat} {a b d e f g : ByteArray} (h : IsVals w (.slice (some ⟨bb, o, none⟩) 6 c) ([a, b, d, e, f, g].map Value.string)) :
    bb < w.heap.size ∧ w.cell? ⟨bb, o, none⟩ = some (.string a) ∧ w.cell? ⟨bb, o + 1, none⟩ = some (.string b) ∧ IsVals w (.slice (some ⟨bb, o + 2, none⟩) 4 (c - 2)) ([d, e, f, g].map Value.string) := by
  obtain ⟨a', c', e', _, hx⟩ := h
  simp only [Value.slice.injEq] at e'
  obtain ⟨rfl, -, rfl⟩ := e'
  rcases hx with hx | ⟨b2, o2, h2, hb, hc⟩
  · cases hx
  · cases h2
    refine ⟨hb, hc 0 _ rfl, hc 1 _ rfl, ⟨_, c - 2, rfl, by simp; unfold maxLen; omega, .inr ⟨bb, o + 2, rfl, hb, fun i x hi => ?_⟩⟩⟩
    have := hc (i + 2) x (by simpa using hi)
    rw [show o + 2 + i = o + (i + 2) from by omega]
    exact this
end Go.Proofs.YtaanepadgoefhaaGreatDoor
