/- WordRows: lines with a line feed behind each are those lines. -/
import Derived.Test.YthhakjckbnoefaaDoorRows
import Derived.Test.YthhakjckbnoefaaDoorWrd8
import Derived.Test.YthhakjckbnoefaaDoorOpn2
import Derived.Deep.LoopGhost
namespace Go.Proofs.YthhakjckbnoefaaDoor
open Go.ChangeShapes Go.WideShapes Go.ChangeAt Go.RowKit
set_option linter.unusedVariables false
set_option linter.unusedSimpArgs false

/-- the first k lines, a line feed behind each -/
def rowsB (L : List ByteArray) : Nat → ByteArray
  | 0 => ByteArray.empty
  | k + 1 => rowsB L k ++ L.getD k ByteArray.empty ++ ⟨#[10]⟩
theorem rowsB_succ (L : List ByteArray) (k : Nat) : rowsB L (k + 1) = rowsB L k ++ L.getD k ByteArray.empty ++ ⟨#[10]⟩ := rfl
theorem rowsB_size (L : List ByteArray) : ∀ k : Nat, k ≤ L.length → (∀ i, i < k → (L.getD i ByteArray.empty).size ≤ 100) → (rowsB L k).size ≤ 101 * k
  | 0, _, _ => Nat.le_refl _
  | k + 1, hk, h => by
    have ih := rowsB_size L k (by omega) fun i hi => h i (by omega)
    have := h k (by omega)
    have e1 : (⟨#[10]⟩ : ByteArray).size = 1 := rfl
    rw [rowsB_succ, size_app, size_app, e1]
    omega
def noNl (x : ByteArray) : Prop := ∀ c ∈ x.data.toList, c ≠ 10
theorem noNl_of {x : ByteArray} (h : ∀ j, j < x.size → bt x j ≠ 10) : noNl x := by
  intro c hc e
  obtain ⟨i, hi, he⟩ := List.mem_iff_getElem.1 hc
  have hi' : i < x.size := by simpa using hi
  apply h i hi'
  rw [bt_get x i hi']
  have : x[i] = c := he
  rw [this, e]; rfl
theorem data_app (a b : ByteArray) : (a ++ b).data.toList = a.data.toList ++ b.data.toList := by simp [ByteArray.data_append]
theorem lnsA_rows (L : List ByteArray) (t : List UInt8) : ∀ k : Nat, k ≤ L.length → (∀ i, i < k → noNl (L.getD i ByteArray.empty)) →
    lnsA [] ((rowsB L k).data.toList ++ t) = ((L.take k).map fun x => x.data.toList) ++ lnsA [] t := by
  intro k
  induction k generalizing t with
  | zero => intro _ _; rfl
  | succ k ih =>
    intro hk h
    rw [rowsB_succ, data_app, data_app, List.append_assoc, List.append_assoc, ih _ (by omega) fun i hi => h i (by omega)]
    have e : L.take (k + 1) = L.take k ++ [L[k]] := List.take_succ_eq_append_getElem (by omega)
    have g : L.getD k ByteArray.empty = L[k] := by rw [List.getD_eq_getElem?_getD, List.getElem?_eq_getElem (by omega)]; rfl
    have hn := h k (by omega)
    rw [g] at hn
    have e10 : (⟨#[10]⟩ : ByteArray).data.toList = [10] := rfl
    rw [e10, g, lnsA_pre _ _ _ hn, e]
    simp only [List.nil_append, List.cons_append, lnsA, if_pos, List.map_append, List.map_cons, List.map_nil, List.append_assoc]
theorem lnB_rows (L : List ByteArray) (h : ∀ i, i < L.length → noNl (L.getD i ByteArray.empty)) : lnB (rowsB L L.length) = L := by
  unfold lnB
  have := lnsA_rows L [] L.length (Nat.le_refl _) h
  rw [List.append_nil] at this
  rw [this]
  simp [lnsA, List.map_map, Function.comp_def, toB_data]
theorem lnB_last (L : List ByteArray) (k : Nat) (hk : L.length = k + 1) (h : ∀ i, i < L.length → noNl (L.getD i ByteArray.empty)) (hl : (L.getD k ByteArray.empty).size ≠ 0) :
    lnB ((rowsB L L.length).extract 0 ((rowsB L L.length).size - 1)) = L := by
  rw [hk]
  have e1 : (⟨#[10]⟩ : ByteArray).size = 1 := rfl
  have g : L.getD k ByteArray.empty = L[k]'(by omega) := by rw [List.getD_eq_getElem?_getD, List.getElem?_eq_getElem (by omega)]; rfl
  have hd : ((rowsB L (k + 1)).extract 0 ((rowsB L (k + 1)).size - 1)).data.toList = (rowsB L k).data.toList ++ (L.getD k ByteArray.empty).data.toList := by
    have e10 : (⟨#[10]⟩ : ByteArray).data.toList = [10] := rfl
    rw [data_extract, rowsB_succ]
    rw [← data_app]
    generalize rowsB L k ++ L.getD k ByteArray.empty = u
    have hu : u.data.toList.length = u.size := by simp
    rw [data_app, size_app, e1, e10, List.drop_zero, Nat.sub_zero, Nat.add_sub_cancel, ← hu, List.take_left']
    rfl
  unfold lnB
  rw [hd, lnsA_rows L _ k (by omega) fun i hi => h i (by omega)]
  have hx := lnsA_pre [] (L.getD k ByteArray.empty).data.toList [] (h k (by omega))
  have hne : (L.getD k ByteArray.empty).data.toList ≠ [] := by
    intro e
    have := congrArg List.length e
    rw [show ∀ x : ByteArray, x.data.toList.length = x.size from fun x => by simp] at this
    exact hl this
  rw [List.append_nil, List.nil_append] at hx
  rw [hx]
  have e : L.take (k + 1) = L.take k ++ [L[k]'(by omega)] := List.take_succ_eq_append_getElem (by omega)
  have eL : L.take (k + 1) = L := List.take_of_length_le (by omega)
  simp only [lnsA, if_neg hne, List.map_append, List.map_map, Function.comp_def, toB_data, List.map_cons, List.map_nil, List.map_id']
  rw [g, ← e, eL]

set_option maxHeartbeats 1000000 in
theorem wordRows_walk (v : Value) (L : List ByteArray) (w : World) (ht : Tabs w) (hL : IsVals w v (L.map Value.string) ∧ ∀ s ∈ L, s.size ≤ maxLen) :
    Calls Tryd.prog 10 #[v] w fun e w' => e = .returned (.bool true) ∧ Gr w w' := by
  obtain ⟨hv, hm⟩ := hL
  have hv' := hv
  obtain ⟨a, c, rfl, hmx, -⟩ := hv
  simp only [List.length_map] at hv' hmx ⊢
  by_cases hl : (30 : Int) < (L.length : Int)
  · go_enter Tryd.func10, Tryd.ntmps10
    go_wp2_with fail
    refine (known1_any _ ht).mono ?_
    rintro e w1 ⟨rfl, h1⟩
    go_wp2_with fail
    go_ret
    exact ⟨rfl, h1⟩
  have HV := Lib.hid hv'
  have HM := Lib.hid hm
  clear hv' hm
  go_enter Tryd.func10, Tryd.ntmps10
  go_wp2_with fail
  refine (known1_any _ ht).mono ?_
  rintro e w1 ⟨rfl, h1⟩
  go_wp2_with fail
  have HR : Hid (∀ k : Nat, k < L.length → ∀ x : ByteArray, L.getD k ByteArray.empty = x → rowsB L (k + 1) = rowsB L k ++ x ++ ⟨#[10]⟩) := fun k _ x hx => by rw [rowsB_succ, hx]
  go_loopg [3, 4, 5] L.length (fun gh x3 x4 _ wr => ∃ k : Nat, k + gh = L.length ∧ x4 = .int .i64 k ∧ x3 = .string (rowsB L k) ∧ Hid (∀ i, i < k → noNl (L.getD i ByteArray.empty) ∧ (L.getD i ByteArray.empty).size ≤ 100) ∧ Gr w wr)
  case atStart => exact ⟨0, by omega, rfl, rfl, fun j h => by omega, h1⟩
  case round =>
    obtain ⟨k, hkg, rfl, rfl, HA, g⟩ := hrel
    have HKG := Lib.hid hkg
    clear hkg
    by_cases hlt : k < L.length
    · have HE := HR.out k hlt _ rfl
      obtain ⟨bb, oo, rfl, zlt, cx⟩ := vals_at (HV.out.gr g) k hlt
      have hg0 : L.getD k ByteArray.empty = L[k] := by rw [List.getD_eq_getElem?_getD, List.getElem?_eq_getElem hlt]; rfl
      have hmx2 : L[k].size ≤ maxLen := HM.out _ (List.getElem_mem hlt)
      have hsz : (rowsB L k).size ≤ 101 * k := rowsB_size L k (by omega) fun i hi => (HA.out i hi).2
      have HN : Hid (noNl L[k] → L[k].size ≤ 100 → ∀ i, i < k + 1 → noNl (L.getD i ByteArray.empty) ∧ (L.getD i ByteArray.empty).size ≤ 100) := by
        intro h1 h2 i hi
        by_cases e : i = k
        · subst e; rw [hg0]; exact ⟨h1, h2⟩
        · exact HA.out i (by omega)
      rw [hg0] at HE
      generalize L[k] = x at *
      generalize rowsB L k = S at *
      have HE' := Lib.hid HE
      clear HE HA hg0 HR
      unfold maxLen at hmx2
      have k1 : (k : Int) < (L.length : Int) := by omega
      by_cases hbig : 100 < x.size
      · go_wp2
        go_ret
        exact ⟨rfl, g⟩
      have hs100 : x.size ≤ 100 := by omega
      clear hbig
      go_wp2_with fail
      go_loopg [5] x.size (fun g2 x5 wy => ∃ j : Nat, j + g2 = x.size ∧ x5 = .int .i64 j ∧ Hid (∀ i, i < j → bt x i ≠ 10) ∧ wr = wy)
      case atStart => exact ⟨0, by omega, rfl, fun i h => by omega, rfl⟩
      case round =>
        obtain ⟨j, hjg, rfl, HJ, rfl⟩ := hrel
        have HJG := Lib.hid hjg
        clear hjg
        by_cases hj : j < x.size
        · have j1 : (j : Int) < (x.size : Int) := by omega
          have HB := Lib.hid (bt_get x j hj)
          by_cases he : x[j] = 10
          · have t1 : ((x[j].toNat : Int) == 10) = true := by rw [he]; rfl
            clear he HJ HN
            go_wp2
            try rw [Exit.noGoto_ret]
            go_ret
            exact ⟨rfl, g⟩
          · have hne : ¬ (x[j].toNat : Int) = 10 := by
              intro e
              apply he
              apply UInt8.toNat_inj.1
              have : x[j].toNat = 10 := by omega
              rw [this]; rfl
            have t1 : ((x[j].toNat : Int) == 10) = false := by simpa using hne
            have HJ' : Hid (∀ i, i < j + 1 → bt x i ≠ 10) := by
              intro i hi
              by_cases e : i = j
              · subst e; rw [HB.out]; exact hne
              · exact HJ.out i (by omega)
            clear he hne HJ HN
            go_wp2
            go_roundg (x.size - (j + 1))
            case measure => have := HJG.out; omega
            case rel => exact ⟨j + 1, by have := HJG.out; omega, by go_num, HJ'.out, rfl⟩
        · have HN' := Lib.hid (HN.out (noNl_of fun i hi => HJ.out i (by omega)) hs100)
          have q1 : ¬ 9223372036854775807 < S.size + x.size := by omega
          have q2 : ¬ 9223372036854775807 < S.size + x.size + 1 := by omega
          clear HJ HN
          go_wp2
          go_roundg (L.length - (k + 1))
          case measure => have := HKG.out; omega
          case rel => exact ⟨k + 1, by have := HKG.out; omega, by go_num, by rw [HE'.out], HN'.out, g⟩
    · obtain rfl : k = L.length := by have := HKG.out; omega
      have hsz : (rowsB L L.length).size ≤ 101 * L.length := rowsB_size L L.length (by omega) fun i hi => (HA.out i hi).2
      have HAll : Hid (lnB (rowsB L L.length) = L) := lnB_rows L fun i hi => (HA.out i hi).1
      have HLast : Hid (∀ m : Nat, L.length = m + 1 → (L.getD m ByteArray.empty).size ≠ 0 → lnB ((rowsB L L.length).extract 0 ((rowsB L L.length).size - 1)) = L) := fun m hm h => lnB_last L m hm (fun i hi => (HA.out i hi).1) h
      have HPos : Hid (∀ m : Nat, L.length = m + 1 → 1 ≤ (rowsB L L.length).size) := fun m hm => by
        have e1 : (⟨#[10]⟩ : ByteArray).size = 1 := rfl
        rw [hm, rowsB_succ, size_app, e1]; omega
      generalize rowsB L L.length = S at *
      have HS1 := Lib.hid (lines_any S (by omega))
      clear HA HR hlt HKG
      go_wp2_with fail
      refine (HS1.out _).mono ?_
      rintro e w2 ⟨v2, rfl, hv2, h2⟩
      rw [HAll.out] at hv2
      have g2 := g.trans h2
      go_wp2_with fail
      refine (sameTexts_vals L L _ _ _ hv2 (by simpa using HV.out.gr g2)).mono ?_
      rintro e w3 ⟨rfl, h3⟩
      have g3 := g2.trans h3
      have ed : decide (L = L) = true := by simp
      rw [ed]
      clear hv2
      have HV3 : Hid (IsVals w3 (.slice a L.length c) (L.map Value.string)) := HV.out.gr g3
      by_cases h0 : L.length = 0
      · have t0 : ((L.length : Int) == 0) = true := by rw [h0]; rfl
        clear HLast HPos HV
        go_wp2
        go_ret
        exact ⟨rfl, g3⟩
      obtain ⟨m, hm⟩ : ∃ m, L.length = m + 1 := ⟨L.length - 1, by omega⟩
      have t0 : ((L.length : Int) == 0) = false := by simpa using h0
      have hpos := HPos.out m hm
      have hlast := HLast.out m hm
      have hgd : L.getD m ByteArray.empty = L[m]'(by omega) := by rw [List.getD_eq_getElem?_getD, List.getElem?_eq_getElem (by omega)]; rfl
      obtain ⟨bb, oo, rfl, zlt, cx⟩ := vals_at HV3.out m (by omega)
      rw [hgd] at hlast
      generalize L[m]'(by omega) = x at *
      have HLa := Lib.hid hlast
      have m1 : (L.length : Int) - 1 = (m : Int) := by omega
      have m2 : (L.length : Int) - 1 < (L.length : Int) := by omega
      have m3 : 0 ≤ (L.length : Int) - 1 := by omega
      clear hgd hlast HLast HPos HV
      by_cases hx : x.size = 0
      · have hz : x.toList.isEmpty = true := by rw [List.isEmpty_iff]; exact toList_nil.2 hx
        clear hx
        go_wp2
        go_ret
        exact ⟨rfl, g3⟩
      · have hz : x.toList.isEmpty = false := by
          cases hq : x.toList.isEmpty with
          | false => rfl
          | true => exact absurd (toList_nil.1 (List.isEmpty_iff.1 hq)) hx
        have HL3 := Lib.hid (HLa.out hx)
        have HS2 := Lib.hid (lines_any (S.extract 0 (S.size - 1)) (by rw [ByteArray.size_extract]; omega))
        clear hx HLa
        have HV4 : Hid (∀ w', Gr w3 w' → IsVals w' (.slice (some ⟨bb, oo, none⟩) L.length c) (L.map Value.string)) := fun w' h => HV3.out.gr h
        go_wp2_with fail
        refine (HS2.out _).mono ?_
        rintro e w4 ⟨v4, rfl, hv4, h4⟩
        rw [HL3.out] at hv4
        go_wp2_with fail
        refine (sameTexts_vals L L _ _ _ hv4 (by simpa [hm] using HV4.out _ h4)).mono ?_
        rintro e w5 ⟨rfl, h5⟩
        rw [show decide (L = L) = true from by simp]
        go_wp2_with fail
        go_ret
        exact ⟨rfl, g3.trans (h4.trans h5)⟩
end Go.Proofs.YthhakjckbnoefaaDoor
