/- WordJoined: words with one blank between are those words; with two, or one at an end, they are none. -/
import Derived.Test.YthhakjckbnoefaaDoorRows
import Derived.Test.YthhakjckbnoefaaDoorWrd9
namespace Go.Proofs.YthhakjckbnoefaaDoor
open Go.ChangeShapes Go.WideShapes Go.ChangeAt Go.RowKit
set_option linter.unusedVariables false
set_option linter.unusedSimpArgs false

def spB : ByteArray := ⟨#[32]⟩
/-- the first i words, one blank between -/
def jnB (L : List ByteArray) : Nat → ByteArray
  | 0 => ByteArray.empty
  | i + 1 => (if 0 < i then jnB L i ++ spB else jnB L i) ++ L.getD i ByteArray.empty
/-- the same, with a blank more ahead of word k -/
def jwB (L : List ByteArray) (k : Nat) : Nat → ByteArray
  | 0 => ByteArray.empty
  | i + 1 => (if i = k then (if 0 < i then jwB L k i ++ spB else jwB L k i) ++ spB else (if 0 < i then jwB L k i ++ spB else jwB L k i)) ++ L.getD i ByteArray.empty
theorem jnB_succ (L : List ByteArray) (i : Nat) : jnB L (i + 1) = (if 0 < i then jnB L i ++ spB else jnB L i) ++ L.getD i ByteArray.empty := rfl
theorem jwB_succ (L : List ByteArray) (k i : Nat) : jwB L k (i + 1) = (if i = k then (if 0 < i then jwB L k i ++ spB else jwB L k i) ++ spB else (if 0 < i then jwB L k i ++ spB else jwB L k i)) ++ L.getD i ByteArray.empty := rfl
theorem sp_size : spB.size = 1 := rfl
theorem jnB_size (L : List ByteArray) : ∀ i : Nat, (∀ j, j < i → (L.getD j ByteArray.empty).size ≤ 30) → (jnB L i).size ≤ 31 * i
  | 0, _ => Nat.le_refl _
  | i + 1, h => by
    have ih := jnB_size L i fun j hj => h j (by omega)
    have := h i (by omega)
    have hs := sp_size
    rw [jnB_succ, size_app]
    split
    · rw [size_app]; omega
    · omega
theorem jwB_size (L : List ByteArray) (k : Nat) : ∀ i : Nat, (∀ j, j < i → (L.getD j ByteArray.empty).size ≤ 30) → (jwB L k i).size ≤ 32 * i
  | 0, _ => Nat.le_refl _
  | i + 1, h => by
    have ih := jwB_size L k i fun j hj => h j (by omega)
    have := h i (by omega)
    have hs := sp_size
    rw [jwB_succ, size_app]
    split <;> split <;> (try simp only [size_app]) <;> omega
/-- a word -/
def wordB (x : ByteArray) : Prop := x.data.toList ≠ [] ∧ ∀ c ∈ x.data.toList, wrdB c = true
theorem wordB_of {x : ByteArray} (h0 : x.size ≠ 0) (h : ∀ j, j < x.size → 33 ≤ bt x j ∧ bt x j ≤ 126) : wordB x := by
  refine ⟨fun e => h0 (by have := congrArg List.length e; rw [show ∀ x : ByteArray, x.data.toList.length = x.size from fun x => by simp] at this; exact this), ?_⟩
  intro c hc
  obtain ⟨i, hi, he⟩ := List.mem_iff_getElem.1 hc
  have hi' : i < x.size := by simpa using hi
  have hb := h i hi'
  rw [bt_get x i hi'] at hb
  have : x[i] = c := he
  rw [this] at hb
  unfold wrdB
  simp only [Bool.and_eq_true, decide_eq_true_eq]
  exact hb
theorem wdsA_pre (t : List UInt8) : ∀ (p acc : List UInt8), (∀ c ∈ p, wrdB c = true) → wdsA acc (p ++ t) = wdsA (acc ++ p) t
  | [], acc, _ => by simp
  | c :: p, acc, h => by
    have hc : wrdB c = true := h c (by simp)
    rw [List.cons_append, wdsA, if_pos hc, wdsA_pre t p _ fun d hd => h d (by simp [hd])]
    simp
theorem w32 : wrdB 32 = false := by decide
theorem wdsA_blank (acc t : List UInt8) (h : acc ≠ []) : wdsA acc (32 :: t) = (wdsA [] t).map (acc :: ·) := by
  rw [wdsA, if_neg (by rw [w32]; exact Bool.false_ne_true), if_pos ⟨rfl, h⟩]
theorem wdsA_blank0 (t : List UInt8) : wdsA [] (32 :: t) = none := by
  rw [wdsA, if_neg (by rw [w32]; exact Bool.false_ne_true), if_neg (by simp)]
theorem jn_parse (L : List ByteArray) : ∀ (i : Nat) (t : List UInt8), i < L.length → (∀ j, j < i + 1 → wordB (L.getD j ByteArray.empty)) →
    wdsA [] ((jnB L (i + 1)).data.toList ++ t) = (wdsA (L.getD i ByteArray.empty).data.toList t).map (((L.take i).map fun x => x.data.toList) ++ ·) := by
  intro i
  induction i with
  | zero =>
    intro t hi h
    rw [jnB_succ, if_neg (by omega), data_app]
    have e : (jnB L 0).data.toList = [] := rfl
    rw [e, List.nil_append, wdsA_pre _ _ _ (h 0 (by omega)).2]
    simp
  | succ i ih =>
    intro t hi h
    have e32 : spB.data.toList = [32] := rfl
    rw [jnB_succ, if_pos (by omega), data_app, data_app, e32, List.append_assoc, List.append_assoc, ih _ (by omega) fun j hj => h j (by omega)]
    rw [List.cons_append, List.nil_append, wdsA_blank _ _ (h i (by omega)).1, wdsA_pre _ _ _ (h (i + 1) (by omega)).2, List.nil_append]
    have e : L.take (i + 1) = L.take i ++ [L.getD i ByteArray.empty] := by
      rw [List.take_succ_eq_append_getElem (by omega), List.getD_eq_getElem?_getD, List.getElem?_eq_getElem (by omega)]; rfl
    rw [e]
    cases wdsA (L.getD (i + 1) ByteArray.empty).data.toList t with
    | none => rfl
    | some l => simp [List.map_append, List.append_assoc]
theorem wdB_join (L : List ByteArray) (n : Nat) (hn : L.length = n + 1) (h : ∀ j, j < L.length → wordB (L.getD j ByteArray.empty)) : wdB (jnB L L.length) = some L := by
  unfold wdB
  have := jn_parse L n [] (by omega) fun j hj => h j (by omega)
  rw [List.append_nil] at this
  rw [hn, this]
  have e : L.take (n + 1) = L.take n ++ [L.getD n ByteArray.empty] := by
    rw [List.take_succ_eq_append_getElem (by omega), List.getD_eq_getElem?_getD, List.getElem?_eq_getElem (by omega)]; rfl
  have eL : L.take (n + 1) = L := List.take_of_length_le (by omega)
  rw [wdsA, if_neg (h n (by omega)).1]
  simp only [Option.map_some, List.map_append, List.map_map, Function.comp_def, toB_data, List.map_cons, List.map_nil, List.map_id']
  rw [← e, eL]
theorem wdB_end (L : List ByteArray) (n : Nat) (hn : L.length = n + 1) (h : ∀ j, j < L.length → wordB (L.getD j ByteArray.empty)) : wdB (jnB L L.length ++ spB) = none := by
  unfold wdB
  have := jn_parse L n [32] (by omega) fun j hj => h j (by omega)
  have e32 : spB.data.toList = [32] := rfl
  rw [hn, data_app, e32, this, wdsA_blank _ _ (h n (by omega)).1]
  rfl
theorem jw_same (L : List ByteArray) (k : Nat) : ∀ i : Nat, i ≤ k → jwB L k i = jnB L i
  | 0, _ => rfl
  | i + 1, h => by
    rw [jwB_succ, jnB_succ, if_neg (by omega), jw_same L k i (by omega)]
theorem jw_more (L : List ByteArray) (k : Nat) : ∀ d : Nat, ∃ r : List UInt8, (jwB L k (k + 1 + d)).data.toList = (if 0 < k then (jnB L k).data.toList ++ [32] else []) ++ 32 :: r
  | 0 => by
    refine ⟨(L.getD k ByteArray.empty).data.toList, ?_⟩
    have e32 : spB.data.toList = [32] := rfl
    rw [Nat.add_zero, jwB_succ, if_pos rfl, jw_same L k k (Nat.le_refl _), data_app, data_app, e32]
    by_cases hk : 0 < k
    · rw [if_pos hk, if_pos hk, data_app, e32]; simp
    · rw [if_neg hk, if_neg hk]
      obtain rfl : k = 0 := by omega
      rfl
  | d + 1 => by
    obtain ⟨r, hr⟩ := jw_more L k d
    refine ⟨r ++ spB.data.toList ++ (L.getD (k + 1 + d) ByteArray.empty).data.toList, ?_⟩
    rw [show k + 1 + (d + 1) = (k + 1 + d) + 1 from by omega, jwB_succ, if_neg (by omega), if_pos (by omega), data_app, data_app, hr]
    simp [List.append_assoc]
theorem wdB_wide (L : List ByteArray) (k : Nat) (hk : k < L.length) (h : ∀ j, j < L.length → wordB (L.getD j ByteArray.empty)) : wdB (jwB L k L.length) = none := by
  obtain ⟨d, hd⟩ : ∃ d, L.length = k + 1 + d := ⟨L.length - (k + 1), by omega⟩
  obtain ⟨r, hr⟩ := jw_more L k d
  unfold wdB
  rw [hd, hr]
  by_cases h0 : 0 < k
  · obtain ⟨m, rfl⟩ : ∃ m, k = m + 1 := ⟨k - 1, by omega⟩
    rw [if_pos h0, List.append_assoc, jn_parse L m _ (by omega) fun j hj => h j (by omega), List.cons_append, List.nil_append, wdsA_blank _ _ (h m (by omega)).1, wdsA_blank0]
    rfl
  · rw [if_neg h0, List.nil_append, wdsA_blank0]
    rfl

theorem and1023 (n : Int) : 0 ≤ bits .and .i64 n 1023 ∧ bits .and .i64 n 1023 ≤ 1023 := by
  have e : (BitVec.ofInt IntKind.i64.bits 1023).toNat = 1023 := by decide
  have h : (BitVec.ofInt IntKind.i64.bits n).toNat &&& (BitVec.ofInt IntKind.i64.bits 1023).toNat ≤ 1023 := by
    rw [e]; exact Nat.and_le_right
  simp only [bits, BitVec.toNat_and]
  generalize (BitVec.ofInt IntKind.i64.bits n).toNat &&& (BitVec.ofInt IntKind.i64.bits 1023).toNat = q at *
  rw [IntKind.wrap_i64]
  omega

set_option maxRecDepth 100000 in
set_option maxHeartbeats 2000000 in
theorem wordJoined_walk (v : Value) (L : List ByteArray) (n : Int) (w : World) (ht : Tabs w) (hL : IsVals w v (L.map Value.string) ∧ ∀ s ∈ L, s.size ≤ maxLen) (wn : (Lit.int .i64 n).wf = true) :
    Calls Tryd.prog 9 #[v, .int .i64 n] w fun e w' => e = .returned (.bool true) ∧ Gr w w' := by
  obtain ⟨hv, hm⟩ := hL
  have hv' := hv
  obtain ⟨a, c, rfl, hmx, -⟩ := hv
  simp only [List.length_map] at hv' hmx ⊢
  by_cases hl : (30 : Int) < (L.length : Int)
  · go_enter Tryd.func9, Tryd.ntmps9
    go_wp2_with fail
    refine (known1_any _ ht).mono ?_
    rintro e w1 ⟨rfl, h1⟩
    go_wp2_with fail
    go_ret
    exact ⟨rfl, h1⟩
  by_cases h0 : L.length = 0
  · have t0 : ((L.length : Int) == 0) = true := by rw [h0]; rfl
    go_enter Tryd.func9, Tryd.ntmps9
    go_wp2_with fail
    refine (known1_any _ ht).mono ?_
    rintro e w1 ⟨rfl, h1⟩
    go_wp2_with fail
    go_ret
    exact ⟨rfl, h1⟩
  have t0 : ((L.length : Int) == 0) = false := by simpa using h0
  have HV := Lib.hid hv'
  have HM := Lib.hid hm
  have HT := Lib.hid ht
  clear hv' hm ht
  go_enter Tryd.func9, Tryd.ntmps9
  go_wp2_with fail
  refine (known1_any _ HT.out).mono ?_
  rintro e w1 ⟨rfl, h1⟩
  go_wp2_with fail
  have hb := and1023 n
  generalize bits .and .i64 n 1023 = q at *
  obtain ⟨K, hK, hKl⟩ : ∃ K : Nat, q.tmod (L.length : Int) = K ∧ K < L.length := by
    have h1 := Int.emod_nonneg q (show (L.length : Int) ≠ 0 by omega)
    have h2 := Int.emod_lt_of_pos q (show (0 : Int) < L.length by omega)
    rw [Int.tmod_eq_emod_of_nonneg hb.1]
    exact ⟨(q % L.length).toNat, by omega, by omega⟩
  rw [hK]
  have HJ : Hid (∀ k : Nat, k < L.length → ∀ x : ByteArray, L.getD k ByteArray.empty = x → jnB L (k + 1) = (if 0 < k then jnB L k ++ ⟨#[32]⟩ else jnB L k) ++ x) := fun k _ x hx => by rw [jnB_succ, hx]; rfl
  have HW : Hid (∀ k : Nat, k < L.length → ∀ x : ByteArray, L.getD k ByteArray.empty = x → jwB L K (k + 1) = (if k = K then (if 0 < k then jwB L K k ++ ⟨#[32]⟩ else jwB L K k) ++ ⟨#[32]⟩ else (if 0 < k then jwB L K k ++ ⟨#[32]⟩ else jwB L K k)) ++ x) := fun k _ x hx => by rw [jwB_succ, hx]; rfl
  clear hK hb
  go_loopg [5, 6, 8, 9] L.length (fun gh x5 x6 x8 _ wr => ∃ k : Nat, k + gh = L.length ∧ x8 = .int .i64 k ∧ x5 = .string (jnB L k) ∧ x6 = .string (jwB L K k) ∧ Hid (∀ i, i < k → wordB (L.getD i ByteArray.empty) ∧ (L.getD i ByteArray.empty).size ≤ 30) ∧ Gr w wr)
  case atStart => exact ⟨0, by omega, rfl, rfl, rfl, fun j h => by omega, h1⟩
  case round =>
    obtain ⟨k, hkg, rfl, rfl, rfl, HA, g⟩ := hrel
    have HKG := Lib.hid hkg
    clear hkg
    by_cases hlt : k < L.length
    · have HE := HJ.out k hlt _ rfl
      have HE2 := HW.out k hlt _ rfl
      obtain ⟨bb, oo, rfl, zlt, cx⟩ := vals_at (HV.out.gr g) k hlt
      have hg0 : L.getD k ByteArray.empty = L[k] := by rw [List.getD_eq_getElem?_getD, List.getElem?_eq_getElem hlt]; rfl
      have hmx2 : L[k].size ≤ maxLen := HM.out _ (List.getElem_mem hlt)
      have hsz : (jnB L k).size ≤ 31 * k := jnB_size L k fun i hi => (HA.out i hi).2
      have hszw : (jwB L K k).size ≤ 32 * k := jwB_size L K k fun i hi => (HA.out i hi).2
      have HN : Hid (wordB L[k] → L[k].size ≤ 30 → ∀ i, i < k + 1 → wordB (L.getD i ByteArray.empty) ∧ (L.getD i ByteArray.empty).size ≤ 30) := by
        intro h1 h2 i hi
        by_cases e : i = k
        · subst e; rw [hg0]; exact ⟨h1, h2⟩
        · exact HA.out i (by omega)
      rw [hg0] at HE HE2
      generalize L[k] = x at *
      generalize jnB L k = S at *
      generalize jwB L K k = Z at *
      have HE' := Lib.hid HE
      have HE2' := Lib.hid HE2
      clear HE HE2 HA hg0 HJ HW
      unfold maxLen at hmx2
      have k1 : (k : Int) < (L.length : Int) := by omega
      by_cases hbig : 30 < x.size
      · go_wp2
        go_ret
        exact ⟨rfl, g⟩
      have hs100 : x.size ≤ 30 := by omega
      clear hbig
      by_cases hx0 : x.size = 0
      · have t1 : ((x.size : Int) == 0) = true := by rw [hx0]; rfl
        go_wp2
        go_ret
        exact ⟨rfl, g⟩
      have t1 : ((x.size : Int) == 0) = false := by simpa using hx0
      have HX0 := Lib.hid hx0
      clear hx0
      go_wp2_with fail
      go_loopg [9] x.size (fun g2 x9 wy => ∃ j : Nat, j + g2 = x.size ∧ x9 = .int .i64 j ∧ Hid (∀ i, i < j → 33 ≤ bt x i ∧ bt x i ≤ 126) ∧ wr = wy)
      case atStart => exact ⟨0, by omega, rfl, fun i h => by omega, rfl⟩
      case round =>
        obtain ⟨j, hjg, rfl, HQ, rfl⟩ := hrel
        have HJG := Lib.hid hjg
        clear hjg
        by_cases hj : j < x.size
        · have j1 : (j : Int) < (x.size : Int) := by omega
          have HB := Lib.hid (bt_get x j hj)
          by_cases he : (x[j].toNat : Int) ≤ 32
          · clear HQ HN
            go_wp2
            try rw [Exit.noGoto_ret]
            go_ret
            exact ⟨rfl, g⟩
          by_cases he2 : 126 < (x[j].toNat : Int)
          · clear HQ HN
            go_wp2
            try rw [Exit.noGoto_ret]
            go_ret
            exact ⟨rfl, g⟩
          have HQ' : Hid (∀ i, i < j + 1 → 33 ≤ bt x i ∧ bt x i ≤ 126) := by
            intro i hi
            by_cases e : i = j
            · subst e; rw [HB.out]; omega
            · exact HQ.out i (by omega)
          clear HQ HN
          go_wp2
          go_roundg (x.size - (j + 1))
          case measure => have := HJG.out; omega
          case rel => exact ⟨j + 1, by have := HJG.out; omega, by go_num, HQ'.out, rfl⟩
        · have HN' := Lib.hid (HN.out (wordB_of HX0.out fun i hi => HQ.out i (by omega)) hs100)
          have q1 : ¬ 9223372036854775807 < S.size + 1 := by omega
          have q2 : ¬ 9223372036854775807 < S.size + x.size := by omega
          have q3 : ¬ 9223372036854775807 < S.size + 1 + x.size := by omega
          have p1 : ¬ 9223372036854775807 < Z.size + 1 := by omega
          have p2 : ¬ 9223372036854775807 < Z.size + x.size := by omega
          have p3 : ¬ 9223372036854775807 < Z.size + 1 + x.size := by omega
          have p4 : ¬ 9223372036854775807 < Z.size + 1 + 1 := by omega
          have p5 : ¬ 9223372036854775807 < Z.size + 1 + 1 + x.size := by omega
          clear HQ HN
          by_cases hk0 : 0 < k
          · by_cases hkK : k = K
            · subst hkK
              have HE3 : Hid (jnB L (k + 1) = S ++ ⟨#[32]⟩ ++ x) := by have := HE'.out; rw [if_pos hk0] at this; exact this
              have HE4 : Hid (jwB L k (k + 1) = Z ++ ⟨#[32]⟩ ++ ⟨#[32]⟩ ++ x) := by have := HE2'.out; rw [if_pos rfl, if_pos hk0] at this; exact this
              clear HE' HE2'
              go_wp2_with fail
              go_quiet (fail)
              go_wp2
              go_roundg (L.length - (k + 1))
              case measure => have := HKG.out; omega
              case rel => exact ⟨k + 1, by have := HKG.out; omega, by go_num, by rw [HE3.out], by rw [HE4.out], HN'.out, by first | exact g | exact g.drewN _⟩
            · have tk : ((k : Int) == (K : Int)) = false := by rw [beq_eq_false_iff_ne]; omega
              have HE3 : Hid (jnB L (k + 1) = S ++ ⟨#[32]⟩ ++ x) := by have := HE'.out; rw [if_pos hk0] at this; exact this
              have HE4 : Hid (jwB L K (k + 1) = Z ++ ⟨#[32]⟩ ++ x) := by have := HE2'.out; rw [if_neg hkK, if_pos hk0] at this; exact this
              clear HE' HE2' hkK
              go_wp2_with fail
              go_quiet (fail)
              go_wp2
              go_roundg (L.length - (k + 1))
              case measure => have := HKG.out; omega
              case rel => exact ⟨k + 1, by have := HKG.out; omega, by go_num, by rw [HE3.out], by rw [HE4.out], HN'.out, by first | exact g | exact g.drewN _⟩
          · have HE3 : Hid (jnB L (k + 1) = S ++ x) := by have := HE'.out; rw [if_neg hk0] at this; exact this
            by_cases hkK : k = K
            · subst hkK
              have HE4 : Hid (jwB L k (k + 1) = Z ++ ⟨#[32]⟩ ++ x) := by have := HE2'.out; rw [if_pos rfl, if_neg hk0] at this; exact this
              clear HE' HE2'
              go_wp2_with fail
              go_quiet (fail)
              go_wp2
              go_roundg (L.length - (k + 1))
              case measure => have := HKG.out; omega
              case rel => exact ⟨k + 1, by have := HKG.out; omega, by go_num, by rw [HE3.out], by rw [HE4.out], HN'.out, by first | exact g | exact g.drewN _⟩
            · have tk : ((k : Int) == (K : Int)) = false := by rw [beq_eq_false_iff_ne]; omega
              have HE4 : Hid (jwB L K (k + 1) = Z ++ x) := by have := HE2'.out; rw [if_neg hkK, if_neg hk0] at this; exact this
              clear HE' HE2' hkK
              go_wp2_with fail
              go_quiet (fail)
              go_wp2
              go_roundg (L.length - (k + 1))
              case measure => have := HKG.out; omega
              case rel => exact ⟨k + 1, by have := HKG.out; omega, by go_num, by rw [HE3.out], by rw [HE4.out], HN'.out, by first | exact g | exact g.drewN _⟩
    · obtain rfl : k = L.length := by have := HKG.out; omega
      obtain ⟨m, hm⟩ : ∃ m, L.length = m + 1 := ⟨L.length - 1, by omega⟩
      have hs1 : (jnB L L.length).size ≤ 31 * L.length := jnB_size L L.length fun i hi => (HA.out i hi).2
      have hs2 : (jwB L K L.length).size ≤ 32 * L.length := jwB_size L K L.length fun i hi => (HA.out i hi).2
      have a1 := wdB_join L m hm fun i hi => (HA.out i hi).1
      have a2 := wdB_wide L K hKl fun i hi => (HA.out i hi).1
      have a3 : wdB (jnB L L.length ++ ⟨#[32]⟩) = none := wdB_end L m hm fun i hi => (HA.out i hi).1
      have e32 : (⟨#[32]⟩ : ByteArray).size = 1 := rfl
      generalize jnB L L.length = S at *
      generalize jwB L K L.length = Z at *
      have W1 : Hid (∀ w', Tabs w' → Calls Tryd.prog 15 #[.string S] w' (RetW w' (some L))) := fun w' h => by have := words_any S (by omega) w' h; rw [a1] at this; exact this
      have W2 : Hid (∀ w', Tabs w' → Calls Tryd.prog 15 #[.string Z] w' (RetW w' none)) := fun w' h => by have := words_any Z (by omega) w' h; rw [a2] at this; exact this
      have W3 : Hid (∀ w', Tabs w' → Calls Tryd.prog 15 #[.string (S ++ ⟨#[32]⟩)] w' (RetW w' none)) := fun w' h => by have := words_any (S ++ ⟨#[32]⟩) (by rw [size_app, e32]; omega) w' h; rw [a3] at this; exact this
      have q1 : ¬ 9223372036854775807 < S.size + 1 := by omega
      have HTr : Hid (Tabs wr) := HT.out.gr g
      clear a1 a2 a3 HA HJ HW hm hs1 hs2 hlt HKG e32 hKl
      go_wp2_with fail
      refine (W1.out _ HTr.out).mono ?_
      rintro e w2 ⟨v2, rfl, hv2, h2⟩
      have g2 := g.trans h2
      have HT2 : Hid (Tabs w2) := HT.out.gr g2
      clear W1 HTr
      simp only [Option.isSome_some, Option.getD_some] at hv2 ⊢
      go_wp2_with fail
      refine (W2.out _ HT2.out).mono ?_
      rintro e w3 ⟨v3, rfl, -, h3⟩
      have g3 := g2.trans h3
      have HT3 : Hid (Tabs w3) := HT.out.gr g3
      have hv3 := hv2.gr h3
      clear W2 HT2 hv2
      simp only [Option.isSome_none] at ⊢
      go_wp2_with fail
      refine (W3.out _ HT3.out).mono ?_
      rintro e w4 ⟨v4, rfl, -, h4⟩
      have g4 := g3.trans h4
      have hv4 := hv3.gr h4
      clear W3 HT3 hv3
      simp only [Option.isSome_none] at ⊢
      go_wp2_with fail
      refine (sameTexts_vals L L _ _ _ hv4 (by simpa using HV.out.gr g4)).mono ?_
      rintro e w5 ⟨rfl, h5⟩
      rw [show decide (L = L) = true from by simp]
      go_wp2_with fail
      go_ret
      exact ⟨rfl, g4.trans h5⟩
end Go.Proofs.YthhakjckbnoefaaDoor
