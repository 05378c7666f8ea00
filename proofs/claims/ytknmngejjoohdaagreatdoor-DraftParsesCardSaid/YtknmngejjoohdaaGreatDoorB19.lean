/- Wrd1: Lines and words: the document's Lines.
Wrd2: word.Lines.
StV: stock.read, Parse; the reference's Parse.
DrB: draft.Print's closure: one line more.
DrU: A plan that may be, as a text: read as it was. Plain. -/
import Derived.Test.YtknmngejjoohdaaGreatDoorB18
import Derived.Test.YtknmngejjoohdaaGreatDoorB2
import Derived.Test.YtknmngejjoohdaaGreatDoorRows
import Derived.Test.YtknmngejjoohdaaGreatDoorB3
import Derived.Deep.RegionLaw
import Derived.Deep.AppendLies
namespace Go.Proofs.YtknmngejjoohdaaGreatDoor
open Go.ChangeShapes Go.WideShapes Go.ChangeAt Go.RowKit
set_option linter.unusedVariables false
set_option linter.unusedSimpArgs false

set_option maxHeartbeats 400000 in
theorem refLines_any (s : ByteArray) (hs : s.size ≤ 1048576) (w : World) :
    Calls Tryz.prog 40 #[.string s] w (RetS w (lnB s)) := by
  obtain ⟨i0, hi, hz0, hz1, hz2⟩ := info_parts Tryz.infoS
  go_enter Tryz.func40, Tryz.ntmps40
  go_wp2
  go_loopw [3, 4, 5] (fun v f i wr => ∃ (V : Value) (F I : Nat) (L : List ByteArray), V = v ∧ f = .int .i64 F ∧ i = .int .i64 I ∧ F ≤ I ∧ I ≤ s.size ∧ L.length ≤ I ∧ OwnS w.heap.size wr V L ∧ Hid (L ++ lnR s F I = lnB s) ∧ Gr w wr) (fun _ _ i _ => s.size - (intOf i).toNat)
  case atStart => exact ⟨_, 0, 0, [], rfl, rfl, rfl, by omega, by omega, by simp, OwnS.nil _ _, by unfold Hid; rw [lnR_start]; rfl, Gr.refl _⟩
  case round =>
    obtain ⟨v, F, I, L, rfl, rfl, rfl, r1, r2, r3, ho, HL, g⟩ := hrel
    have hown : wr.ownsRow w.heap.size 9 1 v L.length (L.map Value.string) := ho
    have HO := Lib.hid hown
    have g' := g
    by_cases hlt : I < s.size
    · have hI : (I : Int) < (s.size : Int) := by omega
      have hF : (F : Int) ≤ (I : Int) := by omega
      by_cases hnl : s[I] = 10
      · have HN : Hid ((L ++ [s.extract F I]) ++ lnR s (I + 1) (I + 1) = lnB s) := by
          unfold Hid; rw [← HL.out, lnR_nl s F I r1 hlt hnl]; simp
        have ht : ((s[I].toNat : Int) == 10) = true := by rw [hnl]; rfl
        clear hnl HL ho hown
        go_wp2_with (first | (at_builtin; refine wpList_append_own _ rfl _ _ 57 rfl w.heap.size 9 i0 (.string ByteArray.empty) 1 16 Tryz.underlying57 hi hz0 hz1 hz2 rfl (by decide) _ _ _ rfl (HO.out.alloc _) ⟨wr.heap.size, 0, none⟩ 1 1 [.string (s.extract F I)] rfl rfl ?c1 ?c2 ?c3 ?c4 ?c5 ?_))
        case c1 => exact cell_one_new _ _ _
        case c2 => simp [Value.oneCell']
        case c3 => unfold maxLen; omega
        case c4 => omega
        case c5 => have := g.size; simp; omega
        intro v' w1 hown' hgrow _
        have hg1 : Gr w w1 := Gr.grown (g'.alloc _) hgrow HO.out
        have ho1 : OwnS w.heap.size w1 v' (L ++ [s.extract F I]) := OwnS.snoc hown'
        clear hown' hgrow HO
        go_wp2
        go_roundw
        case rel => exact ⟨_, I + 1, I + 1, L ++ [s.extract F I], rfl, by go_num, by go_num, by omega, by omega, by simp; omega, ho1, HN, hg1⟩
        case measure => simp [intOf]; omega
      · have HN : Hid (L ++ lnR s F (I + 1) = lnB s) := by
          unfold Hid; rw [← HL.out, lnR_step s F I r1 hlt hnl]
        have ht : ((s[I].toNat : Int) == 10) = false := by
          simp
          intro e
          apply hnl
          apply UInt8.toNat_inj.1
          have : (10 : UInt8).toNat = 10 := rfl
          omega
        clear hnl HL
        go_wp2
        go_roundw
        case rel => exact ⟨_, F, I + 1, L, rfl, rfl, by go_num, by omega, by omega, by omega, ho, HN, g⟩
        case measure => simp [intOf]; omega
    · obtain rfl : I = s.size := by omega
      have hE := lnR_end s F r1
      by_cases hf : F < s.size
      · have hF : (F : Int) < (s.size : Int) := by omega
        have HN : Hid (L ++ [s.extract F s.size] = lnB s) := by
          unfold Hid; rw [← HL.out, hE, if_pos hf]
        clear HL hE ho hown
        go_wp2_with (first | (at_builtin; refine wpList_append_own _ rfl _ _ 57 rfl w.heap.size 9 i0 (.string ByteArray.empty) 1 16 Tryz.underlying57 hi hz0 hz1 hz2 rfl (by decide) _ _ _ rfl (HO.out.alloc _) ⟨wr.heap.size, 0, none⟩ 1 1 [.string (s.extract F s.size)] rfl rfl ?c1 ?c2 ?c3 ?c4 ?c5 ?_))
        case c1 => exact cell_one_new _ _ _
        case c2 => simp [Value.oneCell']
        case c3 => unfold maxLen; omega
        case c4 => omega
        case c5 => have := g.size; simp; omega
        intro v' w1 hown' hgrow _
        have hg1 : Gr w w1 := Gr.grown (g'.alloc _) hgrow HO.out
        have ho1 : OwnS w.heap.size w1 v' (L ++ [s.extract F s.size]) := OwnS.snoc hown'
        have hv := ho1.vals (by unfold maxLen; simp; omega)
        clear hown' hgrow HO
        go_wp2
        go_ret
        refine ⟨v', rfl, ?_, hg1⟩
        rw [← HN.out]; exact hv
      · have HN : Hid (L = lnB s) := by
          unfold Hid; rw [← HL.out, hE, if_neg hf]; simp
        have hv := ho.vals (by unfold maxLen; omega)
        clear HL hE
        go_wp2
        go_ret
        refine ⟨v, rfl, ?_, g⟩
        rw [← HN.out]; exact hv
end Go.Proofs.YtknmngejjoohdaaGreatDoor
namespace Go.Proofs.YtknmngejjoohdaaGreatDoor
open Go.ChangeShapes Go.WideShapes Go.ChangeAt Go.RowKit
set_option linter.unusedVariables false
set_option linter.unusedSimpArgs false

theorem idx_none {s : ByteArray} (h : Lib.indexByte s.data.toList 10 = -1) : ∀ c ∈ s.data.toList, c ≠ 10 := by
  intro c hc e
  obtain ⟨k, hk⟩ := List.mem_iff_getElem?.1 hc
  exact Lib.indexByte_none h k (by rw [hk, e])
theorem idx_some {s : ByteArray} {i : Nat} (h : Lib.indexByte s.data.toList 10 = i) : s.data.toList[i]? = some 10 ∧ ∀ c ∈ s.data.toList.take i, c ≠ 10 := by
  obtain ⟨h1, h2⟩ := Lib.indexByte_some h
  refine ⟨h1, fun c hc e => ?_⟩
  obtain ⟨k, hk⟩ := List.mem_iff_getElem?.1 hc
  have hki : k < i := by
    have := (List.getElem?_eq_some_iff.1 hk).1
    simp at this
    omega
  rw [List.getElem?_take, if_pos hki] at hk
  exact h2 k hki (by rw [hk, e])
theorem toList_ne {s : ByteArray} : (s.toList = []) ↔ s.size = 0 := by
  rw [ByteArray.toList_eq]
  have hl : s.data.toList.length = s.size := by simp
  rw [← hl, List.length_eq_zero_iff]
set_option maxRecDepth 100000 in
set_option maxHeartbeats 400000 in
theorem lines_any (s : ByteArray) (hs : s.size ≤ 1048576) (w : World) :
    Calls Tryz.prog 37 #[.string s] w (RetS w (lnB s)) := by
  obtain ⟨i0, hi, hz0, hz1, hz2⟩ := info_parts Tryz.infoS
  go_enter Tryz.func37, Tryz.ntmps37
  go_wp2
  go_loopw [0, 3, 4] (fun x v _ wr => ∃ (V : Value) (r : ByteArray) (L : List ByteArray), V = v ∧ x = .string r ∧ L.length + r.size ≤ s.size ∧ OwnS w.heap.size wr V L ∧ Hid (L ++ lnB r = lnB s) ∧ Gr w wr) (fun x _ _ _ => match x with | .string r => r.size | _ => 0)
  case atStart => exact ⟨_, s, [], rfl, rfl, by simp, OwnS.nil _ _, rfl, Gr.refl _⟩
  case round =>
    obtain ⟨v, r, L, rfl, rfl, r1, ho, HL, g⟩ := hrel
    have HO : Hid (wr.ownsRow w.heap.size 9 1 v L.length (L.map Value.string)) := ho
    have g' := g
    by_cases he : r.size = 0
    · have hd : r.data.toList = [] := List.length_eq_zero_iff.1 (by simpa using he)
      have HN : Hid (L = lnB s) := by unfold Hid; rw [← HL.out, lnB_empty r hd]; simp
      have hv := ho.vals (by unfold maxLen; omega)
      have hl : r.toList = [] := toList_ne.2 he
      have hl2 : (!r.toList.isEmpty) = false := by rw [hl]; rfl
      have hl3 : r.toList.isEmpty = true := by rw [hl]; rfl
      clear HL ho HO hd he
      go_wp2
      go_ret
      refine ⟨v, rfl, ?_, g⟩
      rw [← HN.out]; exact hv
    · have hne : r.data.toList ≠ [] := fun e => he (by have := congrArg List.length e; simpa using this)
      have hl : ¬ r.toList = [] := fun e => he (toList_ne.1 e)
      have hl2 : (!r.toList.isEmpty) = true := by simp [List.isEmpty_iff, hl]
      have hl3 : r.toList.isEmpty = false := by simp [List.isEmpty_iff, hl]
      rcases Int.lt_or_le (Lib.indexByte r.data.toList 10) 0 with hi0 | hi0
      · have hm : Lib.indexByte r.data.toList 10 = -1 := by have := Lib.indexByte_ge r.data.toList 10; omega
        have HN : Hid (L ++ [r] = lnB s) := by unfold Hid; rw [← HL.out, lnB_none r hne (idx_none hm)]
        have HM := Lib.hid hm
        clear HL ho hne hl hm hi0
        go_wp2_with fail
        refine (Tryz.strings_IndexByte r 10 _).mono ?_
        rintro e w1 ⟨rfl, rfl⟩
        have e10 : (10 : Int).toNat.toUInt8 = 10 := rfl
        rw [e10, HM.out]
        clear e10
        go_wp2_with (first | (at_builtin; refine wpList_append_own _ rfl _ _ 57 rfl w.heap.size 9 i0 (.string ByteArray.empty) 1 16 Tryz.underlying57 hi hz0 hz1 hz2 rfl (by decide) _ _ _ rfl (HO.out.alloc _) ⟨_, 0, none⟩ 1 1 [.string r] rfl rfl ?c1 ?c2 ?c3 ?c4 ?c5 ?_))
        case c1 => exact cell_one_new _ _ _
        case c2 => simp [Value.oneCell']
        case c3 => unfold maxLen; omega
        case c4 => omega
        case c5 => have := g.size; simp; omega
        intro v' w2 hown' hgrow _
        have hg1 : Gr w w2 := Gr.grown (g'.alloc _) hgrow HO.out
        have ho1 : OwnS w.heap.size w2 v' (L ++ [r]) := OwnS.snoc hown'
        have hv := ho1.vals (by unfold maxLen; simp; omega)
        clear hown' hgrow HO
        go_wp2
        go_ret
        refine ⟨v', rfl, ?_, hg1⟩
        rw [← HN.out]; exact hv
      · obtain ⟨i, hin⟩ : ∃ i : Nat, Lib.indexByte r.data.toList 10 = i := ⟨(Lib.indexByte r.data.toList 10).toNat, by omega⟩
        obtain ⟨x1, x2⟩ := idx_some hin
        have ilt : i < r.size := by have := (List.getElem?_eq_some_iff.1 x1).1; simpa using this
        have HN : Hid ((L ++ [r.extract 0 i]) ++ lnB (r.extract (i + 1) r.size) = lnB s) := by
          unfold Hid; rw [← HL.out, lnB_at r i x1 x2]; simp
        have HM := Lib.hid hin
        have b1 : (i : Int) < (r.size : Int) := by omega
        have b2 : (i : Int) ≤ (r.size : Int) := by omega
        have b3 : (i : Int) + 1 ≤ (r.size : Int) := by omega
        have b4 : (r.size : Int) ≤ 1048576 := by omega
        clear HL ho hne hl hin hi0 x1 x2
        go_wp2_with fail
        refine (Tryz.strings_IndexByte r 10 _).mono ?_
        rintro e w1 ⟨rfl, rfl⟩
        have e10 : (10 : Int).toNat.toUInt8 = 10 := rfl
        rw [e10, HM.out]
        clear e10
        go_wp2_with (first | (at_builtin; refine wpList_append_own _ rfl _ _ 57 rfl w.heap.size 9 i0 (.string ByteArray.empty) 1 16 Tryz.underlying57 hi hz0 hz1 hz2 rfl (by decide) _ _ _ rfl (HO.out.alloc _) ⟨_, 0, none⟩ 1 1 [.string (r.extract 0 i)] rfl rfl ?c1 ?c2 ?c3 ?c4 ?c5 ?_))
        case c1 => exact cell_one_new _ _ _
        case c2 => simp [Value.oneCell']
        case c3 => unfold maxLen; omega
        case c4 => omega
        case c5 => have := g.size; simp; omega
        intro v' w2 hown' hgrow _
        have hg1 : Gr w w2 := Gr.grown (g'.alloc _) hgrow HO.out
        have ho1 : OwnS w.heap.size w2 v' (L ++ [r.extract 0 i]) := OwnS.snoc hown'
        clear hown' hgrow HO
        go_wp2
        go_roundw
        case rel => exact ⟨_, r.extract (i + 1) r.size, L ++ [r.extract 0 i], rfl, rfl, by simp; omega, ho1, HN, hg1⟩
        case measure => simp; omega
end Go.Proofs.YtknmngejjoohdaaGreatDoor
namespace Go.Proofs.YtknmngejjoohdaaGreatDoor
open Go.ChangeShapes Go.WideShapes Go.ChangeAt Go.RowKit Go.Maps
set_option linter.unusedVariables false
set_option linter.unusedSimpArgs false
theorem unl_len : ∀ (L : List ByteArray), L.length ≤ (unl L).size ∧ ∀ x ∈ L, x.size ≤ (unl L).size
  | [] => ⟨by simp, fun x hx => by cases hx⟩
  | x :: t => by
    have ih := unl_len t
    have h1 : (⟨#[10]⟩ : ByteArray).size = 1 := rfl
    unfold unl
    simp only [size_app, h1, List.length_cons]
    refine ⟨by omega, fun y hy => ?_⟩
    rcases List.mem_cons.1 hy with rfl | hy
    · omega
    · have := ih.2 y hy; omega
theorem lnB_bd (s : ByteArray) : (lnB s).length ≤ s.size + 1 ∧ ∀ x ∈ lnB s, x.size ≤ s.size + 1 := by
  have h := unl_len (lnB s)
  have h1 : (⟨#[10]⟩ : ByteArray).size = 1 := rfl
  rcases unl_lnB s with e | e
  · rw [e] at h
    exact ⟨by omega, fun x hx => by have := h.2 x hx; omega⟩
  · rw [e, size_app, h1] at h
    exact ⟨h.1, h.2⟩
theorem wdS_ne {s : ByteArray} {L : List ByteArray} (h : wdB s = some L) : L ≠ [] ∧ L.length ≤ s.size + 1 ∧ ∀ x ∈ L, x.size ≤ s.size := by
  rw [wdB_pcs] at h
  split at h
  · cases h
    refine ⟨?_, ?_, fun x hx => pcs_size hx⟩
    · intro e
      have h1 := pcs_len s
      rw [e] at h1
      simp at h1
    · rw [pcs_len]
      have := Lib.countB_le blank (by rw [blank_size]; omega) s.size s (Nat.le_refl _)
      omega
  · cases h
end Go.Proofs.YtknmngejjoohdaaGreatDoor
namespace Go.Proofs.YtknmngejjoohdaaGreatDoor
open Go.ChangeShapes Go.WideShapes Go.ChangeAt Go.RowKit Go.Maps
set_option linter.unusedVariables false
set_option linter.unusedSimpArgs false
def SayS (b B : Nat) (w : World) (L : List ByteArray) : Prop := b < B ∧ B ≤ w.heap.size ∧ ∃ v, w.heap[b]? = some (.cells #[v] 57) ∧ OwnS B w v L
theorem SayS.gr {b B : Nat} {w w' : World} {L : List ByteArray} (h : SayS b B w L) (g : Gr w w') : SayS b B w' L := by
  obtain ⟨h0, h1, v, h2, h3⟩ := h
  exact ⟨h0, Nat.le_trans h1 g.size, v, (g.block b (by omega)).trans h2, own_gr h3 g⟩
theorem SayS.new {w : World} : SayS w.heap.size (w.heap.size + 1) (w.alloc (.cells #[.slice none 0 0] 57)) [] :=
  ⟨Nat.lt_succ_self _, by simp, _, heap_alloc_new w _, OwnS.nil _ _⟩
def Kept (b : Nat) (w w' : World) : Prop := w.heap.size ≤ w'.heap.size ∧ ∀ k cs T, w.heap[k]? = some (.cells cs T) → T ≠ 9 → k ≠ b → w'.heap[k]? = some (.cells cs T)
theorem join_valsW {w : World} {v : Value} {L : List ByteArray} (hv : IsVals w v (L.map Value.string)) (hc : CapOk v) (hne : L ≠ []) (hs : (jnW L).size ≤ 1000000) (hl : L.length ≤ 1000) :
    Calls Tryz.prog 56 #[v, .string ⟨#[32]⟩] w fun e w' => e = .returned (.string (jnW L)) ∧ Gr w w' := by
  have hcp : ∀ a n c, v = .slice a n c → n ≤ c := hc
  obtain ⟨a', c', e', -, hx⟩ := hv
  rw [List.length_map] at e'
  subst e'
  rcases hx with hx | ⟨bb, o, rfl, hbb, hcell⟩
  · exact absurd (List.length_eq_zero_iff.1 (by simpa using hx)) hne
  have := Tryz.strings_Join bb o c' L ⟨#[32]⟩ w (fun j x hj => hcell j _ (by rw [List.getElem?_map, hj]; rfl)) hbb (by
    have := List.length_pos_iff.2 hne; omega) (hcp _ _ _ rfl) (by
      have h1 : (Lib.join (L.map (·.data.toList)) [32]).length = (jnW L).size := rfl
      show (Lib.join _ [32]).length ≤ _
      rw [h1]; omega)
  exact this
theorem say_end {b B : Nat} {W0 w w5 w9 : World} {L : List ByteArray} {x : ByteArray} {va : Option Addr} {vc gg cap : Nat} (hb : W0.heap.size ≤ b) (hbB : b < B) (hBz : B ≤ w.heap.size) (hO : OwnS B w (.slice va L.length vc) L) (hh : w.heap[b]? = some (.cells #[.slice va L.length vc] 57)) (g : Gr W0 w) (g5 : Gr w w5)
    (hgrow : w5.grownBy w9 (Value.slice va L.length vc).ownBlock) (hown : w9.ownsRow B 9 1 (.slice (some ⟨gg, 0, none⟩) (L.length + 1) cap) (L.length + 1) (L.map Value.string ++ [.string x])) :
    Gr W0 (w9.setCell ⟨b, 0, none⟩ (.slice (some ⟨gg, 0, none⟩) (L.length + 1) cap)) ∧ SayS b B (w9.setCell ⟨b, 0, none⟩ (.slice (some ⟨gg, 0, none⟩) (L.length + 1) cap)) (L ++ [x]) ∧ Kept b w (w9.setCell ⟨b, 0, none⟩ (.slice (some ⟨gg, 0, none⟩) (L.length + 1) cap)) := by
  have hne : (Value.slice va L.length vc).ownBlock ≠ some b := fun e' => (own_ne hO hh (by decide)) e'.symm
  have hb5 := (g5.block b (by omega)).trans hh
  have hb9 := (hgrow.block b (by have := g5.size; omega) (Ne.symm hne)).trans hb5
  refine ⟨(Gr.grown (g.trans g5) hgrow (own_base_le hO (by omega))).setCell hb _, ⟨hbB, ?_, _, heap_setCell_same w9 b 0 _ _ _ hb9, ?_⟩, ?_, ?_⟩
  · have := g5.size; have := hgrow.size; simp; omega
  · exact ownsRow_setCell_below (OwnS.snoc hown) hbB _
  · have := g5.size; have := hgrow.size; simp; omega
  · intro k cs T hk hT hkb
    have hk0 : k < w.heap.size := by
      rcases Nat.lt_or_ge k w.heap.size with h | h
      · exact h
      · rw [Array.getElem?_eq_none h] at hk; cases hk
    have h5 := (g5.block k hk0).trans hk
    have hn : some k ≠ (Value.slice va L.length vc).ownBlock := own_ne hO hk hT
    rw [heap_setCell_other _ _ _ _ (by exact hkb)]
    exact (hgrow.block k (by have := g5.size; omega) hn).trans h5
set_option maxRecDepth 100000 in
set_option maxHeartbeats 1000000 in
theorem say_any (b B : Nat) (v : Value) (W L : List ByteArray) (w0 w : World) (hb : w0.heap.size ≤ b) (g : Gr w0 w) (hv : IsVals w v (W.map Value.string)) (hc : CapOk v) (hne : W ≠ []) (hs : (jnW W).size ≤ 1000000) (hl : W.length ≤ 1000) (hL : L.length ≤ 100000) (hS : SayS b B w L) :
    Calls Tryz.prog 69 #[v, .pointer (some ⟨b, 0, none⟩)] w fun e w' => e = .returned (.tuple #[]) ∧ Gr w0 w' ∧ SayS b B w' (L ++ [jnW W ++ ⟨#[10]⟩]) ∧ Kept b w w' := by
  obtain ⟨hbB, hBz, u, hh, hO⟩ := hS
  have HJ := Lib.hid (fun (w' : World) (g : Gr w w') => join_valsW (hv.gr g) hc hne hs hl)
  obtain ⟨va, vc, rfl⟩ := own_form hO
  have hbz : b < w.heap.size := by omega
  have hfz : ∀ w', Gr w w' → w'.frozen? ⟨b, 0, none⟩ = false := fun w' g => by
    exact frozen_of_row w' b 0 _ _ ((g.block b hbz).trans hh)
  have hcl : ∀ w', Gr w w' → w'.cell? ⟨b, 0, none⟩ = some (.slice va L.length vc) := fun w' g => by
    rw [cell_of_row w' b 0 _ _ _ ((g.block b hbz).trans hh)]; rfl
  have c0 := hcl _ (Gr.refl w)
  have HCL := Lib.hid hcl
  have HFZ := Lib.hid hfz
  have HO := Lib.hid hO
  have HH := Lib.hid hh
  obtain ⟨i0, hi0, hi1, hi2, hi3⟩ := info_parts Tryz.infoS
  have hsz : (jnW W).size ≤ 1000000 := hs
  clear hcl hfz hO hh hv hc hs hl hne
  generalize jnW W = R at HJ hsz ⊢
  obtain ⟨x, rfl, hx⟩ : ∃ x, v = x ∧ True := ⟨v, rfl, trivial⟩
  have q1 : ¬ 9223372036854775807 < R.size + 1 := by omega
  have hne2 : (Value.slice va L.length vc).ownBlock ≠ some b := fun e' => (own_ne HO.out HH.out (by decide)) e'.symm
  clear c0
  have c0 := HCL.out _ (Gr.refl w)
  go_enter Tryz.func69, Tryz.ntmps69
  go_region_law (first | (go_simp; go_at_call 56; (with_reducible refine (HJ.out _ (Gr.refl _).drew).mono ?_); rintro e w5 ⟨rfl, g5⟩; have c5 := HCL.out w5 ((Gr.refl _).drew.trans g5); have f5 := HFZ.out w5 ((Gr.refl _).drew.trans g5); have z5 := Nat.lt_of_lt_of_le hbz ((Gr.refl w).drew.trans g5).size; try go_wp2_with fail) | (refine step_append_lies _ (by rfl) _ _ _ (by rfl) B 9 i0 _ 1 16 Tryz.underlying57 hi0 hi1 hi2 hi3 rfl (by decide) (.slice va L.length vc) L.length (L.map Value.string) (by rfl) ((own_gr HO.out ((Gr.refl _).drew.trans g5)).alloc _) ⟨w5.heap.size, 0, none⟩ 1 1 [.string (R ++ ⟨#[10]⟩)] (by rfl) (by rfl) (World.news_of_block (heap_alloc_new w5 _)) (by simp [Value.oneCell']) (by omega) (by unfold maxLen; omega) (by omega) (by have := ((Gr.refl w).drew.trans g5).size; simp; omega) (w5.heap.size + 1) (by simp) ?_; intro gg cap w9 hown hgrow hat hlt; have f9 := (hgrow.frozen_far ⟨b, 0, none⟩ (by simp; omega) (by simpa using Ne.symm hne2)); have c9 := (hgrow.cell_far ⟨b, 0, none⟩ (by simp; omega) (by simpa using Ne.symm hne2))))
  all_goals
    refine bodyPost_end (results_none rfl _ _ _) rfl ?_
    exact ⟨rfl, say_end hb hbB hBz HO.out HH.out g (((Gr.refl w).drew.trans g5).alloc _) hgrow hown⟩
end Go.Proofs.YtknmngejjoohdaaGreatDoor
namespace Go.Proofs.YtknmngejjoohdaaGreatDoor
open Go.ChangeShapes Go.WideShapes Go.ChangeAt Go.RowKit Go.Maps
set_option linter.unusedVariables false
set_option linter.unusedSimpArgs false
theorem num5 {n : Int} (h0 : 0 ≤ n) (h1 : n < 100000) : numB (dgs n) 5 = true ∧ numN (dgs n) 5 = n := num_dgs 4 n h0 (by simpa using h1) (by omega)
theorem fine_all {P : Pln} (h : chk P = 0) : (P.es.length ≤ 40 ∧ P.ss.length ≤ 24 ∧ P.ls.length ≤ 4 ∧ P.js.length ≤ 80) ∧ numsB P = true ∧ (∀ e ∈ P.es, eleB e = true) ∧ (∀ s ∈ P.ss, nmB s.n = true) ∧ (∀ l ∈ P.ls, nmB l.n = true) ∧ (P.es.map (·.n)).Nodup ∧ (P.ss.map (·.n)).Nodup ∧ (P.ls.map (·.n)).Nodup ∧ joinedB P = true ∧ signalsB P = true ∧ linesB P = true := by
  unfold chk at h
  split at h
  · omega
  split at h
  · omega
  split at h
  · omega
  split at h
  · omega
  split at h
  · omega
  split at h
  · omega
  rename_i h1 h2 h3 h4 h5 h6
  simp only [Bool.or_eq_true, not_or, Bool.not_eq_true] at h3
  simp only [Bool.not_eq_false] at h2 h4 h5 h6
  rw [argsB_eq] at h2
  simp only [Bool.and_eq_true, List.all_eq_true] at h2
  exact ⟨by omega, h2.1.1.1, h2.1.1.2, h2.1.2, h2.2, twiceB_nodup h3.1.1, twiceB_nodup h3.1.2, twiceB_nodup h3.2, h4, h5, h6⟩
def portOkP (P : Pln) (x : Prt) : Prop := 0 ≤ x.e ∧ x.e < P.es.length ∧ 0 ≤ x.x ∧ x.x ≤ 9
theorem ends_le (k : Int) : endsK k ≤ 9 := by unfold endsK; repeat' split <;> omega
theorem has_ok {P : Pln} {x : Prt} (h : hasP P x = true) : portOkP P x := by
  unfold hasP at h
  simp only [Bool.and_eq_true, decide_eq_true_eq] at h
  have := ends_le (kindP P x.e)
  exact ⟨h.1.1.1, h.1.1.2, h.1.2, by omega⟩
theorem ports_ok {P : Pln} (h : chk P = 0) : (∀ j ∈ P.js, portOkP P j.a ∧ portOkP P j.b) ∧ ∀ s ∈ P.ss, portOkP P s.at_ := by
  obtain ⟨-, -, -, -, -, -, -, -, hj, hs, -⟩ := fine_all h
  unfold joinedB at hj
  unfold signalsB at hs
  simp only [Bool.and_eq_true, List.all_eq_true] at hj hs
  refine ⟨fun j hm => ⟨has_ok (hj.1.1 _ ?_), has_ok (hj.1.1 _ ?_)⟩, fun s hm => ?_⟩
  · unfold portsP; rw [List.mem_flatMap]; exact ⟨j, hm, by simp⟩
  · unfold portsP; rw [List.mem_flatMap]; exact ⟨j, hm, by simp⟩
  · obtain ⟨i, hi, he⟩ := List.mem_iff_getElem.1 hm
    have := hs.1 i (List.mem_range.2 hi)
    unfold sigB at this
    simp only [Bool.and_eq_true] at this
    have := this.1.1.1
    rw [getD_at _ _ hi, he] at this
    exact has_ok this
theorem ele_self {P : Pln} (h : chk P = 0) {e : Int} (h0 : 0 ≤ e) (h1 : e < P.es.length) : eleN P (P.es.getD e.toNat default).n = e ∧ nmB (P.es.getD e.toNat default).n = true := by
  obtain ⟨hn, -, -, hm⟩ := fine_names h
  have hi : e.toNat < P.es.length := by omega
  rw [getD_at _ _ hi]
  refine ⟨?_, hm _ (List.getElem_mem hi)⟩
  have := fst_self (l := P.es) (f := fun e => e.n) hn e.toNat hi
  unfold eleN
  rw [this]; omega
theorem port_parts {n : ByteArray} {d : Int} (h : nmB n = true) (h0 : 0 ≤ d) (h1 : d ≤ 9) : portB (n ++ ⟨#[46]⟩ ++ dgs d) = true ∧ portNm (n ++ ⟨#[46]⟩ ++ dgs d) = n ∧ portEn (n ++ ⟨#[46]⟩ ++ dgs d) = d := by
  have hz : 1 ≤ n.size := by unfold nmB at h; simp only [Bool.and_eq_true, decide_eq_true_eq] at h; exact h.1.1
  have hd : (dgs d).size = 1 := by rw [itoa_small h0 (by omega)]; rfl
  have hb : bt (dgs d) 0 = 48 + d := by rw [itoa_small h0 (by omega), bt_one, dg_byte d h0 (by omega)]
  have h1' : (⟨#[46]⟩ : ByteArray).size = 1 := rfl
  have hs : (n ++ ⟨#[46]⟩ ++ dgs d).size = n.size + 2 := by simp only [size_app, hd, h1']
  have e1 : portNm (n ++ ⟨#[46]⟩ ++ dgs d) = n := by
    unfold portNm
    rw [hs, Nat.add_sub_cancel]
    apply ByteArray.ext
    rw [ByteArray.data_extract]
    apply Array.ext'
    rw [Array.toList_extract]
    simp [ByteArray.data_append, List.extract_eq_take_drop]
  have e2 : bt (n ++ ⟨#[46]⟩ ++ dgs d) (n.size + 1) = 48 + d := by
    rw [bt_app, size_app, h1', if_neg (by omega), Nat.sub_self, hb]
  have e3 : bt (n ++ ⟨#[46]⟩ ++ dgs d) n.size = 46 := by
    rw [bt_app, size_app, h1', if_pos (by omega), bt_app, if_neg (by omega), Nat.sub_self]; rfl
  refine ⟨?_, e1, ?_⟩
  · unfold portB
    rw [e1, hs, Nat.add_sub_cancel, show n.size + 2 - 1 = n.size + 1 from by omega, e2, e3, h]
    have : dgB (48 + d) = true := by unfold dgB; simp; omega
    rw [this, decide_eq_true (by omega : 3 ≤ n.size + 2)]; rfl
  · unfold portEn
    rw [hs, show n.size + 2 - 1 = n.size + 1 from by omega, e2]; omega
theorem told_back {P : Pln} (h : chk P = 0) {x : Prt} (hx : portOkP P x) (Q : Pln) (hq : Q.es = P.es) : portB (toldT P x) = true ∧ portP Q (toldT P x) = some x := by
  obtain ⟨h0, h1, h2, h3⟩ := hx
  obtain ⟨hs, hm⟩ := ele_self h h0 h1
  obtain ⟨p1, p2, p3⟩ := port_parts hm h2 h3
  unfold toldT
  rw [if_pos ⟨h0, h1, h2, h3⟩]
  refine ⟨p1, ?_⟩
  unfold portP eleN
  rw [p2, p3, hq]
  unfold eleN at hs
  rw [hs, if_neg (by omega)]
theorem told_word {P : Pln} (h : chk P = 0) {x : Prt} (hx : portOkP P x) : wordB (toldT P x) ∧ (toldT P x).size ≤ 10 := by
  obtain ⟨h0, h1, h2, h3⟩ := hx
  obtain ⟨hs, hm⟩ := ele_self h h0 h1
  have hd : (dgs x.x).size = 1 := by rw [itoa_small h2 (by omega)]; rfl
  have h1' : (⟨#[46]⟩ : ByteArray).size = 1 := rfl
  have hz := nm_size hm
  have w1 := nm_word hm
  have w2 := dgs_word x.x h2 (by omega)
  unfold toldT
  rw [if_pos ⟨h0, h1, h2, h3⟩]
  refine ⟨⟨?_, ?_⟩, by simp only [size_app, hd, h1']; omega⟩
  · rw [app_data, app_data]; intro e
    have := w1.1
    simp only [List.append_eq_nil_iff] at e
    exact this e.1.1
  · intro c hc
    rw [app_data, app_data] at hc
    rcases List.mem_append.1 hc with hc | hc
    · rcases List.mem_append.1 hc with hc | hc
      · exact w1.2 c hc
      · have : c = 46 := by simpa using hc
        subst this; decide
    · exact w2.2 c hc
theorem skip_no {b a : ByteArray} {t : List ByteArray} (h0 : b.size ≠ 0) (h : bt b 0 ≠ 35) : skipB (jnW (b :: a :: t)) = false := by
  unfold skipB
  rw [jnW_cons, size_app, size_app, bt_app, size_app, if_pos (by omega), bt_app, if_pos (by omega)]
  rw [decide_eq_false (by omega), decide_eq_false h]; rfl
theorem take_words {S : Option Pln} {b a : ByteArray} {t : List ByteArray} (h0 : b.size ≠ 0) (h : bt b 0 ≠ 35) (hw : ∀ x ∈ b :: a :: t, wordB x) : takeT S (jnW (b :: a :: t)) = takeW S (b :: a :: t) := by
  unfold takeT
  rw [skip_no h0 h, if_neg (by simp), wdB_jnW _ (by simp) hw]
theorem prg_fold {α : Type} (f : α → ByteArray) (g : List α → Pln) : ∀ (L A : List α) (i : Nat), (∀ x ∈ L, ∀ A, takeT (some (g A)) (f x) = .inr (some (g (A ++ [x])))) → prgT (L.map f) i (some (g A)) = .inr (some (g (A ++ L)))
  | [], A, i, _ => by rw [List.append_nil]; rfl
  | x :: t, A, i, h => by
    rw [List.map_cons, prgT_cons, h x (by simp) A]
    dsimp only
    rw [prg_fold f g t (A ++ [x]) (i + 1) fun y hy => h y (List.mem_cons_of_mem _ hy), List.append_assoc]; rfl
theorem kind_word (k : Int) : wordB (kindT k) ∧ (kindT k).size ≤ 6 ∧ (kindT k).size ≠ 0 ∧ bt (kindT k) 0 ≠ 35 := by
  unfold kindT
  refine ⟨?_, ?_, ?_, ?_⟩ <;> (repeat' split) <;> first | exact wordB_of (by decide) (by decide) | decide
theorem take_e {P : Pln} (h : chk P = 0) {e : Ele} (he : e ∈ P.es) (Q : Pln) : takeT (some Q) (jnW (wordsE e)) = .inr (some { Q with es := Q.es ++ [e] }) := by
  obtain ⟨hn, hk, h0, h1, h2, h3⟩ := fine_ele h e he
  obtain ⟨n, k, l⟩ := e
  dsimp only at hn hk h0 h1 h2 h3
  have hw := nm_word hn
  have hg : wordB bGateE := wordB_of (by decide) (by decide)
  unfold wordsE
  by_cases h4 : k = 4
  · subst h4
    have := h3 rfl
    subst this
    rw [if_pos rfl, take_words (by decide) (by decide) (by intro x hx; simp only [List.mem_cons, List.not_mem_nil, or_false] at hx; rcases hx with rfl | rfl; exact hg; exact hw)]
    unfold takeW rowW
    dsimp only
    rw [if_pos (by decide)]
    unfold elemW
    dsimp only
    rw [if_pos ⟨by decide, hn⟩]
  · rw [if_neg h4]
    have kk := kind_word k
    have n5 := num5 h0 (by omega)
    rw [take_words kk.2.2.1 kk.2.2.2 (by intro x hx; simp only [List.mem_cons, List.not_mem_nil, or_false] at hx; rcases hx with rfl | rfl | rfl; exact kk.1; exact hw; exact dgs_word _ h0 (by omega))]
    have kv : kindW (kindT k) = k := by
      rcases (by omega : k = 1 ∨ k = 2 ∨ k = 3) with rfl | rfl | rfl <;> decide
    unfold takeW rowW
    dsimp only
    rw [kv, if_pos (by omega)]
    unfold elemW
    dsimp only
    rw [if_pos ⟨by rw [kv]; exact h4, hn, n5.1⟩, n5.2, kv]
theorem take_j {P : Pln} (h : chk P = 0) {j : Jn} (hj : j ∈ P.js) (Q : Pln) (hq : Q.es = P.es) : takeT (some Q) (jnW (wordsJ P j)) = .inr (some { Q with js := Q.js ++ [j] }) := by
  obtain ⟨pa, pb⟩ := (ports_ok h).1 j hj
  have ta := told_back h pa Q hq
  have tb := told_back h pb Q hq
  unfold wordsJ
  rw [take_words (by decide) (by decide) (by intro x hx; simp only [List.mem_cons, List.not_mem_nil, or_false] at hx; rcases hx with rfl | rfl | rfl; exact wordB_of (by decide) (by decide); exact (told_word h pa).1; exact (told_word h pb).1)]
  unfold takeW rowW
  dsimp only
  rw [if_neg (by decide), if_pos rfl]
  unfold joinW
  dsimp only
  rw [if_pos ⟨ta.1, tb.1⟩, ta.2, tb.2]
theorem take_s {P : Pln} (h : chk P = 0) {s : Sg} (hs : s ∈ P.ss) (Q : Pln) (hq : Q.es = P.es) : takeT (some Q) (jnW (wordsG P s)) = .inr (some { Q with ss := Q.ss ++ [s] }) := by
  have pa := (ports_ok h).2 s hs
  have hn := (fine_all h).2.2.2.1 s hs
  have ta := told_back h pa Q hq
  have hw := nm_word hn
  have tw := (told_word h pa).1
  have e3 : ∀ b, sig3 Q s.n (toldT P s.at_) b = .inr { Q with ss := Q.ss ++ [⟨s.n, s.at_, b⟩] } := fun b => by
    unfold sig3
    rw [if_pos ⟨hn, ta.1⟩, ta.2]
  obtain ⟨n, a, u⟩ := s
  dsimp only at *
  unfold wordsG
  cases u with
  | true =>
    dsimp only
    rw [if_pos rfl, List.cons_append, List.cons_append, List.cons_append, List.nil_append]
    rw [take_words (by decide) (by decide) (by intro x hx; simp only [List.mem_cons, List.not_mem_nil, or_false] at hx; rcases hx with rfl | rfl | rfl | rfl; exact wordB_of (by decide) (by decide); exact hw; exact tw; exact wordB_of (by decide) (by decide))]
    unfold takeW rowW
    dsimp only
    rw [if_neg (by decide), if_neg (by decide), if_pos rfl]
    unfold signalW
    dsimp only
    rw [if_pos rfl, e3]
  | false =>
    dsimp only
    rw [if_neg (by decide), List.append_nil]
    rw [take_words (by decide) (by decide) (by intro x hx; simp only [List.mem_cons, List.not_mem_nil, or_false] at hx; rcases hx with rfl | rfl | rfl; exact wordB_of (by decide) (by decide); exact hw; exact tw)]
    unfold takeW rowW
    dsimp only
    rw [if_neg (by decide), if_neg (by decide), if_pos rfl]
    unfold signalW
    dsimp only
    rw [e3]
end Go.Proofs.YtknmngejjoohdaaGreatDoor
