/- DrB: draft.Print's closure: one line more.
DrJ: draft.Print: what its walk needs. No walk.
DrX: A port's text, cut at its first point. Plain.
DrY: Lines of a plan's text: sizes of what they tell; the errors are errors. Plain.
DgN: The signal, the element of a name: the program's and the reference's.
DrM: The reader of plans: what its box and its rows hold. No walk. -/
import Derived.Test.YtjblplflgiibdaaGreatDoorRows
import Derived.Test.YtjblplflgiibdaaGreatDoorB9
import Derived.Test.YtjblplflgiibdaaGreatDoorB2
import Derived.Deep.RegionLaw
import Derived.Deep.AppendLies
import Derived.Lib.IndexLaws
import Derived.Test.YtjblplflgiibdaaGreatDoorB1
import Derived.Test.YtjblplflgiibdaaGreatDoorB8
import Derived.Test.YtjblplflgiibdaaGreatDoorB3
import Derived.Test.YtjblplflgiibdaaGreatDoorB7
namespace Go.Proofs.YtjblplflgiibdaaGreatDoor
open Go.ChangeShapes Go.WideShapes Go.ChangeAt Go.RowKit Go.Maps
set_option linter.unusedVariables false
set_option linter.unusedSimpArgs false
def SayS (b B : Nat) (w : World) (L : List ByteArray) : Prop := b < B ∧ B ≤ w.heap.size ∧ ∃ v, w.heap[b]? = some (.cells #[v] 38) ∧ OwnS B w v L
theorem SayS.gr {b B : Nat} {w w' : World} {L : List ByteArray} (h : SayS b B w L) (g : Gr w w') : SayS b B w' L := by
  obtain ⟨h0, h1, v, h2, h3⟩ := h
  exact ⟨h0, Nat.le_trans h1 g.size, v, (g.block b (by omega)).trans h2, own_gr h3 g⟩
theorem SayS.new {w : World} : SayS w.heap.size (w.heap.size + 1) (w.alloc (.cells #[.slice none 0 0] 38)) [] :=
  ⟨Nat.lt_succ_self _, by simp, _, heap_alloc_new w _, OwnS.nil _ _⟩
def Kept (b : Nat) (w w' : World) : Prop := w.heap.size ≤ w'.heap.size ∧ ∀ k cs T, w.heap[k]? = some (.cells cs T) → T ≠ 9 → k ≠ b → w'.heap[k]? = some (.cells cs T)
theorem join_valsW {w : World} {v : Value} {L : List ByteArray} (hv : IsVals w v (L.map Value.string)) (hc : CapOk v) (hne : L ≠ []) (hs : (jnW L).size ≤ 1000000) (hl : L.length ≤ 1000) :
    Calls Tryz.prog 31 #[v, .string ⟨#[32]⟩] w fun e w' => e = .returned (.string (jnW L)) ∧ Gr w w' := by
  have hcp : ∀ a n c, v = .slice a n c → n ≤ c := hc
  obtain ⟨a', c', e', -, hx⟩ := hv
  rw [List.length_map] at e'
  subst e'
  rcases hx with hx | ⟨bb, o, rfl, hbb, hcell⟩
  · exact absurd (List.length_eq_zero_iff.1 (by simpa using hx)) hne
  have := Tryz.strings_Join bb o c' L ⟨#[32]⟩ w (fun j x hj => hcell j _ (by rw [List.getElem?_map, hj]; rfl)) hbb (by
    have := List.length_pos_iff.2 hne; omega) (hcp _ _ _ rfl) (by
      have h1 : (Lib.join (L.map (·.data.toList)) [32]).length = (jnW L).size := rfl
      show (Lib.join _ [32]).length ≤ _
      rw [h1]; omega)
  exact this
theorem say_end {b B : Nat} {W0 w w5 w9 : World} {L : List ByteArray} {x : ByteArray} {va : Option Addr} {vc gg cap : Nat} (hb : W0.heap.size ≤ b) (hbB : b < B) (hBz : B ≤ w.heap.size) (hO : OwnS B w (.slice va L.length vc) L) (hh : w.heap[b]? = some (.cells #[.slice va L.length vc] 38)) (g : Gr W0 w) (g5 : Gr w w5)
    (hgrow : w5.grownBy w9 (Value.slice va L.length vc).ownBlock) (hown : w9.ownsRow B 9 1 (.slice (some ⟨gg, 0, none⟩) (L.length + 1) cap) (L.length + 1) (L.map Value.string ++ [.string x])) :
    Gr W0 (w9.setCell ⟨b, 0, none⟩ (.slice (some ⟨gg, 0, none⟩) (L.length + 1) cap)) ∧ SayS b B (w9.setCell ⟨b, 0, none⟩ (.slice (some ⟨gg, 0, none⟩) (L.length + 1) cap)) (L ++ [x]) ∧ Kept b w (w9.setCell ⟨b, 0, none⟩ (.slice (some ⟨gg, 0, none⟩) (L.length + 1) cap)) := by
  have hne : (Value.slice va L.length vc).ownBlock ≠ some b := fun e' => (own_ne hO hh (by decide)) e'.symm
  have hb5 := (g5.block b (by omega)).trans hh
  have hb9 := (hgrow.block b (by have := g5.size; omega) (Ne.symm hne)).trans hb5
  refine ⟨(Gr.grown (g.trans g5) hgrow (own_base_le hO (by omega))).setCell hb _, ⟨hbB, ?_, _, heap_setCell_same w9 b 0 _ _ _ hb9, ?_⟩, ?_, ?_⟩
  · have := g5.size; have := hgrow.size; simp; omega
  · exact ownsRow_setCell_below (OwnS.snoc hown) hbB _
  · have := g5.size; have := hgrow.size; simp; omega
  · intro k cs T hk hT hkb
    have hk0 : k < w.heap.size := by
      rcases Nat.lt_or_ge k w.heap.size with h | h
      · exact h
      · rw [Array.getElem?_eq_none h] at hk; cases hk
    have h5 := (g5.block k hk0).trans hk
    have hn : some k ≠ (Value.slice va L.length vc).ownBlock := own_ne hO hk hT
    rw [heap_setCell_other _ _ _ _ (by exact hkb)]
    exact (hgrow.block k (by have := g5.size; omega) hn).trans h5
set_option maxRecDepth 100000 in
set_option maxHeartbeats 1000000 in
theorem say_any (b B : Nat) (v : Value) (W L : List ByteArray) (w0 w : World) (hb : w0.heap.size ≤ b) (g : Gr w0 w) (hv : IsVals w v (W.map Value.string)) (hc : CapOk v) (hne : W ≠ []) (hs : (jnW W).size ≤ 1000000) (hl : W.length ≤ 1000) (hL : L.length ≤ 100000) (hS : SayS b B w L) :
    Calls Tryz.prog 30 #[v, .pointer (some ⟨b, 0, none⟩)] w fun e w' => e = .returned (.tuple #[]) ∧ Gr w0 w' ∧ SayS b B w' (L ++ [jnW W ++ ⟨#[10]⟩]) ∧ Kept b w w' := by
  obtain ⟨hbB, hBz, u, hh, hO⟩ := hS
  have HJ := Lib.hid (fun (w' : World) (g : Gr w w') => join_valsW (hv.gr g) hc hne hs hl)
  obtain ⟨va, vc, rfl⟩ := own_form hO
  have hbz : b < w.heap.size := by omega
  have hfz : ∀ w', Gr w w' → w'.frozen? ⟨b, 0, none⟩ = false := fun w' g => by
    exact frozen_of_row w' b 0 _ _ ((g.block b hbz).trans hh)
  have hcl : ∀ w', Gr w w' → w'.cell? ⟨b, 0, none⟩ = some (.slice va L.length vc) := fun w' g => by
    rw [cell_of_row w' b 0 _ _ _ ((g.block b hbz).trans hh)]; rfl
  have c0 := hcl _ (Gr.refl w)
  have HCL := Lib.hid hcl
  have HFZ := Lib.hid hfz
  have HO := Lib.hid hO
  have HH := Lib.hid hh
  obtain ⟨i0, hi0, hi1, hi2, hi3⟩ := info_parts Tryz.infoS
  have hsz : (jnW W).size ≤ 1000000 := hs
  clear hcl hfz hO hh hv hc hs hl hne
  generalize jnW W = R at HJ hsz ⊢
  obtain ⟨x, rfl, hx⟩ : ∃ x, v = x ∧ True := ⟨v, rfl, trivial⟩
  have q1 : ¬ 9223372036854775807 < R.size + 1 := by omega
  have hne2 : (Value.slice va L.length vc).ownBlock ≠ some b := fun e' => (own_ne HO.out HH.out (by decide)) e'.symm
  clear c0
  have c0 := HCL.out _ (Gr.refl w)
  go_enter Tryz.func30, Tryz.ntmps30
  go_region_law (first | (go_simp; go_at_call 31; (with_reducible refine (HJ.out _ (Gr.refl _).drew).mono ?_); rintro e w5 ⟨rfl, g5⟩; have c5 := HCL.out w5 ((Gr.refl _).drew.trans g5); have f5 := HFZ.out w5 ((Gr.refl _).drew.trans g5); have z5 := Nat.lt_of_lt_of_le hbz ((Gr.refl w).drew.trans g5).size; try go_wp2_with fail) | (refine step_append_lies _ (by rfl) _ _ _ (by rfl) B 9 i0 _ 1 16 Tryz.underlying38 hi0 hi1 hi2 hi3 rfl (by decide) (.slice va L.length vc) L.length (L.map Value.string) (by rfl) ((own_gr HO.out ((Gr.refl _).drew.trans g5)).alloc _) ⟨w5.heap.size, 0, none⟩ 1 1 [.string (R ++ ⟨#[10]⟩)] (by rfl) (by rfl) (World.news_of_block (heap_alloc_new w5 _)) (by simp [Value.oneCell']) (by omega) (by unfold maxLen; omega) (by omega) (by have := ((Gr.refl w).drew.trans g5).size; simp; omega) (w5.heap.size + 1) (by simp) ?_; intro gg cap w9 hown hgrow hat hlt; have f9 := (hgrow.frozen_far ⟨b, 0, none⟩ (by simp; omega) (by simpa using Ne.symm hne2)); have c9 := (hgrow.cell_far ⟨b, 0, none⟩ (by simp; omega) (by simpa using Ne.symm hne2))))
  all_goals
    refine bodyPost_end (results_none rfl _ _ _) rfl ?_
    exact ⟨rfl, say_end hb hbB hBz HO.out HH.out g (((Gr.refl w).drew.trans g5).alloc _) hgrow hown⟩
end Go.Proofs.YtjblplflgiibdaaGreatDoor
namespace Go.Proofs.YtjblplflgiibdaaGreatDoor
open Go.ChangeShapes Go.WideShapes Go.ChangeAt Go.RowKit Go.Maps
set_option linter.unusedVariables false
set_option linter.unusedSimpArgs false
theorem vals_lit (w : World) (W : List ByteArray) (T : TypeId) (h : W.length ≤ maxLen) : IsVals (w.alloc (.cells (W.map Value.string).toArray T)) (.slice (some ⟨w.heap.size, 0, none⟩) W.length W.length) (W.map Value.string) := by
  refine ⟨_, W.length, by rw [List.length_map], by rw [List.length_map]; exact h, .inr ⟨w.heap.size, 0, rfl, by simp, fun i x hi => ?_⟩⟩
  rw [World.cell?_alloc_mark]
  simpa using hi
theorem say_lit {b B : Nat} {L : List ByteArray} {w0 w' : World} (W : List ByteArray) (hb : w0.heap.size ≤ b) (g : Gr w0 w') (hS : SayS b B w' L) (hne : W ≠ []) (hs : (jnW W).size ≤ 1000000) (hl : W.length ≤ 1000) (hL : L.length ≤ 100000) :
    Calls Tryz.prog 30 #[.slice (some ⟨w'.heap.size, 0, none⟩) W.length W.length, .pointer (some ⟨b, 0, none⟩)] (w'.alloc (.cells (W.map Value.string).toArray 9)) fun e w'' => e = .returned (.tuple #[]) ∧ Gr w0 w'' ∧ SayS b B w'' (L ++ [jnW W ++ ⟨#[10]⟩]) ∧ Kept b (w'.alloc (.cells (W.map Value.string).toArray 9)) w'' :=
  say_any b B _ W L w0 _ hb (g.alloc _) (vals_lit w' W _ (by unfold maxLen; omega)) (fun a n c e => by cases e; exact Nat.le_refl _) hne hs hl hL (hS.gr ((Gr.refl _).alloc _))
theorem own_cap2 {B : Nat} {w : World} {e : TypeId} {sz n : Nat} {v : Value} {xs : List Value} (h : w.ownsRow B e sz v n xs) : CapOk v := by
  intro a m c e
  rcases h.2 with ⟨rfl, h0⟩ | ⟨g, cap, cur, rfl, _, _, hc, _⟩
  · cases e; omega
  · cases e; exact hc
theorem say_own {b B B' : Nat} {v : Value} {L : List ByteArray} {w0 w' : World} (W : List ByteArray) (hb : w0.heap.size ≤ b) (g : Gr w0 w') (hS : SayS b B w' L) (hO : OwnS B' w' v W) (hne : W ≠ []) (hs : (jnW W).size ≤ 1000000) (hl : W.length ≤ 1000) (hL : L.length ≤ 100000) :
    Calls Tryz.prog 30 #[v, .pointer (some ⟨b, 0, none⟩)] w' fun e w'' => e = .returned (.tuple #[]) ∧ Gr w0 w'' ∧ SayS b B w'' (L ++ [jnW W ++ ⟨#[10]⟩]) ∧ Kept b w' w'' :=
  say_any b B _ W L w0 _ hb g (hO.vals (by unfold maxLen; omega)) (own_cap2 hO) hne hs hl hL hS
def rowsN (P : Pln) (k : Nat) : List ByteArray := ((rowsT P).take k).map (· ++ ⟨#[10]⟩)
theorem rowsN_succ {P : Pln} {k : Nat} {x : ByteArray} (h : (rowsT P)[k]? = some x) : rowsN P (k + 1) = rowsN P k ++ [x ++ ⟨#[10]⟩] := by
  obtain ⟨hk, rfl⟩ := List.getElem?_eq_some_iff.1 h
  unfold rowsN
  rw [List.take_succ_eq_append_getElem hk, List.map_append]; rfl
theorem rowsN_len (P : Pln) (k : Nat) : (rowsN P k).length ≤ k := by
  unfold rowsN; simp; omega
theorem rowsT_0 (P : Pln) : (rowsT P)[0]? = some (jnW (wordsH P)) := rfl
theorem rowsT_e {P : Pln} {k : Nat} (h : k < P.es.length) : (rowsT P)[1 + k]? = some (jnW (wordsE P.es[k])) := by
  unfold rowsT
  rw [show 1 + k = k + 1 from by omega, List.getElem?_cons_succ, List.append_assoc, List.append_assoc, List.getElem?_append_left (by simpa using h)]
  simp [h]
theorem rowsT_j {P : Pln} {k : Nat} (h : k < P.js.length) : (rowsT P)[1 + P.es.length + k]? = some (jnW (wordsJ P P.js[k])) := by
  unfold rowsT
  rw [show 1 + P.es.length + k = P.es.length + k + 1 from by omega, List.getElem?_cons_succ, List.append_assoc, List.append_assoc, List.getElem?_append_right (by simp), List.getElem?_append_left (by simp <;> omega)]
  simp [h]
theorem rowsT_s {P : Pln} {k : Nat} (h : k < P.ss.length) : (rowsT P)[1 + P.es.length + P.js.length + k]? = some (jnW (wordsG P P.ss[k])) := by
  unfold rowsT
  rw [show 1 + P.es.length + P.js.length + k = P.es.length + P.js.length + k + 1 from by omega, List.getElem?_cons_succ, List.append_assoc, List.getElem?_append_right (by simp <;> omega), List.getElem?_append_left (by simp <;> omega)]
  simp only [List.length_append, List.length_map]
  rw [show P.es.length + P.js.length + k - (P.es.length + P.js.length) = k from by omega]
  simp [h]
theorem rowsT_l {P : Pln} {k : Nat} (h : k < P.ls.length) : (rowsT P)[1 + P.es.length + P.js.length + P.ss.length + k]? = some (jnW (wordsN P P.ls[k])) := by
  unfold rowsT
  rw [show 1 + P.es.length + P.js.length + P.ss.length + k = P.es.length + P.js.length + P.ss.length + k + 1 from by omega, List.getElem?_cons_succ, List.getElem?_append_right (by simp <;> omega)]
  simp only [List.length_append, List.length_map]
  rw [show P.es.length + P.js.length + P.ss.length + k - (P.es.length + P.js.length + P.ss.length) = k from by omega]
  simp [h]
theorem rowsN_all (P : Pln) : rowsN P (1 + P.es.length + P.js.length + P.ss.length + P.ls.length) = (rowsT P).map (· ++ ⟨#[10]⟩) := by
  unfold rowsN
  rw [List.take_of_length_le (by rw [rows_len]; omega)]
theorem join_rows (X : List ByteArray) : (⟨(Lib.join ((X.map (· ++ ⟨#[10]⟩)).map (·.data.toList)) []).toArray⟩ : ByteArray) = unl X := by
  have key : ∀ a b : ByteArray, a.data.toList = b.data.toList → a = b := fun a b h => ByteArray.ext (Array.toList_inj.1 h)
  refine key _ _ ?_
  rw [unl_data]
  show Lib.join _ [] = _
  induction X with
  | nil => rfl
  | cons x t ih =>
    cases t with
    | nil => simp [Lib.join, app_data]
    | cons y u =>
      have e : ∀ (p q : List UInt8) (r : List (List UInt8)), Lib.join (p :: q :: r) [] = p ++ Lib.join (q :: r) [] := fun p q r => by simp [Lib.join, List.intercalate, List.intersperse]
      simp only [List.map_cons] at ih ⊢
      rw [e, ih]
      simp [app_data]
theorem join_all {b B : Nat} {w : World} {X : List ByteArray} {v : Value} (hO : OwnS B w v (X.map (· ++ ⟨#[10]⟩))) (hne : X ≠ []) (hs : (unl X).size ≤ 1000000) (hl : X.length ≤ 1000) :
    Calls Tryz.prog 31 #[v, .string ⟨#[]⟩] w fun e w' => e = .returned (.string (unl X)) ∧ Gr w w' := by
  have hcp : ∀ a n c, v = .slice a n c → n ≤ c := own_cap2 hO
  obtain ⟨a', c', e', -, hx⟩ := hO.vals (by unfold maxLen; simp; omega)
  rw [List.length_map, List.length_map] at e'
  subst e'
  rcases hx with hx | ⟨bb, o, rfl, hbb, hcell⟩
  · exact absurd (List.length_eq_zero_iff.1 (by simpa using hx)) hne
  have hj := join_rows X
  have := Tryz.strings_Join bb o c' (X.map (· ++ ⟨#[10]⟩)) ⟨#[]⟩ w (fun j x hj => hcell j _ (by rw [List.getElem?_map, hj]; rfl)) hbb (by
    have := List.length_pos_iff.2 hne; simp; omega) (by have := hcp _ _ _ rfl; simpa using this) (by
      have h1 : (Lib.join ((X.map (· ++ ⟨#[10]⟩)).map (·.data.toList)) []).length = (unl X).size := by rw [← hj]; rfl
      show (Lib.join _ []).length ≤ _
      rw [h1]; omega)
  rw [← hj]
  rw [List.length_map] at this
  exact this
end Go.Proofs.YtjblplflgiibdaaGreatDoor
namespace Go.Proofs.YtjblplflgiibdaaGreatDoor
open Go.ChangeShapes Go.WideShapes Go.ChangeAt Go.RowKit Go.Maps
set_option linter.unusedVariables false
set_option linter.unusedSimpArgs false
theorem bt_46 {s : ByteArray} {k : Nat} (hk : k < s.size) : bt s k = 46 ↔ s.data.toList[k]? = some 46 := by
  have hl : s.data.toList.length = s.size := by simp
  rw [List.getElem?_eq_getElem (by omega)]
  unfold bt
  rw [List.getD_eq_getElem?_getD, List.getElem?_eq_getElem (by omega)]
  simp only [Option.getD_some, Option.some.injEq]
  constructor
  · intro e
    apply UInt8.toNat_inj.1
    show _ = 46
    omega
  · intro e; rw [e]; rfl
theorem port_none {s : ByteArray} (h : Lib.indexByte s.data.toList 46 = -1) : portB s = false := by
  cases hp : portB s with
  | false => rfl
  | true =>
    unfold portB at hp
    simp only [Bool.and_eq_true, decide_eq_true_eq] at hp
    exact absurd ((bt_46 (by omega)).1 hp.1.1.2) (Lib.indexByte_none h _)
theorem nm_nodot {n : ByteArray} (h : nmB n = true) {k : Nat} (hk : k < n.size) : bt n k ≠ 46 := by
  unfold nmB at h
  simp only [Bool.and_eq_true, List.all_eq_true] at h
  have := (okc_iff k (bt n k)).1 (h.2 k (List.mem_range.2 hk))
  omega
theorem port_at {s : ByteArray} {i : Nat} (h : Lib.indexByte s.data.toList 46 = i) (hi : i < s.size) :
    portB s = (nmB (s.extract 0 i) && numB (s.extract (i + 1) s.size) 1) ∧ (portB s = true → portNm s = s.extract 0 i ∧ portEn s = numN (s.extract (i + 1) s.size) 1) := by
  obtain ⟨h1, h2⟩ := Lib.indexByte_some h
  have hd : bt s i = 46 := (bt_46 hi).2 h1
  have hz : (s.extract (i + 1) s.size).size = s.size - (i + 1) := by rw [ByteArray.size_extract]; omega
  have key : portB s = true → i = s.size - 2 ∧ 3 ≤ s.size := fun hp => by
    unfold portB at hp
    simp only [Bool.and_eq_true, decide_eq_true_eq] at hp
    obtain ⟨⟨⟨a, b⟩, c⟩, d⟩ := hp
    refine ⟨?_, a⟩
    rcases Nat.lt_trichotomy i (s.size - 2) with hlt | he | hgt
    · refine absurd ?_ (nm_nodot d (k := i) (by unfold portNm; rw [ByteArray.size_extract]; omega))
      unfold portNm
      rw [bt_extract _ _ _ _ (by omega) (by omega), Nat.zero_add]; exact hd
    · exact he
    · exact absurd ((bt_46 (by omega)).1 b) (h2 _ hgt)
  have dig : i = s.size - 2 → 3 ≤ s.size → (numB (s.extract (i + 1) s.size) 1 = dgB (bt s (s.size - 1))) ∧ (dgB (bt s (s.size - 1)) = true → numN (s.extract (i + 1) s.size) 1 = bt s (s.size - 1) - 48) := fun he h3 => by
    have h0 : bt (s.extract (i + 1) s.size) 0 = bt s (s.size - 1) := by
      rw [bt_extract _ _ _ _ (by omega) (by omega)]; congr 1; omega
    have hs1 : (s.extract (i + 1) s.size).size = 1 := by omega
    have hb : numB (s.extract (i + 1) s.size) 1 = dgB (bt s (s.size - 1)) := by
      rw [Bool.eq_iff_iff, numB_iff, dgB_iff, hs1]
      constructor
      · rintro ⟨-, -, -, -, -, hh⟩
        rw [← h0]; exact hh 0 (by omega)
      · intro hh
        refine ⟨by omega, by omega, by omega, by omega, by omega, fun j hj => ?_⟩
        obtain rfl : j = 0 := by omega
        rw [h0]; exact hh
    refine ⟨hb, fun hg => ?_⟩
    unfold numN
    rw [hb, if_pos hg, hs1]
    unfold nvB nvB
    rw [h0]; omega
  constructor
  · rw [Bool.eq_iff_iff]
    constructor
    · intro hp
      obtain ⟨he, h3⟩ := key hp
      have hp' := hp
      unfold portB at hp'
      simp only [Bool.and_eq_true, decide_eq_true_eq] at hp'
      rw [(dig he h3).1, hp'.1.2, Bool.and_true, he]
      exact hp'.2
    · intro hp
      rw [Bool.and_eq_true] at hp
      obtain ⟨a, b⟩ := hp
      have b' := (numB_iff _ _).1 b
      have n1 : 1 ≤ (s.extract 0 i).size := by unfold nmB at a; simp only [Bool.and_eq_true, decide_eq_true_eq] at a; exact a.1.1
      rw [ByteArray.size_extract] at n1
      have he : i = s.size - 2 := by omega
      have h3 : 3 ≤ s.size := by omega
      rw [(dig he h3).1] at b
      unfold portB portNm
      rw [← he, hd, b, a, decide_eq_true h3]; rfl
  · intro hp
    obtain ⟨he, h3⟩ := key hp
    have hp' := hp
    unfold portB at hp'
    simp only [Bool.and_eq_true, decide_eq_true_eq] at hp'
    refine ⟨by unfold portNm; rw [he], ?_⟩
    rw [(dig he h3).2 hp'.1.2]; rfl
end Go.Proofs.YtjblplflgiibdaaGreatDoor
namespace Go.Proofs.YtjblplflgiibdaaGreatDoor
open Go.ChangeShapes Go.WideShapes Go.ChangeAt Go.RowKit Go.Maps
set_option linter.unusedVariables false
set_option linter.unusedSimpArgs false
def portO (P : Pln) (s : ByteArray) : Option Prt := if portB s = true then portP P s else none
structure SzP (n : Nat) (P : Pln) : Prop where
  ok : PlnOk P
  es : P.es.length ≤ n
  js : P.js.length ≤ n
  ss : P.ss.length ≤ n
  ls : P.ls.length ≤ n
  fl : (P.ls.flatMap (·.es)).length ≤ n
def SzO (n : Nat) (S : Option Pln) : Prop := ∀ P, S = some P → SzP n P
theorem SzO.none (n : Nat) : SzO n none := fun P h => by cases h
theorem numN5_bd (s : ByteArray) : 0 ≤ numN s 5 ∧ numN s 5 ≤ 99999 := by
  unfold numN
  by_cases h : numB s 5 = true
  · rw [if_pos h]
    have h' := (numB_iff s 5).1 h
    obtain ⟨-, -, -, h4, -, h6⟩ := h'
    have hb := nvB_bd s s.size h6
    refine ⟨hb.1, ?_⟩
    have hp : (10 : Int) ^ s.size ≤ 10 ^ 5 := by
      have : (10 : Nat) ^ s.size ≤ 10 ^ 5 := Nat.pow_le_pow_right (by omega) (by omega)
      exact_mod_cast this
    have : (10 : Int) ^ 5 = 100000 := by decide
    omega
  · rw [if_neg h]; omega
theorem num5_ok (s : ByteArray) : I64 (numN s 5) := by have := numN5_bd s; exact I64_of (by omega) (by omega)
theorem pln0_ok : PlnOk pln0 := ⟨fun e h => (by cases h), fun e h => (by cases h), fun e h => (by cases h), fun e h => (by cases h), by refine ⟨?_, ?_, ?_, ?_⟩ <;> exact I64_of (by decide) (by decide)⟩
theorem SzP.zero : SzP 0 pln0 := ⟨pln0_ok, Nat.le_refl _, Nat.le_refl _, Nat.le_refl _, Nat.le_refl _, Nat.le_refl _⟩
theorem kindW_bd (v : ByteArray) : 0 ≤ kindW v ∧ kindW v ≤ 4 := by unfold kindW; repeat' split <;> omega
theorem portP_ok {P : Pln} {s : ByteArray} {x : Prt} (h : portP P s = some x) (hm : P.es.length ≤ 1000000) : I64 x.e ∧ I64 x.x := by
  unfold portP at h
  split at h
  · cases h
  · cases h
    have h1 : -1 ≤ eleN P (portNm s) ∧ eleN P (portNm s) < P.es.length := fstN_bd _ _
    have h2 := bt_nonneg s (s.size - 1)
    have h3 := bt_le s (s.size - 1)
    refine ⟨I64_of (by dsimp only; omega) (by dsimp only; omega), I64_of ?_ ?_⟩ <;> (dsimp only; unfold portEn; omega)
theorem head_sz {P : Pln} {h : Int × Int × Int × Int × Bool} {w : List ByteArray} {n : Nat} (hh : headW w = some h) (hz : SzP n P) : SzP n (withH P h) := by
  unfold headW at hh
  split at hh
  · split at hh
    · cases hh
      exact ⟨⟨hz.ok.es, hz.ok.js, hz.ok.ss, hz.ok.ls, num5_ok _, num5_ok _, num5_ok _, num5_ok _⟩, hz.es, hz.js, hz.ss, hz.ls, hz.fl⟩
    · cases hh
  · cases hh
theorem SzP.elem {P : Pln} {n m : Nat} (hz : SzP n P) (hm : n < m) {nm : ByteArray} (h : nm.size ≤ maxLen) {k l : Int} (hk : I64 k) (hl : I64 l) : SzP m { P with es := P.es ++ [⟨nm, k, l⟩] } := by
  refine ⟨⟨fun e he => ?_, hz.ok.js, hz.ok.ss, hz.ok.ls, hz.ok.nums⟩, ?_, ?_, ?_, ?_, ?_⟩
  · rcases List.mem_append.1 he with he | he
    · exact hz.ok.es e he
    · obtain rfl := List.mem_singleton.1 he
      exact ⟨hk, hl, h⟩
  · have := hz.es; simp; omega
  · have := hz.js; show _ ≤ _; dsimp only; omega
  · have := hz.ss; show _ ≤ _; dsimp only; omega
  · have := hz.ls; show _ ≤ _; dsimp only; omega
  · have := hz.fl; show _ ≤ _; dsimp only; omega
theorem SzP.join {P : Pln} {n m : Nat} (hz : SzP n P) (hm : n < m) {a b : Prt} (ha : I64 a.e ∧ I64 a.x) (hb : I64 b.e ∧ I64 b.x) : SzP m { P with js := P.js ++ [⟨a, b⟩] } := by
  refine ⟨⟨hz.ok.es, fun e he => ?_, hz.ok.ss, hz.ok.ls, hz.ok.nums⟩, ?_, ?_, ?_, ?_, ?_⟩
  · rcases List.mem_append.1 he with he | he
    · exact hz.ok.js e he
    · obtain rfl := List.mem_singleton.1 he
      exact ⟨ha.1, ha.2, hb.1, hb.2⟩
  · have := hz.es; show _ ≤ _; dsimp only; omega
  · have := hz.js; simp; omega
  · have := hz.ss; show _ ≤ _; dsimp only; omega
  · have := hz.ls; show _ ≤ _; dsimp only; omega
  · have := hz.fl; show _ ≤ _; dsimp only; omega
theorem SzP.signal {P : Pln} {n m : Nat} (hz : SzP n P) (hm : n < m) {a : Prt} (ha : I64 a.e ∧ I64 a.x) {nm : ByteArray} (h : nm.size ≤ maxLen) {b : Bool} : SzP m { P with ss := P.ss ++ [⟨nm, a, b⟩] } := by
  refine ⟨⟨hz.ok.es, hz.ok.js, fun e he => ?_, hz.ok.ls, hz.ok.nums⟩, ?_, ?_, ?_, ?_, ?_⟩
  · rcases List.mem_append.1 he with he | he
    · exact hz.ok.ss e he
    · obtain rfl := List.mem_singleton.1 he
      exact ⟨ha.1, ha.2, h⟩
  · have := hz.es; show _ ≤ _; dsimp only; omega
  · have := hz.js; show _ ≤ _; dsimp only; omega
  · have := hz.ss; simp; omega
  · have := hz.ls; show _ ≤ _; dsimp only; omega
  · have := hz.fl; show _ ≤ _; dsimp only; omega
theorem SzP.line {P : Pln} {n m : Nat} (hz : SzP n P) {l : Ln} (hm : n + l.es.length < m) (h : l.n.size ≤ maxLen) (he : ∀ e ∈ l.es, I64 e) : SzP m { P with ls := P.ls ++ [l] } := by
  refine ⟨⟨hz.ok.es, hz.ok.js, hz.ok.ss, fun e he' => ?_, hz.ok.nums⟩, ?_, ?_, ?_, ?_, ?_⟩
  · rcases List.mem_append.1 he' with he' | he'
    · exact hz.ok.ls e he'
    · obtain rfl := List.mem_singleton.1 he'
      exact ⟨h, he⟩
  · have := hz.es; show _ ≤ _; dsimp only; omega
  · have := hz.js; show _ ≤ _; dsimp only; omega
  · have := hz.ss; show _ ≤ _; dsimp only; omega
  · have := hz.ls; simp; omega
  · have := hz.fl
    simp only [List.flatMap_append, List.length_append, List.flatMap_cons, List.flatMap_nil, List.append_nil]
    omega
theorem row_sz {P Q : Pln} {w : List ByteArray} {n m : Nat} (h : rowW P w = .inr Q) (hz : SzP n P) (hn : n ≤ 1000000) (hm : n + w.length ≤ m) (hs : ∀ x ∈ w, x.size ≤ maxLen) : SzP m Q := by
  cases w with
  | nil => cases h
  | cons v t =>
    simp only [List.length_cons] at hm
    unfold rowW at h
    dsimp only at h
    split at h
    · -- an element
      unfold elemW at h
      split at h
      · rename_i v' nm he
        injection he with e1 e2
        subst e1 e2
        split at h
        · cases h; exact hz.elem (by omega) (hs nm (by simp)) (I64_of (by decide) (by decide)) (I64_of (by decide) (by decide))
        · cases h
      · rename_i v' nm d he
        injection he with e1 e2
        subst e1 e2
        split at h
        · cases h
          have := kindW_bd v
          exact hz.elem (by omega) (hs nm (by simp)) (I64_of (by omega) (by omega)) (num5_ok _)
        · cases h
      · cases h
    split at h
    · unfold joinW at h
      split at h
      · split at h
        · split at h
          · rename_i x y hx hy
            cases h
            exact hz.join (by omega) (portP_ok hx (by have := hz.es; omega)) (portP_ok hy (by have := hz.es; omega))
          · cases h
        · cases h
      · cases h
    split at h
    · have s3 : ∀ (nm p : ByteArray) (b : Bool), sig3 P nm p b = .inr Q → nm.size ≤ maxLen → SzP m Q := fun nm p b h hn' => by
        unfold sig3 at h
        split at h
        · split at h
          · rename_i x hx
            cases h
            exact hz.signal (by omega) (portP_ok hx (by have := hz.es; omega)) hn'
          · cases h
        · cases h
      unfold signalW at h
      split at h
      · rename_i v' nm p he
        injection he with e1 e2
        subst e1 e2
        exact s3 nm p false h (hs nm (by simp))
      · rename_i v' nm p q he
        injection he with e1 e2
        subst e1 e2
        split at h
        · exact s3 nm p true h (hs nm (by simp))
        · cases h
      · cases h
    split at h
    · unfold lineWd at h
      split at h
      · rename_i v' nm t' he
        injection he with e1 e2
        subst e1 e2
        split at h
        · cases h
        split at h
        · cases h
        · cases h
          simp only [List.length_cons] at hm
          refine hz.line (by simp; omega) (hs nm (by simp)) fun e he => ?_
          obtain ⟨s, -, rfl⟩ := List.mem_map.1 he
          have h1 : -1 ≤ eleN P s ∧ eleN P s < P.es.length := fstN_bd _ _
          have := hz.es
          exact I64_of (by omega) (by omega)
      · cases h
    · cases h
theorem SzP.mono {P : Pln} {n m : Nat} (h : SzP n P) (hm : n ≤ m) : SzP m P := ⟨h.ok, Nat.le_trans h.es hm, Nat.le_trans h.js hm, Nat.le_trans h.ss hm, Nat.le_trans h.ls hm, Nat.le_trans h.fl hm⟩
theorem takeT_sz {S S' : Option Pln} {x : ByteArray} {n : Nat} (h : takeT S x = .inr S') (hz : SzO n S) (hn : n ≤ 1000000) (hs : x.size ≤ 1048576) : SzO (n + x.size + 1) S' := by
  unfold takeT at h
  split at h
  · cases h; exact fun P hP => (hz P hP).mono (by omega)
  · cases hw : wdB x with
    | none => rw [hw] at h; cases h
    | some w =>
      rw [hw] at h
      dsimp only at h
      obtain ⟨-, w1, w2⟩ := wdS_ne hw
      have w3 : ∀ y ∈ w, y.size ≤ maxLen := fun y hy => by have := w2 y hy; unfold maxLen; omega
      unfold takeW at h
      cases S with
      | none =>
        dsimp only at h
        cases hh : headW w with
        | none => rw [hh] at h; cases h
        | some q =>
          rw [hh] at h
          cases h
          intro P hP
          cases hP
          exact (head_sz hh SzP.zero).mono (by omega)
      | some P =>
        dsimp only at h
        cases hr : rowW P w with
        | inl e => rw [hr] at h; cases h
        | inr Q =>
          rw [hr] at h
          cases h
          intro P' hP
          cases hP
          exact row_sz hr (hz P rfl) hn (by omega) w3
theorem elem_err {P : Pln} {e : Int} : ∀ {w : List ByteArray}, elemW P w = .inl e → e = 2
  | [], h => by cases h; rfl
  | [_], h => by cases h; rfl
  | [v, n], h => by
    have h : (if kindW v = 4 ∧ nmB n = true then .inr { P with es := P.es ++ [⟨n, 4, 0⟩] } else .inl 2 : Int ⊕ Pln) = .inl e := h
    split at h <;> cases h
    rfl
  | [v, n, d], h => by
    have h : (if kindW v ≠ 4 ∧ nmB n = true ∧ numB d 5 = true then .inr { P with es := P.es ++ [⟨n, kindW v, numN d 5⟩] } else .inl 2 : Int ⊕ Pln) = .inl e := h
    split at h <;> cases h
    rfl
  | _ :: _ :: _ :: _ :: _, h => by cases h; rfl
theorem join_err {P : Pln} {e : Int} : ∀ {w : List ByteArray}, joinW P w = .inl e → e = 2 ∨ e = 5
  | [], h => by cases h; exact .inl rfl
  | [_], h => by cases h; exact .inl rfl
  | [_, _], h => by cases h; exact .inl rfl
  | [v, a, b], h => by
    unfold joinW at h
    dsimp only at h
    split at h
    · split at h <;> cases h
      exact .inr rfl
    · cases h; exact .inl rfl
  | _ :: _ :: _ :: _ :: _, h => by cases h; exact .inl rfl
theorem sig3_err {P : Pln} {n p : ByteArray} {b : Bool} {e : Int} (h : sig3 P n p b = .inl e) : e = 2 ∨ e = 5 := by
  unfold sig3 at h
  split at h
  · split at h <;> cases h
    exact .inr rfl
  · cases h; exact .inl rfl
theorem signal_err {P : Pln} {e : Int} : ∀ {w : List ByteArray}, signalW P w = .inl e → e = 2 ∨ e = 5
  | [], h => by cases h; exact .inl rfl
  | [_], h => by cases h; exact .inl rfl
  | [_, _], h => by cases h; exact .inl rfl
  | [v, n, p], h => sig3_err h
  | [v, n, p, q], h => by
    have h : (if q = bAuto then sig3 P n p true else .inl 2 : Int ⊕ Pln) = .inl e := h
    split at h
    · exact sig3_err h
    · cases h; exact .inl rfl
  | _ :: _ :: _ :: _ :: _ :: _, h => by cases h; exact .inl rfl
theorem line_err {P : Pln} {e : Int} : ∀ {w : List ByteArray}, lineWd P w = .inl e → e = 2 ∨ e = 5
  | [], h => by cases h; exact .inl rfl
  | [_], h => by cases h; exact .inl rfl
  | v :: n :: t, h => by
    unfold lineWd at h
    dsimp only at h
    split at h
    · cases h; exact .inl rfl
    split at h
    · cases h; exact .inr rfl
    · cases h
theorem row_err {P : Pln} {w : List ByteArray} {e : Int} (h : rowW P w = .inl e) : e = 2 ∨ e = 5 := by
  cases w with
  | nil => cases h; exact .inl rfl
  | cons v t =>
    unfold rowW at h
    dsimp only at h
    split at h
    · exact .inl (elem_err h)
    split at h
    · exact join_err h
    split at h
    · exact signal_err h
    split at h
    · exact line_err h
    · cases h; exact .inl rfl
theorem takeT_err {S : Option Pln} {x : ByteArray} {e : Int} (h : takeT S x = .inl e) : e ≠ 0 := by
  unfold takeT at h
  split at h
  · cases h
  · cases hw : wdB x with
    | none => rw [hw] at h; cases h; decide
    | some w =>
      rw [hw] at h
      dsimp only at h
      unfold takeW at h
      cases S with
      | none =>
        dsimp only at h
        cases hh : headW w with
        | none => rw [hh] at h; cases h; decide
        | some q => rw [hh] at h; cases h
      | some P =>
        dsimp only at h
        cases hr : rowW P w with
        | inl e' =>
          rw [hr] at h
          cases h
          have := row_err hr
          omega
        | inr Q => rw [hr] at h; cases h
theorem unl_take {X : List ByteArray} {k : Nat} (hk : k < X.length) : (unl (X.take (k + 1))).size = (unl (X.take k)).size + X[k].size + 1 := by
  rw [List.take_succ_eq_append_getElem hk, unl_join]
  have h1 : (⟨#[10]⟩ : ByteArray).size = 1 := rfl
  have h2 : (⟨#[]⟩ : ByteArray).size = 0 := rfl
  unfold unl unl
  simp only [size_app, h1, h2]
  omega
theorem unl_take_le (X : List ByteArray) (k : Nat) : (unl (X.take k)).size ≤ (unl X).size := by
  have := congrArg ByteArray.size (unl_join (X.take k) (X.drop k))
  rw [List.take_append_drop, size_app] at this
  omega
theorem unl_lnB_size (s : ByteArray) : (unl (lnB s)).size ≤ s.size + 1 := by
  have h1 : (⟨#[10]⟩ : ByteArray).size = 1 := rfl
  rcases unl_lnB s with e | e
  · rw [e]; omega
  · rw [e, size_app, h1]; exact Nat.le_refl _
end Go.Proofs.YtjblplflgiibdaaGreatDoor
namespace Go.Proofs.YtjblplflgiibdaaGreatDoor
open Go.ChangeShapes Go.WideShapes Go.ChangeAt Go.RowKit Go.Maps
set_option linter.unusedVariables false
set_option linter.unusedSimpArgs false
def Sg.val (s : Sg) : Value := .agg #[.string s.n, .int .i64 s.at_.e, .int .i64 s.at_.x, .bool s.auto]
def Ele.val (e : Ele) : Value := .agg #[.string e.n, .int .i64 e.k, .int .i64 e.l]
theorem ele1_any (s : Ele) (n : ByteArray) (B : Nat) (w : World) (hb : B < w.heap.size) (hc : w.cell? ⟨B, 0, none⟩ = some (.string n)) :
    Calls Tryz.prog 73 #[s.val, .pointer (some ⟨B, 0, none⟩)] w fun e w' => e = .returned (.bool (decide (s.n = n))) ∧ Gr w w' := by
  obtain ⟨nm, ek, el⟩ := s
  unfold Ele.val
  dsimp only
  go_enter Tryz.func73, Tryz.ntmps73
  go_wp2_with fail
  go_ret
  exact ⟨ret_bool (str_dec _ _), (Gr.refl _).alloc _⟩
set_option maxHeartbeats 400000 in
theorem eleidx_any (L : List Ele) (p : Ele → Bool) (v cap : Value) (w : World) (hL : IsEles w v L)
    (hc : ∀ (w' : World), Gr w w' → ∀ (i : Nat) (hi : i < L.length), Calls Tryz.prog 73 #[L[i].val, cap] w' fun e w'' => e = .returned (.bool (p L[i])) ∧ Gr w' w'') :
    Calls Tryz.prog 72 #[v, .func (.func 73) #[] #[cap]] w fun e w' => e = .returned (.int .i64 (fstN p L)) ∧ Gr w w' := by
  have HL := Lib.hid hL
  obtain ⟨a, c, rfl, hm, -⟩ := hL
  unfold maxLen at hm
  have HC := Lib.hid hc
  clear hc
  go_enter Tryz.func72, Tryz.ntmps72
  go_wp2_with fail
  go_loopw [5, 8] (fun _ x wr => ∃ k : Nat, x = .int .i64 k ∧ k ≤ L.length ∧ Gr w wr ∧ Hid (∀ i (hi : i < L.length), i < k → p L[i] = false)) (fun _ x _ => L.length - (intOf x).toNat)
  case atStart => exact ⟨0, rfl, Nat.zero_le _, Gr.refl _, fun i _ h => by omega⟩
  case round =>
    obtain ⟨k, rfl, hk, g, HA⟩ := hrel
    by_cases hlt : k < L.length
    · have hk1 : (k : Int) < (L.length : Int) := by omega
      obtain ⟨bb, o, hs, z, y0, y1, y2⟩ := (IsEles.gr HL.out g).at k hlt
      subst hs
      have HP := Lib.hid (fun w' (h : Gr w w') => HC.out w' h k hlt)
      have HY : Hid (p L[k] = true → fstN p L = k) := fun h => fstN_go p hlt h fun i hi hik => HA.out i hi hik
      have HN : Hid (p L[k] = false → ∀ i (hi : i < L.length), i < k + 1 → p L[i] = false) := fun h i hi hik => by
        by_cases e : i = k
        · subst e; exact h
        · exact HA.out i hi (by omega)
      clear HA
      generalize p L[k] = q at HP HY HN
      generalize L[k] = s at y0 y1 y2 HP
      obtain ⟨nm, ek, el⟩ := s
      unfold Ele.val at HP
      dsimp only at y0 y1 y2 HP
      skip
      cases q
      · have HN2 := Lib.hid (HN.out rfl)
        clear HY HN
        go_wp2_with (first | (go_at_call 73; (with_reducible refine (HP.out _ g).mono ?_); rintro e w2 ⟨rfl, g2⟩) | fail)
        go_roundw
        case rel => exact ⟨k + 1, by go_num, hlt, g.trans g2, HN2.out⟩
        case measure => simp [intOf]; omega
      · have HY2 := Lib.hid (HY.out rfl)
        clear HY HN
        go_wp2_with (first | (go_at_call 73; (with_reducible refine (HP.out _ g).mono ?_); rintro e w2 ⟨rfl, g2⟩) | fail)
        go_ret
        exact ⟨ret_int HY2.out.symm, g.trans g2⟩
    · have hk1 : ¬ (k : Int) < (L.length : Int) := by omega
      have HR := Lib.hid (fstN_no p fun i hi => HA.out i hi (by omega))
      go_wp2_with fail
      go_ret
      exact ⟨ret_int HR.out.symm, g⟩
set_option maxHeartbeats 400000 in
theorem ele_any (v : Value) (P : Pln) (n : ByteArray) (w : World) (hP : IsPln w v P) :
    Calls Tryz.prog 37 #[v, .string n] w fun e w' => e = .returned (.int .i64 (eleN P n)) ∧ Gr w w' := by
  obtain ⟨a1, c1, a2, c2, a3, c3, a4, c4, rfl, h1, h2, h3, h4⟩ := hP
  have g1 : Gr w (w.alloc (.cells #[.slice a1 P.es.length c1, .slice a2 P.js.length c2, .slice a3 P.ss.length c3, .slice a4 P.ls.length c4, .int .i64 P.top, .int .i64 P.brake, .int .i64 P.margin, .int .i64 P.throw, .bool P.hard] 28)) := (Gr.refl _).alloc _
  have g0 : Gr w ((w.alloc (.cells #[.slice a1 P.es.length c1, .slice a2 P.js.length c2, .slice a3 P.ss.length c3, .slice a4 P.ls.length c4, .int .i64 P.top, .int .i64 P.brake, .int .i64 P.margin, .int .i64 P.throw, .bool P.hard] 28)).alloc (.cells #[.string n] 9)) := g1.alloc _
  have hz0 : (w.alloc (.cells #[.slice a1 P.es.length c1, .slice a2 P.js.length c2, .slice a3 P.ss.length c3, .slice a4 P.ls.length c4, .int .i64 P.top, .int .i64 P.brake, .int .i64 P.margin, .int .i64 P.throw, .bool P.hard] 28)).heap.size = w.heap.size + 1 := by simp
  have HI := Lib.hid (eleidx_any P.es (fun s => decide (s.n = n)) _ (.pointer (some ⟨w.heap.size + 1, 0, none⟩)) _ (IsEles.gr h1 g0) (fun w' g i hi => by
    have hz : w.heap.size + 1 < ((w.alloc (.cells #[.slice a1 P.es.length c1, .slice a2 P.js.length c2, .slice a3 P.ss.length c3, .slice a4 P.ls.length c4, .int .i64 P.top, .int .i64 P.brake, .int .i64 P.margin, .int .i64 P.throw, .bool P.hard] 28)).alloc (.cells #[.string n] 9)).heap.size := by simp
    exact ele1_any P.es[i] n (w.heap.size + 1) w' (Nat.lt_of_lt_of_le hz g.size) ((g.cell _ _ hz).trans (by rw [← hz0, World.cell?_alloc_mark]; rfl))))
  have HD : Hid (fstN (fun s => decide (s.n = n)) P.es = eleN P n) := rfl
  generalize eleN P n = R at HD ⊢
  rw [HD.out] at HI
  unfold plnV
  clear h1 h2 h3 h4 HD
  go_enter Tryz.func37, Tryz.ntmps37
  go_wp2_with (first | (go_at_call 72; (with_reducible refine (HI.out).mono ?_); rintro e w2 ⟨rfl, g2⟩) | fail)
  go_ret
  exact ⟨rfl, g0.trans g2⟩
end Go.Proofs.YtjblplflgiibdaaGreatDoor
namespace Go.Proofs.YtjblplflgiibdaaGreatDoor
open Go.ChangeShapes Go.WideShapes Go.ChangeAt Go.RowKit Go.Maps
set_option linter.unusedVariables false
set_option linter.unusedSimpArgs false
theorem Tryz.infoEl : (Tryz.prog.info? 42).map (fun i => (i.zero, i.size, i.bytes)) = some (some (.agg #[.string ByteArray.empty, .int .i64 0, .int .i64 0]), 3, 32) := by kernel_rfl
theorem Tryz.infoJn : (Tryz.prog.info? 63).map (fun i => (i.zero, i.size, i.bytes)) = some (some (.agg #[.int .i64 0, .int .i64 0, .int .i64 0, .int .i64 0]), 4, 32) := by kernel_rfl
theorem Tryz.infoSg : (Tryz.prog.info? 65).map (fun i => (i.zero, i.size, i.bytes)) = some (some (.agg #[.string ByteArray.empty, .int .i64 0, .int .i64 0, .bool false]), 4, 40) := by kernel_rfl
theorem Tryz.infoLn : (Tryz.prog.info? 68).map (fun i => (i.zero, i.size, i.bytes)) = some (some (.agg #[.string ByteArray.empty, .slice none 0 0]), 2, 40) := by kernel_rfl
def Ele.cs (e : Ele) : List Value := [.string e.n, .int .i64 e.k, .int .i64 e.l]
def Jn.cs (q : Jn) : List Value := [.int .i64 q.a.e, .int .i64 q.a.x, .int .i64 q.b.e, .int .i64 q.b.x]
def Sg.cs (s : Sg) : List Value := [.string s.n, .int .i64 s.at_.e, .int .i64 s.at_.x, .bool s.auto]
def Ln.cs (l : Ln) (u : Value) : List Value := [.string l.n, u]
def lnCs (A : List (Ln × Value)) : List Value := A.flatMap fun x => x.1.cs x.2
def OwnEl (B : Nat) (w : World) (v : Value) (L : List Ele) : Prop := w.ownsRow B 42 3 v L.length (L.flatMap Ele.cs)
def OwnJn (B : Nat) (w : World) (v : Value) (L : List Jn) : Prop := w.ownsRow B 63 4 v L.length (L.flatMap Jn.cs)
def OwnSg (B : Nat) (w : World) (v : Value) (L : List Sg) : Prop := w.ownsRow B 65 4 v L.length (L.flatMap Sg.cs)
def OwnLn (B : Nat) (w : World) (v : Value) (A : List (Ln × Value)) : Prop := w.ownsRow B 68 2 v A.length (lnCs A)
theorem OwnEl.nil (B : Nat) (w : World) : OwnEl B w (.slice none 0 0) [] := ⟨rfl, .inl ⟨rfl, rfl⟩⟩
theorem OwnJn.nil (B : Nat) (w : World) : OwnJn B w (.slice none 0 0) [] := ⟨rfl, .inl ⟨rfl, rfl⟩⟩
theorem OwnSg.nil (B : Nat) (w : World) : OwnSg B w (.slice none 0 0) [] := ⟨rfl, .inl ⟨rfl, rfl⟩⟩
theorem OwnLn.nil (B : Nat) (w : World) : OwnLn B w (.slice none 0 0) [] := ⟨rfl, .inl ⟨rfl, rfl⟩⟩
theorem OwnEl.snoc {B : Nat} {w : World} {v : Value} {L : List Ele} {s : Ele} (h : w.ownsRow B 42 3 v (L.length + 1) (L.flatMap Ele.cs ++ s.cs)) : OwnEl B w v (L ++ [s]) := by unfold OwnEl; simpa using h
theorem OwnJn.snoc {B : Nat} {w : World} {v : Value} {L : List Jn} {s : Jn} (h : w.ownsRow B 63 4 v (L.length + 1) (L.flatMap Jn.cs ++ s.cs)) : OwnJn B w v (L ++ [s]) := by unfold OwnJn; simpa using h
theorem OwnSg.snoc {B : Nat} {w : World} {v : Value} {L : List Sg} {s : Sg} (h : w.ownsRow B 65 4 v (L.length + 1) (L.flatMap Sg.cs ++ s.cs)) : OwnSg B w v (L ++ [s]) := by unfold OwnSg; simpa using h
theorem OwnLn.snoc {B : Nat} {w : World} {v : Value} {A : List (Ln × Value)} {r : Ln} {u : Value} (h : w.ownsRow B 68 2 v (A.length + 1) (lnCs A ++ r.cs u)) : OwnLn B w v (A ++ [(r, u)]) := by unfold OwnLn lnCs at *; simpa using h
theorem ownP_diff {w : World} {B B' : Nat} {e e' : TypeId} {sz sz' n n' : Nat} {v v' : Value} {xs xs' : List Value} (h : w.ownsRow B e sz v n xs) (h' : w.ownsRow B' e' sz' v' n' xs') (hne : e' ≠ e) : v.ownBlock = none ∨ v.ownBlock ≠ v'.ownBlock := by
  rcases h'.2 with ⟨rfl, _⟩ | ⟨g, cap, cur, rfl, _, hh, _⟩
  · cases v.ownBlock with
    | none => exact .inl rfl
    | some k => exact .inr (by simp [Value.ownBlock])
  · exact .inr (fun e => own_ne h hh hne (by rw [e]; rfl))
theorem OwnEl.eles {B : Nat} {w : World} {v : Value} {L : List Ele} (h : OwnEl B w v L) (hl : L.length ≤ maxLen) : IsEles w v L := row_of_own h hl fun i j hi hj => by
  rw [flat_get Ele.cs 3 (fun _ => rfl) L i j hi hj, getD_at _ _ hi]
  match j, hj with
  | 0, _ => rfl
  | 1, _ => rfl
  | 2, _ => rfl
theorem OwnJn.jns {B : Nat} {w : World} {v : Value} {L : List Jn} (h : OwnJn B w v L) (hl : L.length ≤ maxLen) : IsJns w v L := row_of_own h hl fun i j hi hj => by
  rw [flat_get Jn.cs 4 (fun _ => rfl) L i j hi hj, getD_at _ _ hi]
  match j, hj with
  | 0, _ => rfl
  | 1, _ => rfl
  | 2, _ => rfl
  | 3, _ => rfl
theorem OwnSg.sgs {B : Nat} {w : World} {v : Value} {L : List Sg} (h : OwnSg B w v L) (hl : L.length ≤ maxLen) : IsSgs w v L := row_of_own h hl fun i j hi hj => by
  rw [flat_get Sg.cs 4 (fun _ => rfl) L i j hi hj, getD_at _ _ hi]
  match j, hj with
  | 0, _ => rfl
  | 1, _ => rfl
  | 2, _ => rfl
  | 3, _ => rfl
def DrS (b B : Nat) (w : World) (P : Pln) (e j s l : Value) : Prop :=
  b < B ∧ B ≤ w.heap.size ∧ OwnEl B w e P.es ∧ OwnJn B w j P.js ∧ OwnSg B w s P.ss ∧ ∃ A, OwnLn B w l A ∧ (∀ x ∈ A, OwnI B w x.2 x.1.es ∧ x.1.es.length ≤ maxLen) ∧ A.map Prod.fst = P.ls
def Bp (T : TypeId) (b : Nat) (w : World) (P : Pln) (e j s l : Value) (m : Option Bool) : Prop :=
  (∃ cs, w.heap[b]? = some (.cells cs T) ∧ cs.size ≤ 10) ∧ PBox w b P e j s l ∧ ∀ x, m = some x → w.cell? ⟨b, 9, none⟩ = some (.bool x)
theorem Bp.block {T : TypeId} {b : Nat} {w w' : World} {P : Pln} {e j s l : Value} {m : Option Bool} (h : Bp T b w P e j s l m) (hb : w'.heap[b]? = w.heap[b]?) (hz : w.heap.size ≤ w'.heap.size) : Bp T b w' P e j s l m := by
  obtain ⟨⟨cs, hh, hcs⟩, ⟨h0, c0, c1, c2, c3, c4, c5, c6, c7, c8⟩, hm⟩ := h
  have k : ∀ o, w'.cell? ⟨b, o, none⟩ = w.cell? ⟨b, o, none⟩ := fun o => World.cell?_of_block (a := ⟨b, o, none⟩) hb
  exact ⟨⟨cs, hb.trans hh, hcs⟩, ⟨Nat.lt_of_lt_of_le h0 hz, (k 0).trans c0, (k 1).trans c1, (k 2).trans c2, (k 3).trans c3, (k 4).trans c4, (k 5).trans c5, (k 6).trans c6, (k 7).trans c7, (k 8).trans c8⟩, fun x hx => (k 9).trans (hm x hx)⟩
theorem Bp.gr {T : TypeId} {b : Nat} {w w' : World} {P : Pln} {e j s l : Value} {m : Option Bool} (h : Bp T b w P e j s l m) (g : Gr w w') : Bp T b w' P e j s l m := h.block (g.block b h.2.1.1) g.size
theorem Bp.lt {T : TypeId} {b : Nat} {w : World} {P : Pln} {e j s l : Value} {m : Option Bool} (h : Bp T b w P e j s l m) : b < w.heap.size := h.2.1.1
theorem Bp.frozen {T : TypeId} {b : Nat} {w : World} {P : Pln} {e j s l : Value} {m : Option Bool} (h : Bp T b w P e j s l m) (o : Nat) : w.frozen? ⟨b, o, none⟩ = false := by
  obtain ⟨⟨cs, hh, -⟩, -⟩ := h
  exact frozen_of_row w b o cs T hh
theorem heap_set_own {w : World} {b o : Nat} {u : Value} {T : TypeId} (h : ∃ cs, w.heap[b]? = some (.cells cs T) ∧ cs.size ≤ 10) : ∃ cs, (w.setCell ⟨b, o, none⟩ u).heap[b]? = some (.cells cs T) ∧ cs.size ≤ 10 := by
  obtain ⟨cs, hh, hc⟩ := h
  exact ⟨_, heap_setCell_same w b o cs T u hh, by simpa using hc⟩
theorem DrS.gr {b B : Nat} {w w' : World} {P : Pln} {e j s l : Value} (h : DrS b B w P e j s l) (g : Gr w w') : DrS b B w' P e j s l := by
  obtain ⟨h0, hz, h1, h2, h3, A, h4, h5, h6⟩ := h
  exact ⟨h0, Nat.le_trans hz g.size, own_gr h1 g, own_gr h2 g, own_gr h3 g, A, own_gr h4 g, fun x hx => ⟨own_gr (h5 x hx).1 g, (h5 x hx).2⟩, h6⟩
theorem DrS.set {b B : Nat} {w : World} {P : Pln} {e j s l : Value} (h : DrS b B w P e j s l) (o : Nat) (u : Value) : DrS b B (w.setCell ⟨b, o, none⟩ u) P e j s l := by
  obtain ⟨h0, hz, h1, h2, h3, A, h4, h5, h6⟩ := h
  have q : ∀ {e : TypeId} {sz n : Nat} {v : Value} {xs : List Value}, w.ownsRow B e sz v n xs → (w.setCell ⟨b, o, none⟩ u).ownsRow B e sz v n xs := fun h => ownsRow_setCell_below h h0 u
  exact ⟨h0, by simpa using hz, q h1, q h2, q h3, A, q h4, fun x hx => ⟨q (h5 x hx).1, (h5 x hx).2⟩, h6⟩
theorem DrS.nil {b B : Nat} {w : World} (h : b < B) (hB : B ≤ w.heap.size) : DrS b B w pln0 (.slice none 0 0) (.slice none 0 0) (.slice none 0 0) (.slice none 0 0) :=
  ⟨h, hB, OwnEl.nil _ _, OwnJn.nil _ _, OwnSg.nil _ _, [], OwnLn.nil _ _, fun x hx => (by cases hx), rfl⟩
def RdP (T : TypeId) (b B : Nat) (w : World) (P : Pln) (m : Option Bool) : Prop := ∃ e j s l, Bp T b w P e j s l m ∧ DrS b B w P e j s l
theorem RdP.gr {T : TypeId} {b B : Nat} {w w' : World} {P : Pln} {m : Option Bool} (h : RdP T b B w P m) (g : Gr w w') : RdP T b B w' P m := by
  obtain ⟨e, j, s, l, h1, h2⟩ := h
  exact ⟨e, j, s, l, h1.gr g, h2.gr g⟩
theorem RdP.elem {T : TypeId} {b B : Nat} {w w3 : World} {P : Pln} {e j s l v' : Value} {m : Option Bool} {x : Ele} (hT : T ≠ 42) (h1 : Bp T b w P e j s l m) (h2 : DrS b B w P e j s l) (hg : w.grownBy w3 e.ownBlock)
    (hown : w3.ownsRow B 42 3 v' (P.es.length + 1) (P.es.flatMap Ele.cs ++ x.cs)) : RdP T b B (w3.setCell ⟨b, 0, none⟩ v') { P with es := P.es ++ [x] } m := by
  obtain ⟨h0, hz, k1, k2, k3, A, k4, k5, k6⟩ := h2
  obtain ⟨cs, hh, -⟩ := h1.1
  have hb := hg.block b h1.lt (own_ne k1 hh hT)
  have h1' := h1.block hb hg.size
  have d : DrS b B w3 { P with es := P.es ++ [x] } v' j s l := ⟨h0, Nat.le_trans hz hg.size, OwnEl.snoc hown, k2.kept hg (ownP_diff k2 k1 (by decide)), k3.kept hg (ownP_diff k3 k1 (by decide)), A, k4.kept hg (ownP_diff k4 k1 (by decide)), fun y hy => ⟨(k5 y hy).1.kept hg (ownP_diff (k5 y hy).1 k1 (by decide)), (k5 y hy).2⟩, k6⟩
  obtain ⟨hc, ⟨z, c0, c1, c2, c3, c4, c5, c6, c7, c8⟩, hm⟩ := h1'
  have q : ∀ o, o ≠ 0 → (w3.setCell ⟨b, 0, none⟩ v').cell? ⟨b, o, none⟩ = w3.cell? ⟨b, o, none⟩ := fun o ho => World.cell?_setCell_other _ _ _ _ (by intro e; injection e with _ e2; omega)
  exact ⟨v', j, s, l, ⟨heap_set_own hc, ⟨by simpa using z, World.cell?_setCell_same _ _ _ c0, (q 1 (by omega)).trans c1, (q 2 (by omega)).trans c2, (q 3 (by omega)).trans c3, (q 4 (by omega)).trans c4, (q 5 (by omega)).trans c5, (q 6 (by omega)).trans c6, (q 7 (by omega)).trans c7, (q 8 (by omega)).trans c8⟩, fun x hx => (q 9 (by omega)).trans (hm x hx)⟩, d.set _ _⟩
theorem RdP.join {T : TypeId} {b B : Nat} {w w3 : World} {P : Pln} {e j s l v' : Value} {m : Option Bool} {x : Jn} (hT : T ≠ 63) (h1 : Bp T b w P e j s l m) (h2 : DrS b B w P e j s l) (hg : w.grownBy w3 j.ownBlock)
    (hown : w3.ownsRow B 63 4 v' (P.js.length + 1) (P.js.flatMap Jn.cs ++ x.cs)) : RdP T b B (w3.setCell ⟨b, 1, none⟩ v') { P with js := P.js ++ [x] } m := by
  obtain ⟨h0, hz, k1, k2, k3, A, k4, k5, k6⟩ := h2
  obtain ⟨cs, hh, -⟩ := h1.1
  have hb := hg.block b h1.lt (own_ne k2 hh hT)
  have h1' := h1.block hb hg.size
  have d : DrS b B w3 { P with js := P.js ++ [x] } e v' s l := ⟨h0, Nat.le_trans hz hg.size, k1.kept hg (ownP_diff k1 k2 (by decide)), OwnJn.snoc hown, k3.kept hg (ownP_diff k3 k2 (by decide)), A, k4.kept hg (ownP_diff k4 k2 (by decide)), fun y hy => ⟨(k5 y hy).1.kept hg (ownP_diff (k5 y hy).1 k2 (by decide)), (k5 y hy).2⟩, k6⟩
  obtain ⟨hc, ⟨z, c0, c1, c2, c3, c4, c5, c6, c7, c8⟩, hm⟩ := h1'
  have q : ∀ o, o ≠ 1 → (w3.setCell ⟨b, 1, none⟩ v').cell? ⟨b, o, none⟩ = w3.cell? ⟨b, o, none⟩ := fun o ho => World.cell?_setCell_other _ _ _ _ (by intro e; injection e with _ e2; omega)
  exact ⟨e, v', s, l, ⟨heap_set_own hc, ⟨by simpa using z, (q 0 (by omega)).trans c0, World.cell?_setCell_same _ _ _ c1, (q 2 (by omega)).trans c2, (q 3 (by omega)).trans c3, (q 4 (by omega)).trans c4, (q 5 (by omega)).trans c5, (q 6 (by omega)).trans c6, (q 7 (by omega)).trans c7, (q 8 (by omega)).trans c8⟩, fun x hx => (q 9 (by omega)).trans (hm x hx)⟩, d.set _ _⟩
theorem RdP.signal {T : TypeId} {b B : Nat} {w w3 : World} {P : Pln} {e j s l v' : Value} {m : Option Bool} {x : Sg} (hT : T ≠ 65) (h1 : Bp T b w P e j s l m) (h2 : DrS b B w P e j s l) (hg : w.grownBy w3 s.ownBlock)
    (hown : w3.ownsRow B 65 4 v' (P.ss.length + 1) (P.ss.flatMap Sg.cs ++ x.cs)) : RdP T b B (w3.setCell ⟨b, 2, none⟩ v') { P with ss := P.ss ++ [x] } m := by
  obtain ⟨h0, hz, k1, k2, k3, A, k4, k5, k6⟩ := h2
  obtain ⟨cs, hh, -⟩ := h1.1
  have hb := hg.block b h1.lt (own_ne k3 hh hT)
  have h1' := h1.block hb hg.size
  have d : DrS b B w3 { P with ss := P.ss ++ [x] } e j v' l := ⟨h0, Nat.le_trans hz hg.size, k1.kept hg (ownP_diff k1 k3 (by decide)), k2.kept hg (ownP_diff k2 k3 (by decide)), OwnSg.snoc hown, A, k4.kept hg (ownP_diff k4 k3 (by decide)), fun y hy => ⟨(k5 y hy).1.kept hg (ownP_diff (k5 y hy).1 k3 (by decide)), (k5 y hy).2⟩, k6⟩
  obtain ⟨hc, ⟨z, c0, c1, c2, c3, c4, c5, c6, c7, c8⟩, hm⟩ := h1'
  have q : ∀ o, o ≠ 2 → (w3.setCell ⟨b, 2, none⟩ v').cell? ⟨b, o, none⟩ = w3.cell? ⟨b, o, none⟩ := fun o ho => World.cell?_setCell_other _ _ _ _ (by intro e; injection e with _ e2; omega)
  exact ⟨e, j, v', l, ⟨heap_set_own hc, ⟨by simpa using z, (q 0 (by omega)).trans c0, (q 1 (by omega)).trans c1, World.cell?_setCell_same _ _ _ c2, (q 3 (by omega)).trans c3, (q 4 (by omega)).trans c4, (q 5 (by omega)).trans c5, (q 6 (by omega)).trans c6, (q 7 (by omega)).trans c7, (q 8 (by omega)).trans c8⟩, fun x hx => (q 9 (by omega)).trans (hm x hx)⟩, d.set _ _⟩
theorem RdP.line {T : TypeId} {b B : Nat} {w w3 : World} {P : Pln} {e j s l v' u : Value} {m : Option Bool} {x : Ln} {A : List (Ln × Value)} (hT : T ≠ 68) (h1 : Bp T b w P e j s l m) (h0 : b < B) (hz : B ≤ w.heap.size) (k1 : OwnEl B w e P.es) (k2 : OwnJn B w j P.js) (k3 : OwnSg B w s P.ss) (k4 : OwnLn B w l A) (k5 : ∀ x ∈ A, OwnI B w x.2 x.1.es ∧ x.1.es.length ≤ maxLen) (k6 : A.map Prod.fst = P.ls)
    (k7 : OwnI B w u x.es) (k8 : x.es.length ≤ maxLen) (hg : w.grownBy w3 l.ownBlock) (hown : w3.ownsRow B 68 2 v' (A.length + 1) (lnCs A ++ x.cs u)) : RdP T b B (w3.setCell ⟨b, 3, none⟩ v') { P with ls := P.ls ++ [x] } m := by
  obtain ⟨cs, hh, -⟩ := h1.1
  have hb := hg.block b h1.lt (own_ne k4 hh hT)
  have h1' := h1.block hb hg.size
  have d : DrS b B w3 { P with ls := P.ls ++ [x] } e j s v' := ⟨h0, Nat.le_trans hz hg.size, k1.kept hg (ownP_diff k1 k4 (by decide)), k2.kept hg (ownP_diff k2 k4 (by decide)), k3.kept hg (ownP_diff k3 k4 (by decide)), A ++ [(x, u)], OwnLn.snoc hown, fun y hy => by
    rcases List.mem_append.1 hy with hy | hy
    · exact ⟨(k5 y hy).1.kept hg (ownP_diff (k5 y hy).1 k4 (by decide)), (k5 y hy).2⟩
    · obtain rfl := List.mem_singleton.1 hy
      exact ⟨k7.kept hg (ownP_diff k7 k4 (by decide)), k8⟩, by simp [k6]⟩
  obtain ⟨hc, ⟨z, c0, c1, c2, c3, c4, c5, c6, c7, c8⟩, hm⟩ := h1'
  have q : ∀ o, o ≠ 3 → (w3.setCell ⟨b, 3, none⟩ v').cell? ⟨b, o, none⟩ = w3.cell? ⟨b, o, none⟩ := fun o ho => World.cell?_setCell_other _ _ _ _ (by intro e; injection e with _ e2; omega)
  exact ⟨e, j, s, v', ⟨heap_set_own hc, ⟨by simpa using z, (q 0 (by omega)).trans c0, (q 1 (by omega)).trans c1, (q 2 (by omega)).trans c2, World.cell?_setCell_same _ _ _ c3, (q 4 (by omega)).trans c4, (q 5 (by omega)).trans c5, (q 6 (by omega)).trans c6, (q 7 (by omega)).trans c7, (q 8 (by omega)).trans c8⟩, fun x hx => (q 9 (by omega)).trans (hm x hx)⟩, d.set _ _⟩
theorem DrS.pln {b B : Nat} {w : World} {P : Pln} {e j s l : Value} (h : DrS b B w P e j s l) (n1 : P.es.length ≤ maxLen) (n2 : P.js.length ≤ maxLen) (n3 : P.ss.length ≤ maxLen) (n4 : P.ls.length ≤ maxLen) : IsPln w (plnV P e j s l) P := by
  obtain ⟨h0, hz, k1, k2, k3, A, k4, k5, k6⟩ := h
  have hl : A.length = P.ls.length := by rw [← k6]; simp
  have i1 := OwnEl.eles k1 n1
  have i2 := OwnJn.jns k2 n2
  have i3 := OwnSg.sgs k3 n3
  have gd : ∀ i (hi : i < A.length), P.ls.getD i default = (A[i]).1 := fun i hi => by
    rw [getD_at _ _ (by omega)]
    simp only [← k6, List.getElem_map]
  have gs : ∀ i (hi : i < A.length), (A.map Prod.snd).getD i (.slice none 0 0) = (A[i]).2 := fun i hi => by
    rw [List.getD_eq_getElem?_getD, List.getElem?_map, List.getElem?_eq_getElem hi]; rfl
  have i4 : IsLns w l P.ls := by
    refine ⟨fun i => (A.map Prod.snd).getD i (.slice none 0 0), ?_, fun i hi => ?_⟩
    · rw [← hl]
      refine row_of_own k4 (by omega) fun i j hi hj => ?_
      unfold lnCs
      rw [flat_get (fun x : Ln × Value => x.1.cs x.2) 2 (fun _ => rfl) A i j hi hj, gd i hi]
      dsimp only
      rw [gs i hi]
      match j, hj with
      | 0, _ => rfl
      | 1, _ => rfl
    · dsimp only
      rw [gd i (by omega), gs i (by omega)]
      exact OwnI.vals (k5 _ (List.getElem_mem _)).1 (k5 _ (List.getElem_mem _)).2
  obtain ⟨a1, c1, rfl, -⟩ := id i1
  obtain ⟨a2, c2, rfl, -⟩ := id i2
  obtain ⟨a3, c3, rfl, -⟩ := id i3
  have i4' := i4
  obtain ⟨S, ⟨a4, c4, rfl, -⟩, -⟩ := i4
  exact ⟨a1, c1, a2, c2, a3, c3, a4, c4, rfl, i1, i2, i3, i4'⟩
end Go.Proofs.YtjblplflgiibdaaGreatDoor
