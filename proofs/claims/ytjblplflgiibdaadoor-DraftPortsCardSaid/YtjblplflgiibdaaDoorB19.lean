/- DrJ: draft.Print: what its walk needs. No walk.
DrX: A port's text, cut at its first point. Plain.
DrY: Lines of a plan's text: sizes of what they tell; the errors are errors. Plain. -/
import Derived.Test.YtjblplflgiibdaaDoorRows
import Derived.Test.YtjblplflgiibdaaDoorB18
import Derived.Test.YtjblplflgiibdaaDoorB15
import Derived.Lib.IndexLaws
import Derived.Test.YtjblplflgiibdaaDoorB2
import Derived.Test.YtjblplflgiibdaaDoorB13
import Derived.Test.YtjblplflgiibdaaDoorB17
namespace Go.Proofs.YtjblplflgiibdaaDoor
open Go.ChangeShapes Go.WideShapes Go.ChangeAt Go.RowKit Go.Maps
set_option linter.unusedVariables false
set_option linter.unusedSimpArgs false
theorem vals_lit (w : World) (W : List ByteArray) (T : TypeId) (h : W.length ≤ maxLen) : IsVals (w.alloc (.cells (W.map Value.string).toArray T)) (.slice (some ⟨w.heap.size, 0, none⟩) W.length W.length) (W.map Value.string) := by
  refine ⟨_, W.length, by rw [List.length_map], by rw [List.length_map]; exact h, .inr ⟨w.heap.size, 0, rfl, by simp, fun i x hi => ?_⟩⟩
  rw [World.cell?_alloc_mark]
  simpa using hi
theorem say_lit {b B : Nat} {L : List ByteArray} {w0 w' : World} (W : List ByteArray) (hb : w0.heap.size ≤ b) (g : Gr w0 w') (hS : SayS b B w' L) (hne : W ≠ []) (hs : (jnW W).size ≤ 1000000) (hl : W.length ≤ 1000) (hL : L.length ≤ 100000) :
    Calls Tryd.prog 22 #[.slice (some ⟨w'.heap.size, 0, none⟩) W.length W.length, .pointer (some ⟨b, 0, none⟩)] (w'.alloc (.cells (W.map Value.string).toArray 9)) fun e w'' => e = .returned (.tuple #[]) ∧ Gr w0 w'' ∧ SayS b B w'' (L ++ [jnW W ++ ⟨#[10]⟩]) ∧ Kept b (w'.alloc (.cells (W.map Value.string).toArray 9)) w'' :=
  say_any b B _ W L w0 _ hb (g.alloc _) (vals_lit w' W _ (by unfold maxLen; omega)) (fun a n c e => by cases e; exact Nat.le_refl _) hne hs hl hL (hS.gr ((Gr.refl _).alloc _))
theorem own_cap2 {B : Nat} {w : World} {e : TypeId} {sz n : Nat} {v : Value} {xs : List Value} (h : w.ownsRow B e sz v n xs) : CapOk v := by
  intro a m c e
  rcases h.2 with ⟨rfl, h0⟩ | ⟨g, cap, cur, rfl, _, _, hc, _⟩
  · cases e; omega
  · cases e; exact hc
theorem say_own {b B B' : Nat} {v : Value} {L : List ByteArray} {w0 w' : World} (W : List ByteArray) (hb : w0.heap.size ≤ b) (g : Gr w0 w') (hS : SayS b B w' L) (hO : OwnS B' w' v W) (hne : W ≠ []) (hs : (jnW W).size ≤ 1000000) (hl : W.length ≤ 1000) (hL : L.length ≤ 100000) :
    Calls Tryd.prog 22 #[v, .pointer (some ⟨b, 0, none⟩)] w' fun e w'' => e = .returned (.tuple #[]) ∧ Gr w0 w'' ∧ SayS b B w'' (L ++ [jnW W ++ ⟨#[10]⟩]) ∧ Kept b w' w'' :=
  say_any b B _ W L w0 _ hb g (hO.vals (by unfold maxLen; omega)) (own_cap2 hO) hne hs hl hL hS
def rowsN (P : Pln) (k : Nat) : List ByteArray := ((rowsT P).take k).map (· ++ ⟨#[10]⟩)
theorem rowsN_succ {P : Pln} {k : Nat} {x : ByteArray} (h : (rowsT P)[k]? = some x) : rowsN P (k + 1) = rowsN P k ++ [x ++ ⟨#[10]⟩] := by
  obtain ⟨hk, rfl⟩ := List.getElem?_eq_some_iff.1 h
  unfold rowsN
  rw [List.take_succ_eq_append_getElem hk, List.map_append]; rfl
theorem rowsN_len (P : Pln) (k : Nat) : (rowsN P k).length ≤ k := by
  unfold rowsN; simp; omega
theorem rowsT_0 (P : Pln) : (rowsT P)[0]? = some (jnW (wordsH P)) := rfl
theorem rowsT_e {P : Pln} {k : Nat} (h : k < P.es.length) : (rowsT P)[1 + k]? = some (jnW (wordsE P.es[k])) := by
  unfold rowsT
  rw [show 1 + k = k + 1 from by omega, List.getElem?_cons_succ, List.append_assoc, List.append_assoc, List.getElem?_append_left (by simpa using h)]
  simp [h]
theorem rowsT_j {P : Pln} {k : Nat} (h : k < P.js.length) : (rowsT P)[1 + P.es.length + k]? = some (jnW (wordsJ P P.js[k])) := by
  unfold rowsT
  rw [show 1 + P.es.length + k = P.es.length + k + 1 from by omega, List.getElem?_cons_succ, List.append_assoc, List.append_assoc, List.getElem?_append_right (by simp), List.getElem?_append_left (by simp <;> omega)]
  simp [h]
theorem rowsT_s {P : Pln} {k : Nat} (h : k < P.ss.length) : (rowsT P)[1 + P.es.length + P.js.length + k]? = some (jnW (wordsG P P.ss[k])) := by
  unfold rowsT
  rw [show 1 + P.es.length + P.js.length + k = P.es.length + P.js.length + k + 1 from by omega, List.getElem?_cons_succ, List.append_assoc, List.getElem?_append_right (by simp <;> omega), List.getElem?_append_left (by simp <;> omega)]
  simp only [List.length_append, List.length_map]
  rw [show P.es.length + P.js.length + k - (P.es.length + P.js.length) = k from by omega]
  simp [h]
theorem rowsT_l {P : Pln} {k : Nat} (h : k < P.ls.length) : (rowsT P)[1 + P.es.length + P.js.length + P.ss.length + k]? = some (jnW (wordsN P P.ls[k])) := by
  unfold rowsT
  rw [show 1 + P.es.length + P.js.length + P.ss.length + k = P.es.length + P.js.length + P.ss.length + k + 1 from by omega, List.getElem?_cons_succ, List.getElem?_append_right (by simp <;> omega)]
  simp only [List.length_append, List.length_map]
  rw [show P.es.length + P.js.length + P.ss.length + k - (P.es.length + P.js.length + P.ss.length) = k from by omega]
  simp [h]
theorem rowsN_all (P : Pln) : rowsN P (1 + P.es.length + P.js.length + P.ss.length + P.ls.length) = (rowsT P).map (· ++ ⟨#[10]⟩) := by
  unfold rowsN
  rw [List.take_of_length_le (by rw [rows_len]; omega)]
theorem join_rows (X : List ByteArray) : (⟨(Lib.join ((X.map (· ++ ⟨#[10]⟩)).map (·.data.toList)) []).toArray⟩ : ByteArray) = unl X := by
  have key : ∀ a b : ByteArray, a.data.toList = b.data.toList → a = b := fun a b h => ByteArray.ext (Array.toList_inj.1 h)
  refine key _ _ ?_
  rw [unl_data]
  show Lib.join _ [] = _
  induction X with
  | nil => rfl
  | cons x t ih =>
    cases t with
    | nil => simp [Lib.join, app_data]
    | cons y u =>
      have e : ∀ (p q : List UInt8) (r : List (List UInt8)), Lib.join (p :: q :: r) [] = p ++ Lib.join (q :: r) [] := fun p q r => by simp [Lib.join, List.intercalate, List.intersperse]
      simp only [List.map_cons] at ih ⊢
      rw [e, ih]
      simp [app_data]
theorem join_all {b B : Nat} {w : World} {X : List ByteArray} {v : Value} (hO : OwnS B w v (X.map (· ++ ⟨#[10]⟩))) (hne : X ≠ []) (hs : (unl X).size ≤ 1000000) (hl : X.length ≤ 1000) :
    Calls Tryd.prog 23 #[v, .string ⟨#[]⟩] w fun e w' => e = .returned (.string (unl X)) ∧ Gr w w' := by
  have hcp : ∀ a n c, v = .slice a n c → n ≤ c := own_cap2 hO
  obtain ⟨a', c', e', -, hx⟩ := hO.vals (by unfold maxLen; simp; omega)
  rw [List.length_map, List.length_map] at e'
  subst e'
  rcases hx with hx | ⟨bb, o, rfl, hbb, hcell⟩
  · exact absurd (List.length_eq_zero_iff.1 (by simpa using hx)) hne
  have hj := join_rows X
  have := Tryd.strings_Join bb o c' (X.map (· ++ ⟨#[10]⟩)) ⟨#[]⟩ w (fun j x hj => hcell j _ (by rw [List.getElem?_map, hj]; rfl)) hbb (by
    have := List.length_pos_iff.2 hne; simp; omega) (by have := hcp _ _ _ rfl; simpa using this) (by
      have h1 : (Lib.join ((X.map (· ++ ⟨#[10]⟩)).map (·.data.toList)) []).length = (unl X).size := by rw [← hj]; rfl
      show (Lib.join _ []).length ≤ _
      rw [h1]; omega)
  rw [← hj]
  rw [List.length_map] at this
  exact this
end Go.Proofs.YtjblplflgiibdaaDoor
namespace Go.Proofs.YtjblplflgiibdaaDoor
open Go.ChangeShapes Go.WideShapes Go.ChangeAt Go.RowKit Go.Maps
set_option linter.unusedVariables false
set_option linter.unusedSimpArgs false
theorem bt_46 {s : ByteArray} {k : Nat} (hk : k < s.size) : bt s k = 46 ↔ s.data.toList[k]? = some 46 := by
  have hl : s.data.toList.length = s.size := by simp
  rw [List.getElem?_eq_getElem (by omega)]
  unfold bt
  rw [List.getD_eq_getElem?_getD, List.getElem?_eq_getElem (by omega)]
  simp only [Option.getD_some, Option.some.injEq]
  constructor
  · intro e
    apply UInt8.toNat_inj.1
    show _ = 46
    omega
  · intro e; rw [e]; rfl
theorem port_none {s : ByteArray} (h : Lib.indexByte s.data.toList 46 = -1) : portB s = false := by
  cases hp : portB s with
  | false => rfl
  | true =>
    unfold portB at hp
    simp only [Bool.and_eq_true, decide_eq_true_eq] at hp
    exact absurd ((bt_46 (by omega)).1 hp.1.1.2) (Lib.indexByte_none h _)
theorem nm_nodot {n : ByteArray} (h : nmB n = true) {k : Nat} (hk : k < n.size) : bt n k ≠ 46 := by
  unfold nmB at h
  simp only [Bool.and_eq_true, List.all_eq_true] at h
  have := (okc_iff k (bt n k)).1 (h.2 k (List.mem_range.2 hk))
  omega
theorem port_at {s : ByteArray} {i : Nat} (h : Lib.indexByte s.data.toList 46 = i) (hi : i < s.size) :
    portB s = (nmB (s.extract 0 i) && numB (s.extract (i + 1) s.size) 1) ∧ (portB s = true → portNm s = s.extract 0 i ∧ portEn s = numN (s.extract (i + 1) s.size) 1) := by
  obtain ⟨h1, h2⟩ := Lib.indexByte_some h
  have hd : bt s i = 46 := (bt_46 hi).2 h1
  have hz : (s.extract (i + 1) s.size).size = s.size - (i + 1) := by rw [ByteArray.size_extract]; omega
  have key : portB s = true → i = s.size - 2 ∧ 3 ≤ s.size := fun hp => by
    unfold portB at hp
    simp only [Bool.and_eq_true, decide_eq_true_eq] at hp
    obtain ⟨⟨⟨a, b⟩, c⟩, d⟩ := hp
    refine ⟨?_, a⟩
    rcases Nat.lt_trichotomy i (s.size - 2) with hlt | he | hgt
    · refine absurd ?_ (nm_nodot d (k := i) (by unfold portNm; rw [ByteArray.size_extract]; omega))
      unfold portNm
      rw [bt_extract _ _ _ _ (by omega) (by omega), Nat.zero_add]; exact hd
    · exact he
    · exact absurd ((bt_46 (by omega)).1 b) (h2 _ hgt)
  have dig : i = s.size - 2 → 3 ≤ s.size → (numB (s.extract (i + 1) s.size) 1 = dgB (bt s (s.size - 1))) ∧ (dgB (bt s (s.size - 1)) = true → numN (s.extract (i + 1) s.size) 1 = bt s (s.size - 1) - 48) := fun he h3 => by
    have h0 : bt (s.extract (i + 1) s.size) 0 = bt s (s.size - 1) := by
      rw [bt_extract _ _ _ _ (by omega) (by omega)]; congr 1; omega
    have hs1 : (s.extract (i + 1) s.size).size = 1 := by omega
    have hb : numB (s.extract (i + 1) s.size) 1 = dgB (bt s (s.size - 1)) := by
      rw [Bool.eq_iff_iff, numB_iff, dgB_iff, hs1]
      constructor
      · rintro ⟨-, -, -, -, -, hh⟩
        rw [← h0]; exact hh 0 (by omega)
      · intro hh
        refine ⟨by omega, by omega, by omega, by omega, by omega, fun j hj => ?_⟩
        obtain rfl : j = 0 := by omega
        rw [h0]; exact hh
    refine ⟨hb, fun hg => ?_⟩
    unfold numN
    rw [hb, if_pos hg, hs1]
    unfold nvB nvB
    rw [h0]; omega
  constructor
  · rw [Bool.eq_iff_iff]
    constructor
    · intro hp
      obtain ⟨he, h3⟩ := key hp
      have hp' := hp
      unfold portB at hp'
      simp only [Bool.and_eq_true, decide_eq_true_eq] at hp'
      rw [(dig he h3).1, hp'.1.2, Bool.and_true, he]
      exact hp'.2
    · intro hp
      rw [Bool.and_eq_true] at hp
      obtain ⟨a, b⟩ := hp
      have b' := (numB_iff _ _).1 b
      have n1 : 1 ≤ (s.extract 0 i).size := by unfold nmB at a; simp only [Bool.and_eq_true, decide_eq_true_eq] at a; exact a.1.1
      rw [ByteArray.size_extract] at n1
      have he : i = s.size - 2 := by omega
      have h3 : 3 ≤ s.size := by omega
      rw [(dig he h3).1] at b
      unfold portB portNm
      rw [← he, hd, b, a, decide_eq_true h3]; rfl
  · intro hp
    obtain ⟨he, h3⟩ := key hp
    have hp' := hp
    unfold portB at hp'
    simp only [Bool.and_eq_true, decide_eq_true_eq] at hp'
    refine ⟨by unfold portNm; rw [he], ?_⟩
    rw [(dig he h3).2 hp'.1.2]; rfl
end Go.Proofs.YtjblplflgiibdaaDoor
namespace Go.Proofs.YtjblplflgiibdaaDoor
open Go.ChangeShapes Go.WideShapes Go.ChangeAt Go.RowKit Go.Maps
set_option linter.unusedVariables false
set_option linter.unusedSimpArgs false
def portO (P : Pln) (s : ByteArray) : Option Prt := if portB s = true then portP P s else none
structure SzP (n : Nat) (P : Pln) : Prop where
  ok : PlnOk P
  es : P.es.length ≤ n
  js : P.js.length ≤ n
  ss : P.ss.length ≤ n
  ls : P.ls.length ≤ n
  fl : (P.ls.flatMap (·.es)).length ≤ n
def SzO (n : Nat) (S : Option Pln) : Prop := ∀ P, S = some P → SzP n P
theorem SzO.none (n : Nat) : SzO n none := fun P h => by cases h
theorem numN5_bd (s : ByteArray) : 0 ≤ numN s 5 ∧ numN s 5 ≤ 99999 := by
  unfold numN
  by_cases h : numB s 5 = true
  · rw [if_pos h]
    have h' := (numB_iff s 5).1 h
    obtain ⟨-, -, -, h4, -, h6⟩ := h'
    have hb := nvB_bd s s.size h6
    refine ⟨hb.1, ?_⟩
    have hp : (10 : Int) ^ s.size ≤ 10 ^ 5 := by
      have : (10 : Nat) ^ s.size ≤ 10 ^ 5 := Nat.pow_le_pow_right (by omega) (by omega)
      exact_mod_cast this
    have : (10 : Int) ^ 5 = 100000 := by decide
    omega
  · rw [if_neg h]; omega
theorem num5_ok (s : ByteArray) : I64 (numN s 5) := by have := numN5_bd s; exact I64_of (by omega) (by omega)
theorem pln0_ok : PlnOk pln0 := ⟨fun e h => (by cases h), fun e h => (by cases h), fun e h => (by cases h), fun e h => (by cases h), by refine ⟨?_, ?_, ?_, ?_⟩ <;> exact I64_of (by decide) (by decide)⟩
theorem SzP.zero : SzP 0 pln0 := ⟨pln0_ok, Nat.le_refl _, Nat.le_refl _, Nat.le_refl _, Nat.le_refl _, Nat.le_refl _⟩
theorem kindW_bd (v : ByteArray) : 0 ≤ kindW v ∧ kindW v ≤ 4 := by unfold kindW; repeat' split <;> omega
theorem portP_ok {P : Pln} {s : ByteArray} {x : Prt} (h : portP P s = some x) (hm : P.es.length ≤ 1000000) : I64 x.e ∧ I64 x.x := by
  unfold portP at h
  split at h
  · cases h
  · cases h
    have h1 : -1 ≤ eleN P (portNm s) ∧ eleN P (portNm s) < P.es.length := fstN_bd _ _
    have h2 := bt_nonneg s (s.size - 1)
    have h3 := bt_le s (s.size - 1)
    refine ⟨I64_of (by dsimp only; omega) (by dsimp only; omega), I64_of ?_ ?_⟩ <;> (dsimp only; unfold portEn; omega)
theorem head_sz {P : Pln} {h : Int × Int × Int × Int × Bool} {w : List ByteArray} {n : Nat} (hh : headW w = some h) (hz : SzP n P) : SzP n (withH P h) := by
  unfold headW at hh
  split at hh
  · split at hh
    · cases hh
      exact ⟨⟨hz.ok.es, hz.ok.js, hz.ok.ss, hz.ok.ls, num5_ok _, num5_ok _, num5_ok _, num5_ok _⟩, hz.es, hz.js, hz.ss, hz.ls, hz.fl⟩
    · cases hh
  · cases hh
theorem SzP.elem {P : Pln} {n m : Nat} (hz : SzP n P) (hm : n < m) {nm : ByteArray} (h : nm.size ≤ maxLen) {k l : Int} (hk : I64 k) (hl : I64 l) : SzP m { P with es := P.es ++ [⟨nm, k, l⟩] } := by
  refine ⟨⟨fun e he => ?_, hz.ok.js, hz.ok.ss, hz.ok.ls, hz.ok.nums⟩, ?_, ?_, ?_, ?_, ?_⟩
  · rcases List.mem_append.1 he with he | he
    · exact hz.ok.es e he
    · obtain rfl := List.mem_singleton.1 he
      exact ⟨hk, hl, h⟩
  · have := hz.es; simp; omega
  · have := hz.js; show _ ≤ _; dsimp only; omega
  · have := hz.ss; show _ ≤ _; dsimp only; omega
  · have := hz.ls; show _ ≤ _; dsimp only; omega
  · have := hz.fl; show _ ≤ _; dsimp only; omega
theorem SzP.join {P : Pln} {n m : Nat} (hz : SzP n P) (hm : n < m) {a b : Prt} (ha : I64 a.e ∧ I64 a.x) (hb : I64 b.e ∧ I64 b.x) : SzP m { P with js := P.js ++ [⟨a, b⟩] } := by
  refine ⟨⟨hz.ok.es, fun e he => ?_, hz.ok.ss, hz.ok.ls, hz.ok.nums⟩, ?_, ?_, ?_, ?_, ?_⟩
  · rcases List.mem_append.1 he with he | he
    · exact hz.ok.js e he
    · obtain rfl := List.mem_singleton.1 he
      exact ⟨ha.1, ha.2, hb.1, hb.2⟩
  · have := hz.es; show _ ≤ _; dsimp only; omega
  · have := hz.js; simp; omega
  · have := hz.ss; show _ ≤ _; dsimp only; omega
  · have := hz.ls; show _ ≤ _; dsimp only; omega
  · have := hz.fl; show _ ≤ _; dsimp only; omega
theorem SzP.signal {P : Pln} {n m : Nat} (hz : SzP n P) (hm : n < m) {a : Prt} (ha : I64 a.e ∧ I64 a.x) {nm : ByteArray} (h : nm.size ≤ maxLen) {b : Bool} : SzP m { P with ss := P.ss ++ [⟨nm, a, b⟩] } := by
  refine ⟨⟨hz.ok.es, hz.ok.js, fun e he => ?_, hz.ok.ls, hz.ok.nums⟩, ?_, ?_, ?_, ?_, ?_⟩
  · rcases List.mem_append.1 he with he | he
    · exact hz.ok.ss e he
    · obtain rfl := List.mem_singleton.1 he
      exact ⟨ha.1, ha.2, h⟩
  · have := hz.es; show _ ≤ _; dsimp only; omega
  · have := hz.js; show _ ≤ _; dsimp only; omega
  · have := hz.ss; simp; omega
  · have := hz.ls; show _ ≤ _; dsimp only; omega
  · have := hz.fl; show _ ≤ _; dsimp only; omega
theorem SzP.line {P : Pln} {n m : Nat} (hz : SzP n P) {l : Ln} (hm : n + l.es.length < m) (h : l.n.size ≤ maxLen) (he : ∀ e ∈ l.es, I64 e) : SzP m { P with ls := P.ls ++ [l] } := by
  refine ⟨⟨hz.ok.es, hz.ok.js, hz.ok.ss, fun e he' => ?_, hz.ok.nums⟩, ?_, ?_, ?_, ?_, ?_⟩
  · rcases List.mem_append.1 he' with he' | he'
    · exact hz.ok.ls e he'
    · obtain rfl := List.mem_singleton.1 he'
      exact ⟨h, he⟩
  · have := hz.es; show _ ≤ _; dsimp only; omega
  · have := hz.js; show _ ≤ _; dsimp only; omega
  · have := hz.ss; show _ ≤ _; dsimp only; omega
  · have := hz.ls; simp; omega
  · have := hz.fl
    simp only [List.flatMap_append, List.length_append, List.flatMap_cons, List.flatMap_nil, List.append_nil]
    omega
theorem row_sz {P Q : Pln} {w : List ByteArray} {n m : Nat} (h : rowW P w = .inr Q) (hz : SzP n P) (hn : n ≤ 1000000) (hm : n + w.length ≤ m) (hs : ∀ x ∈ w, x.size ≤ maxLen) : SzP m Q := by
  cases w with
  | nil => cases h
  | cons v t =>
    simp only [List.length_cons] at hm
    unfold rowW at h
    dsimp only at h
    split at h
    · -- an element
      unfold elemW at h
      split at h
      · rename_i v' nm he
        injection he with e1 e2
        subst e1 e2
        split at h
        · cases h; exact hz.elem (by omega) (hs nm (by simp)) (I64_of (by decide) (by decide)) (I64_of (by decide) (by decide))
        · cases h
      · rename_i v' nm d he
        injection he with e1 e2
        subst e1 e2
        split at h
        · cases h
          have := kindW_bd v
          exact hz.elem (by omega) (hs nm (by simp)) (I64_of (by omega) (by omega)) (num5_ok _)
        · cases h
      · cases h
    split at h
    · unfold joinW at h
      split at h
      · split at h
        · split at h
          · rename_i x y hx hy
            cases h
            exact hz.join (by omega) (portP_ok hx (by have := hz.es; omega)) (portP_ok hy (by have := hz.es; omega))
          · cases h
        · cases h
      · cases h
    split at h
    · have s3 : ∀ (nm p : ByteArray) (b : Bool), sig3 P nm p b = .inr Q → nm.size ≤ maxLen → SzP m Q := fun nm p b h hn' => by
        unfold sig3 at h
        split at h
        · split at h
          · rename_i x hx
            cases h
            exact hz.signal (by omega) (portP_ok hx (by have := hz.es; omega)) hn'
          · cases h
        · cases h
      unfold signalW at h
      split at h
      · rename_i v' nm p he
        injection he with e1 e2
        subst e1 e2
        exact s3 nm p false h (hs nm (by simp))
      · rename_i v' nm p q he
        injection he with e1 e2
        subst e1 e2
        split at h
        · exact s3 nm p true h (hs nm (by simp))
        · cases h
      · cases h
    split at h
    · unfold lineWd at h
      split at h
      · rename_i v' nm t' he
        injection he with e1 e2
        subst e1 e2
        split at h
        · cases h
        split at h
        · cases h
        · cases h
          simp only [List.length_cons] at hm
          refine hz.line (by simp; omega) (hs nm (by simp)) fun e he => ?_
          obtain ⟨s, -, rfl⟩ := List.mem_map.1 he
          have h1 : -1 ≤ eleN P s ∧ eleN P s < P.es.length := fstN_bd _ _
          have := hz.es
          exact I64_of (by omega) (by omega)
      · cases h
    · cases h
theorem SzP.mono {P : Pln} {n m : Nat} (h : SzP n P) (hm : n ≤ m) : SzP m P := ⟨h.ok, Nat.le_trans h.es hm, Nat.le_trans h.js hm, Nat.le_trans h.ss hm, Nat.le_trans h.ls hm, Nat.le_trans h.fl hm⟩
theorem takeT_sz {S S' : Option Pln} {x : ByteArray} {n : Nat} (h : takeT S x = .inr S') (hz : SzO n S) (hn : n ≤ 1000000) (hs : x.size ≤ 1048576) : SzO (n + x.size + 1) S' := by
  unfold takeT at h
  split at h
  · cases h; exact fun P hP => (hz P hP).mono (by omega)
  · cases hw : wdB x with
    | none => rw [hw] at h; cases h
    | some w =>
      rw [hw] at h
      dsimp only at h
      obtain ⟨-, w1, w2⟩ := wdS_ne hw
      have w3 : ∀ y ∈ w, y.size ≤ maxLen := fun y hy => by have := w2 y hy; unfold maxLen; omega
      unfold takeW at h
      cases S with
      | none =>
        dsimp only at h
        cases hh : headW w with
        | none => rw [hh] at h; cases h
        | some q =>
          rw [hh] at h
          cases h
          intro P hP
          cases hP
          exact (head_sz hh SzP.zero).mono (by omega)
      | some P =>
        dsimp only at h
        cases hr : rowW P w with
        | inl e => rw [hr] at h; cases h
        | inr Q =>
          rw [hr] at h
          cases h
          intro P' hP
          cases hP
          exact row_sz hr (hz P rfl) hn (by omega) w3
theorem elem_err {P : Pln} {e : Int} : ∀ {w : List ByteArray}, elemW P w = .inl e → e = 2
  | [], h => by cases h; rfl
  | [_], h => by cases h; rfl
  | [v, n], h => by
    have h : (if kindW v = 4 ∧ nmB n = true then .inr { P with es := P.es ++ [⟨n, 4, 0⟩] } else .inl 2 : Int ⊕ Pln) = .inl e := h
    split at h <;> cases h
    rfl
  | [v, n, d], h => by
    have h : (if kindW v ≠ 4 ∧ nmB n = true ∧ numB d 5 = true then .inr { P with es := P.es ++ [⟨n, kindW v, numN d 5⟩] } else .inl 2 : Int ⊕ Pln) = .inl e := h
    split at h <;> cases h
    rfl
  | _ :: _ :: _ :: _ :: _, h => by cases h; rfl
theorem join_err {P : Pln} {e : Int} : ∀ {w : List ByteArray}, joinW P w = .inl e → e = 2 ∨ e = 5
  | [], h => by cases h; exact .inl rfl
  | [_], h => by cases h; exact .inl rfl
  | [_, _], h => by cases h; exact .inl rfl
  | [v, a, b], h => by
    unfold joinW at h
    dsimp only at h
    split at h
    · split at h <;> cases h
      exact .inr rfl
    · cases h; exact .inl rfl
  | _ :: _ :: _ :: _ :: _, h => by cases h; exact .inl rfl
theorem sig3_err {P : Pln} {n p : ByteArray} {b : Bool} {e : Int} (h : sig3 P n p b = .inl e) : e = 2 ∨ e = 5 := by
  unfold sig3 at h
  split at h
  · split at h <;> cases h
    exact .inr rfl
  · cases h; exact .inl rfl
theorem signal_err {P : Pln} {e : Int} : ∀ {w : List ByteArray}, signalW P w = .inl e → e = 2 ∨ e = 5
  | [], h => by cases h; exact .inl rfl
  | [_], h => by cases h; exact .inl rfl
  | [_, _], h => by cases h; exact .inl rfl
  | [v, n, p], h => sig3_err h
  | [v, n, p, q], h => by
    have h : (if q = bAuto then sig3 P n p true else .inl 2 : Int ⊕ Pln) = .inl e := h
    split at h
    · exact sig3_err h
    · cases h; exact .inl rfl
  | _ :: _ :: _ :: _ :: _ :: _, h => by cases h; exact .inl rfl
theorem line_err {P : Pln} {e : Int} : ∀ {w : List ByteArray}, lineWd P w = .inl e → e = 2 ∨ e = 5
  | [], h => by cases h; exact .inl rfl
  | [_], h => by cases h; exact .inl rfl
  | v :: n :: t, h => by
    unfold lineWd at h
    dsimp only at h
    split at h
    · cases h; exact .inl rfl
    split at h
    · cases h; exact .inr rfl
    · cases h
theorem row_err {P : Pln} {w : List ByteArray} {e : Int} (h : rowW P w = .inl e) : e = 2 ∨ e = 5 := by
  cases w with
  | nil => cases h; exact .inl rfl
  | cons v t =>
    unfold rowW at h
    dsimp only at h
    split at h
    · exact .inl (elem_err h)
    split at h
    · exact join_err h
    split at h
    · exact signal_err h
    split at h
    · exact line_err h
    · cases h; exact .inl rfl
theorem takeT_err {S : Option Pln} {x : ByteArray} {e : Int} (h : takeT S x = .inl e) : e ≠ 0 := by
  unfold takeT at h
  split at h
  · cases h
  · cases hw : wdB x with
    | none => rw [hw] at h; cases h; decide
    | some w =>
      rw [hw] at h
      dsimp only at h
      unfold takeW at h
      cases S with
      | none =>
        dsimp only at h
        cases hh : headW w with
        | none => rw [hh] at h; cases h; decide
        | some q => rw [hh] at h; cases h
      | some P =>
        dsimp only at h
        cases hr : rowW P w with
        | inl e' =>
          rw [hr] at h
          cases h
          have := row_err hr
          omega
        | inr Q => rw [hr] at h; cases h
theorem unl_take {X : List ByteArray} {k : Nat} (hk : k < X.length) : (unl (X.take (k + 1))).size = (unl (X.take k)).size + X[k].size + 1 := by
  rw [List.take_succ_eq_append_getElem hk, unl_join]
  have h1 : (⟨#[10]⟩ : ByteArray).size = 1 := rfl
  have h2 : (⟨#[]⟩ : ByteArray).size = 0 := rfl
  unfold unl unl
  simp only [size_app, h1, h2]
  omega
theorem unl_take_le (X : List ByteArray) (k : Nat) : (unl (X.take k)).size ≤ (unl X).size := by
  have := congrArg ByteArray.size (unl_join (X.take k) (X.drop k))
  rw [List.take_append_drop, size_app] at this
  omega
theorem unl_lnB_size (s : ByteArray) : (unl (lnB s)).size ≤ s.size + 1 := by
  have h1 : (⟨#[10]⟩ : ByteArray).size = 1 := rfl
  rcases unl_lnB s with e | e
  · rw [e]; omega
  · rw [e, size_app, h1]; exact Nat.le_refl _
end Go.Proofs.YtjblplflgiibdaaDoor
