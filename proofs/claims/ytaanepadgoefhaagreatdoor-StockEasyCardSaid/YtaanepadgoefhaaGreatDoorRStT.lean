/- Kinds of trains as texts, there and back: plain. -/
import Derived.Test.YtaanepadgoefhaaGreatDoorRows
import Derived.Test.YtaanepadgoefhaaGreatDoorRStQ
namespace Go.Proofs.YtaanepadgoefhaaGreatDoor
open Go.ChangeShapes Go.WideShapes Go.ChangeAt Go.RowKit Go.Maps
set_option linter.unusedVariables false
set_option linter.unusedSimpArgs false
theorem app_data (a b : ByteArray) : (a ++ b).data.toList = a.data.toList ++ b.data.toList := by simp [ByteArray.data_append]
theorem nm_word {n : ByteArray} (h : nmB n = true) : wordB n := by
  unfold nmB at h
  simp only [Bool.and_eq_true, decide_eq_true_eq, List.all_eq_true, List.mem_range] at h
  refine wordB_of (by omega) fun j hj => ?_
  have := (okc_iff j (bt n j)).1 (h.2 j hj)
  omega
/-- no line feed -/
def lineB (x : ByteArray) : Prop := ∀ c ∈ x.data.toList, c ≠ 10
theorem word_line {x : ByteArray} (h : wordB x) : lineB x := fun c hc e => by
  have := h.2 c hc
  subst e
  revert this; decide
theorem line_app {a b : ByteArray} (ha : lineB a) (hb : lineB b) : lineB (a ++ b) := fun c hc => by
  rw [app_data, List.mem_append] at hc
  rcases hc with h | h
  · exact ha c h
  · exact hb c h
theorem line_blank : lineB ⟨#[32]⟩ := fun c hc => by
  have : c = 32 := by simpa using hc
  subst this; decide
theorem jnW_line : ∀ (L : List ByteArray), (∀ x ∈ L, lineB x) → lineB (jnW L)
  | [], _ => fun c hc => by simp [jnW, Lib.join] at hc
  | [b], h => by
    have e : jnW [b] = b := by
      show (⟨(Lib.join [b.data.toList] [32]).toArray⟩ : ByteArray) = b
      rw [Lib.join_one]
    rw [e]
    exact h b (by simp)
  | b :: a :: t, h => by
    rw [jnW_cons]
    exact line_app (line_app (h b (by simp)) line_blank) (jnW_line (a :: t) fun x hx => h x (List.mem_cons_of_mem _ hx))
/-- lines, each with its line feed -/
def unl : List ByteArray → ByteArray
  | [] => ⟨#[]⟩
  | x :: t => x ++ ⟨#[10]⟩ ++ unl t
theorem unl_data : ∀ (L : List ByteArray), (unl L).data.toList = L.flatMap fun x => x.data.toList ++ [10]
  | [] => rfl
  | x :: t => by unfold unl; rw [app_data, app_data, unl_data t]; simp
theorem lnB_unl : ∀ (L : List ByteArray), (∀ x ∈ L, lineB x) → lnB (unl L) = L
  | [], _ => rfl
  | x :: t, h => by
    have ih := lnB_unl t fun y hy => h y (List.mem_cons_of_mem _ hy)
    unfold lnB at ih ⊢
    unfold unl
    rw [app_data, app_data, List.append_assoc, lnsA_pre _ _ _ (h x (by simp))]
    show (lnsA ([] ++ x.data.toList) (10 :: (unl t).data.toList)).map toB = _
    unfold lnsA
    rw [if_pos rfl, List.map_cons, ih, List.nil_append, toB_data]
theorem unl_lnsA : ∀ (l acc : List UInt8), (unl ((lnsA acc l).map toB)).data.toList = acc ++ l ∨ (unl ((lnsA acc l).map toB)).data.toList = acc ++ l ++ [10]
  | [], acc => by
    unfold lnsA
    by_cases h : acc = []
    · rw [if_pos h, h]; exact .inl rfl
    · rw [if_neg h]; right
      simp only [List.map_cons, List.map_nil, unl_data, List.flatMap_cons, List.flatMap_nil, List.append_nil]
      simp [toB]
  | c :: t, acc => by
    unfold lnsA
    by_cases h : c = 10
    · rw [if_pos h]
      subst h
      have ih := unl_lnsA t []
      rw [List.map_cons, unl, app_data, app_data]
      have e : (toB acc).data.toList = acc := by simp [toB]
      rw [e]
      rcases ih with ih | ih
      · left; rw [ih]; simp
      · right; rw [ih]; simp
    · rw [if_neg h]
      have ih := unl_lnsA t (acc ++ [c])
      rcases ih with ih | ih
      · left; rw [ih]; simp
      · right; rw [ih]; simp
theorem unl_lnB (s : ByteArray) : unl (lnB s) = s ∨ unl (lnB s) = s ++ ⟨#[10]⟩ := by
  have key : ∀ a b : ByteArray, a.data.toList = b.data.toList → a = b := fun a b h => ByteArray.ext (Array.toList_inj.1 h)
  rcases unl_lnsA s.data.toList [] with h | h
  · left; exact key _ _ (by unfold lnB; rw [h]; rfl)
  · right; refine key _ _ ?_
    rw [app_data]
    unfold lnB
    rw [h]; rfl
theorem printS_unl : ∀ (L : List Stk), printS L = unl (L.map lineS)
  | [] => rfl
  | s :: t => by unfold printS; rw [printS_unl t]; rfl
theorem mayS_parts {s : Stk} (h : mayS s = true) : nmB s.nm = true ∧ (1 ≤ s.l ∧ s.l ≤ 4000) ∧ (1 ≤ s.t ∧ s.t ≤ 60) ∧ (1 ≤ s.a ∧ s.a ≤ 10) ∧ (1 ≤ s.b ∧ s.b ≤ 10) := mayB_parts h
theorem stock_word : wordB bStock := wordB_of (by decide) (by decide)
theorem wordsS_word {s : Stk} (h : mayS s = true) : ∀ x ∈ wordsS s, wordB x := by
  obtain ⟨h0, h1, h2, h3, h4⟩ := mayS_parts h
  intro x hx
  simp only [wordsS, List.mem_cons, List.not_mem_nil, or_false] at hx
  rcases hx with rfl | rfl | rfl | rfl | rfl | rfl
  · exact stock_word
  · exact nm_word h0
  all_goals exact dgs_word _ (by omega) (by omega)
theorem num4 {n : Int} (h0 : 0 ≤ n) (h1 : n < 10000) : numB (dgs n) 4 = true ∧ numN (dgs n) 4 = n := num_dgs 3 n h0 (by simpa using h1) (by omega)
theorem rowS_words {s : Stk} (h : mayS s = true) : rowS (wordsS s) = some s := by
  obtain ⟨h0, h1, h2, h3, h4⟩ := mayS_parts h
  have n1 := num4 (n := s.l) (by omega) (by omega)
  have n2 := num4 (n := s.t) (by omega) (by omega)
  have n3 := num4 (n := s.a) (by omega) (by omega)
  have n4 := num4 (n := s.b) (by omega) (by omega)
  show (if bStock = bStock ∧ nmB s.nm = true ∧ numB (dgs s.l) 4 = true ∧ numB (dgs s.t) 4 = true ∧ numB (dgs s.a) 4 = true ∧ numB (dgs s.b) 4 = true then some (⟨s.nm, numN (dgs s.l) 4, numN (dgs s.t) 4, numN (dgs s.a) 4, numN (dgs s.b) 4⟩ : Stk) else none) = some s
  rw [if_pos ⟨rfl, h0, n1.1, n2.1, n3.1, n4.1⟩, n1.2, n2.2, n3.2, n4.2]
theorem readS_line {s : Stk} (h : mayS s = true) : readS (lineS s) = some s := by
  unfold readS lineS
  rw [wdB_jnW _ (by simp [wordsS]) (wordsS_word h)]
  exact rowS_words h
theorem rowS_inv {l : List ByteArray} {s : Stk} (h : rowS l = some s) : l = wordsS s := by
  match l with
  | [a, b, c, d, e, f] =>
    have h : (if a = bStock ∧ nmB b = true ∧ numB c 4 = true ∧ numB d 4 = true ∧ numB e 4 = true ∧ numB f 4 = true then some (⟨b, numN c 4, numN d 4, numN e 4, numN f 4⟩ : Stk) else none) = some s := h
    split at h
    · rename_i hh
      obtain ⟨h1, h2, h3, h4, h5, h6⟩ := hh
      cases h
      unfold wordsS
      dsimp only
      rw [dgs_num h3, dgs_num h4, dgs_num h5, dgs_num h6, h1]
    · cases h
  | [] => cases h
  | [_] => cases h
  | [_, _] => cases h
  | [_, _, _] => cases h
  | [_, _, _, _] => cases h
  | [_, _, _, _, _] => cases h
  | _ :: _ :: _ :: _ :: _ :: _ :: _ :: _ => cases h
theorem readS_inv {x : ByteArray} {s : Stk} (h : readS x = some s) : lineS s = x := by
  unfold readS at h
  cases hw : wdB x with
  | none => rw [hw] at h; cases h
  | some l =>
    rw [hw] at h
    dsimp only at h
    rw [(wdB_inv hw).1]
    unfold lineS
    rw [rowS_inv h]
theorem rdS_inv : ∀ (l : List ByteArray) (i : Nat) {L : List Stk}, rdS l i = .inr L → l.map readS = L.map some
  | [], _, L, h => by unfold rdS at h; cases h; rfl
  | x :: t, i, L, h => by
    unfold rdS at h
    cases hx : readS x with
    | none => rw [hx] at h; cases h
    | some k =>
      rw [hx] at h
      dsimp only at h
      cases hr : rdS t (i + 1) with
      | inl j => rw [hr] at h; cases h
      | inr T =>
        rw [hr] at h
        dsimp only at h
        cases h
        rw [List.map_cons, List.map_cons, hx, rdS_inv t (i + 1) hr]
theorem lines_of : ∀ {l : List ByteArray} {L : List Stk}, l.map readS = L.map some → L.map lineS = l
  | [], L, h => by cases L with | nil => rfl | cons a t => cases h
  | x :: t, L, h => by
    cases L with
    | nil => cases h
    | cons a T =>
      simp only [List.map_cons, List.cons.injEq] at h
      rw [List.map_cons, readS_inv h.1, lines_of h.2]
/-- what is read is printed as it was -/
theorem parS_back {s : ByteArray} {L : List Stk} {n : Int} (h : parS s = (L, n, 0)) : plainE L = 0 ∧ n = L.length ∧ (printS L = s ∨ printS L = s ++ ⟨#[10]⟩) := by
  unfold parS at h
  split at h
  · cases h
  cases hr : rdS (lnB s) 0 with
  | inl i => rw [hr] at h; dsimp only at h; cases h
  | inr M =>
    rw [hr] at h
    dsimp only at h
    split at h
    · rename_i hp
      simp only [Prod.mk.injEq, and_true] at h
      obtain ⟨rfl, rfl⟩ := h
      have hl := lines_of (rdS_inv _ _ hr)
      refine ⟨hp, by rw [← hl, List.length_map], ?_⟩
      rw [printS_unl, hl]
      exact unl_lnB s
    · rename_i hp
      simp only [Prod.mk.injEq] at h
      exact absurd h.2.2 hp
theorem dgs4_size {n : Int} (h0 : 0 ≤ n) (h1 : n < 10000) : (dgs n).size ≤ 4 := by
  have h := (dgs_spec 3 n h0 (by simpa using h1)).2.1
  omega
theorem nm_size {n : ByteArray} (h : nmB n = true) : n.size ≤ 8 := by
  unfold nmB at h
  simp only [Bool.and_eq_true, decide_eq_true_eq] at h
  exact h.1.2
theorem lineS_size {s : Stk} (h : mayS s = true) : (lineS s).size ≤ 40 := by
  obtain ⟨h0, h1, h2, h3, h4⟩ := mayS_parts h
  have a0 := nm_size h0
  have a1 := dgs4_size (n := s.l) (by omega) (by omega)
  have a2 := dgs4_size (n := s.t) (by omega) (by omega)
  have a3 := dgs4_size (n := s.a) (by omega) (by omega)
  have a4 := dgs4_size (n := s.b) (by omega) (by omega)
  unfold lineS wordsS
  rw [jnW_cons, jnW_cons, jnW_cons, jnW_cons, jnW_cons]
  have e : jnW [dgs s.b] = dgs s.b := by
    show (⟨(Lib.join [(dgs s.b).data.toList] [32]).toArray⟩ : ByteArray) = _
    rw [Lib.join_one]
  have hb : bStock.size = 5 := rfl
  have h1 : (⟨#[32]⟩ : ByteArray).size = 1 := rfl
  simp only [size_app, e, hb, h1]
  omega
theorem printS_size : ∀ {L : List Stk}, (∀ s ∈ L, mayS s = true) → (printS L).size ≤ 41 * L.length
  | [], _ => by decide
  | s :: t, h => by
    have ih := printS_size fun x hx => h x (List.mem_cons_of_mem _ hx)
    have := lineS_size (h s (by simp))
    have h1 : (⟨#[10]⟩ : ByteArray).size = 1 := rfl
    unfold printS
    simp only [size_app, h1, List.length_cons]
    omega
/-- what is printed is read as it was -/
theorem parS_print {L : List Stk} (h : plainE L = 0) : parS (printS L) = (L, (L.length : Int), 0) := by
  obtain ⟨h0, h1, -⟩ := plain_ok h
  have hs := printS_size h1
  have hl : lnB (printS L) = L.map lineS := by
    rw [printS_unl]
    refine lnB_unl _ fun x hx => ?_
    obtain ⟨s, hs, rfl⟩ := List.mem_map.1 hx
    exact jnW_line _ fun y hy => word_line (wordsS_word (h1 s hs) y hy)
  have hg : (lnB (printS L)).map readS = L.map some := by
    rw [hl, List.map_map]
    exact List.map_congr_left fun s hs => readS_line (h1 s hs)
  rw [parS_good (by omega) hg, if_pos h, hl, List.length_map]
theorem printS_snoc : ∀ (L : List Stk) (s : Stk), printS (L ++ [s]) = printS L ++ lineS s ++ ⟨#[10]⟩
  | [], s => by
    show lineS s ++ ⟨#[10]⟩ ++ ⟨#[]⟩ = (⟨#[]⟩ : ByteArray) ++ lineS s ++ ⟨#[10]⟩
    apply ByteArray.ext; simp [ByteArray.data_append]
  | a :: t, s => by
    show lineS a ++ ⟨#[10]⟩ ++ printS (t ++ [s]) = lineS a ++ ⟨#[10]⟩ ++ printS t ++ lineS s ++ ⟨#[10]⟩
    rw [printS_snoc t s]
    apply ByteArray.ext; simp [ByteArray.data_append]
end Go.Proofs.YtaanepadgoefhaaGreatDoor
