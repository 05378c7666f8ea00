/- DrV: A plan that may be, as a text: the lines of tracks, the first line, the whole, its length. Plain.
DrW: A plan that may be, as a text: its lines, how long it is, and that it is read as it was. Plain.
DrJ: draft.Print: what its walk needs. No walk.
DrX: A port's text, cut at its first point. Plain. -/
import Derived.Test.YtknmngejjoohdaaGreatDoorRows
import Derived.Test.YtknmngejjoohdaaGreatDoorB19
import Derived.Test.YtknmngejjoohdaaGreatDoorB18
import Derived.Lib.IndexLaws
namespace Go.Proofs.YtknmngejjoohdaaGreatDoor
open Go.ChangeShapes Go.WideShapes Go.ChangeAt Go.RowKit Go.Maps
set_option linter.unusedVariables false
set_option linter.unusedSimpArgs false
theorem nodup_len : ∀ (n : Nat) (l : List Int), l.Nodup → (∀ e ∈ l, 0 ≤ e ∧ e < n) → l.length ≤ n
  | 0, [], _, _ => by simp
  | 0, e :: t, _, h => by have := h e (by simp); omega
  | n + 1, l, hd, h => by
    have ih := nodup_len n (l.erase n) (hd.erase _) fun e he => by
      have h1 := h e (List.mem_of_mem_erase he)
      have h2 : e ≠ n := by
        intro e'
        subst e'
        exact absurd he (hd.not_mem_erase)
      omega
    by_cases hm : (n : Int) ∈ l
    · rw [List.length_erase_of_mem hm] at ih; omega
    · rw [List.erase_of_not_mem hm] at ih; omega
theorem line_parts {P : Pln} (h : chk P = 0) {l : Ln} (hl : l ∈ P.ls) : nmB l.n = true ∧ l.es ≠ [] ∧ l.es.length ≤ 40 ∧ ∀ e ∈ l.es, 0 ≤ e ∧ e < P.es.length := by
  obtain ⟨hz, -, -, -, hn, -, -, -, -, -, hL⟩ := fine_all h
  unfold linesB at hL
  simp only [Bool.and_eq_true, List.all_eq_true, decide_eq_true_eq, Bool.not_eq_true', decide_eq_false_iff_not] at hL
  have hb : ∀ e ∈ l.es, 0 ≤ e ∧ e < P.es.length := fun e he => by
    have := (hL.2 l hl).1.2 e he
    unfold kindP at this
    split at this
    · assumption
    · omega
  have hd : l.es.Nodup := by
    have := hL.1
    obtain ⟨A, B, e⟩ := List.append_of_mem hl
    rw [e, List.flatMap_append, List.flatMap_cons] at this
    exact (List.nodup_append.1 (List.nodup_append.1 this).2.1).1
  have := nodup_len P.es.length l.es hd hb
  refine ⟨hn l hl, fun e => (hL.2 l hl).1.1 (by rw [e]; rfl), by omega, hb⟩
theorem wordsN_word {P : Pln} (h : chk P = 0) {l : Ln} (hl : l ∈ P.ls) : ∀ x ∈ wordsN P l, wordB x := by
  obtain ⟨hn, -, -, hb⟩ := line_parts h hl
  intro x hx
  unfold wordsN at hx
  simp only [List.mem_cons, List.mem_map] at hx
  rcases hx with rfl | rfl | ⟨e, he, rfl⟩
  · exact wordB_of (by decide) (by decide)
  · exact nm_word hn
  · exact nm_word (ele_self h (hb e he).1 (hb e he).2).2
theorem take_l {P : Pln} (h : chk P = 0) {l : Ln} (hl : l ∈ P.ls) (Q : Pln) (hq : Q.es = P.es) : takeT (some Q) (jnW (wordsN P l)) = .inr (some { Q with ls := Q.ls ++ [l] }) := by
  obtain ⟨hn, hne, h40, hb⟩ := line_parts h hl
  have hw := wordsN_word h hl
  have he : ∀ e ∈ l.es, eleN Q (P.es.getD e.toNat default).n = e ∧ nmB (P.es.getD e.toNat default).n = true := fun e he => by
    have := ele_self h (hb e he).1 (hb e he).2
    unfold eleN at *
    rw [hq]; exact this
  unfold wordsN at hw ⊢
  rw [take_words (by decide) (by decide) hw]
  unfold takeW rowW
  dsimp only
  rw [if_neg (by decide), if_neg (by decide), if_neg (by decide), if_pos rfl]
  unfold lineWd
  dsimp only
  have hm : (l.es.map fun e => (P.es.getD e.toNat default).n).map (eleN Q) = l.es := by
    rw [List.map_map]
    conv => rhs; rw [← List.map_id l.es]
    exact List.map_congr_left fun e hx => (he e hx).1
  rw [if_neg, if_neg, hm]
  · simp only [List.any_eq_true, List.mem_map, decide_eq_true_eq]
    rintro ⟨x, ⟨e, hx, rfl⟩, hlt⟩
    rw [(he e hx).1] at hlt
    have := (hb e hx).1
    omega
  · rintro (e | e | e)
    · exact hne (by simpa using e)
    · rw [List.length_map] at e; omega
    · have : ((l.n :: l.es.map fun e => (P.es.getD e.toNat default).n).all nmB) = true := by
        rw [List.all_eq_true]
        intro x hx
        simp only [List.mem_cons, List.mem_map] at hx
        rcases hx with rfl | ⟨e, hx, rfl⟩
        · exact hn
        · exact (he e hx).2
      rw [this] at e; cases e
theorem nums_in {P : Pln} (h : chk P = 0) : (1 ≤ P.top ∧ P.top ≤ 60) ∧ (1 ≤ P.brake ∧ P.brake ≤ 10) ∧ (1 ≤ P.margin ∧ P.margin ≤ 4000) ∧ (1 ≤ P.throw ∧ P.throw ≤ 20) := by
  have := (fine_all h).2.1
  unfold numsB inB at this
  simp only [Bool.and_eq_true, decide_eq_true_eq] at this
  exact ⟨this.1.1.1.1, this.1.1.1.2, this.1.1.2, this.1.2⟩
theorem hard_word (b : Bool) : wordB (if b = true then bHard else bSoft) ∧ (if b = true then bHard else bSoft).size ≤ 4 := by
  cases b <;> exact ⟨wordB_of (by decide) (by decide), by decide⟩
theorem wordsH_word {P : Pln} (h : chk P = 0) : ∀ x ∈ wordsH P, wordB x := by
  obtain ⟨h1, h2, h3, h4⟩ := nums_in h
  intro x hx
  unfold wordsH at hx
  simp only [List.mem_cons, List.not_mem_nil, or_false] at hx
  rcases hx with rfl | rfl | rfl | rfl | rfl | rfl
  · exact wordB_of (by decide) (by decide)
  · exact dgs_word _ (by omega) (by omega)
  · exact dgs_word _ (by omega) (by omega)
  · exact dgs_word _ (by omega) (by omega)
  · exact dgs_word _ (by omega) (by omega)
  · exact (hard_word _).1
def plnH (P : Pln) : Pln := { pln0 with top := P.top, brake := P.brake, margin := P.margin, throw := P.throw, hard := P.hard }
theorem take_h {P : Pln} (h : chk P = 0) : takeT none (jnW (wordsH P)) = .inr (some (plnH P)) := by
  obtain ⟨h1, h2, h3, h4⟩ := nums_in h
  have hw := wordsH_word h
  have a1 := num5 (n := P.top) (by omega) (by omega)
  have a2 := num5 (n := P.brake) (by omega) (by omega)
  have a3 := num5 (n := P.margin) (by omega) (by omega)
  have a4 := num5 (n := P.throw) (by omega) (by omega)
  unfold wordsH at hw ⊢
  rw [take_words (by decide) (by decide) hw]
  unfold takeW headW
  dsimp only
  rw [if_pos ⟨rfl, by cases P.hard <;> simp, a1.1, a2.1, a3.1, a4.1⟩, a1.2, a2.2, a3.2, a4.2]
  have : decide ((if P.hard = true then bHard else bSoft) = bHard) = P.hard := by cases P.hard <;> decide
  rw [this]
  rfl
theorem prg_print {P : Pln} (h : chk P = 0) : prgT (rowsT P) 0 none = .inr (some P) := by
  unfold rowsT
  rw [prgT_cons, take_h h]
  dsimp only
  rw [prgT_append, prgT_append, prgT_append]
  have e1 := prg_fold (fun e => jnW (wordsE e)) (fun A => { plnH P with es := A }) P.es [] (0 + 1) fun x hx A => take_e h hx _
  have e2 := fun i => prg_fold (fun j => jnW (wordsJ P j)) (fun A => { plnH P with es := P.es, js := A }) P.js [] i fun x hx A => take_j h hx _ rfl
  have e3 := fun i => prg_fold (fun j => jnW (wordsG P j)) (fun A => { plnH P with es := P.es, js := P.js, ss := A }) P.ss [] i fun x hx A => take_s h hx _ rfl
  have e4 := fun i => prg_fold (fun j => jnW (wordsN P j)) (fun A => { plnH P with es := P.es, js := P.js, ss := P.ss, ls := A }) P.ls [] i fun x hx A => take_l h hx _ rfl
  have e1' : prgT (P.es.map fun e => jnW (wordsE e)) (0 + 1) (some (plnH P)) = .inr (some { plnH P with es := P.es }) := e1
  rw [e1']
  dsimp only
  have e2' : ∀ i, prgT (P.js.map fun e => jnW (wordsJ P e)) i (some { plnH P with es := P.es }) = .inr (some { plnH P with es := P.es, js := P.js }) := e2
  rw [e2']
  dsimp only
  have e3' : ∀ i, prgT (P.ss.map fun e => jnW (wordsG P e)) i (some { plnH P with es := P.es, js := P.js }) = .inr (some { plnH P with es := P.es, js := P.js, ss := P.ss }) := e3
  rw [e3']
  dsimp only
  have e4' : ∀ i, prgT (P.ls.map fun e => jnW (wordsN P e)) i (some { plnH P with es := P.es, js := P.js, ss := P.ss }) = .inr (some { plnH P with es := P.es, js := P.js, ss := P.ss, ls := P.ls }) := e4
  rw [e4']
  rfl
end Go.Proofs.YtknmngejjoohdaaGreatDoor
namespace Go.Proofs.YtknmngejjoohdaaGreatDoor
open Go.ChangeShapes Go.WideShapes Go.ChangeAt Go.RowKit Go.Maps
set_option linter.unusedVariables false
set_option linter.unusedSimpArgs false
theorem jnW_lone (b : ByteArray) : jnW [b] = b := by
  show (⟨(Lib.join [b.data.toList] [32]).toArray⟩ : ByteArray) = b
  rw [Lib.join_one]
theorem jnW_szm (m : Nat) : ∀ (L : List ByteArray), (∀ x ∈ L, x.size ≤ m) → (jnW L).size ≤ (m + 1) * L.length
  | [], _ => by rw [List.length_nil, Nat.mul_zero]; decide
  | [b], h => by
    have := h b (by simp)
    rw [jnW_lone]
    simp only [List.length_cons, List.length_nil]
    omega
  | b :: a :: t, h => by
    have h0 := h b (by simp)
    have ih := jnW_szm m (a :: t) fun x hx => h x (List.mem_cons_of_mem _ hx)
    have h1 : (⟨#[32]⟩ : ByteArray).size = 1 := rfl
    rw [jnW_cons]
    simp only [size_app, h1, List.length_cons] at ih ⊢
    rw [Nat.mul_add] at ih ⊢
    rw [Nat.mul_add]
    omega
theorem unl_szm : ∀ (L : List ByteArray) (m : Nat), (∀ x ∈ L, x.size ≤ m) → (unl L).size ≤ (m + 1) * L.length
  | [], m, _ => by show (0 : Nat) ≤ _; omega
  | x :: t, m, h => by
    have h0 := h x (by simp)
    have ih := unl_szm t m fun y hy => h y (List.mem_cons_of_mem _ hy)
    have h1 : (⟨#[10]⟩ : ByteArray).size = 1 := rfl
    unfold unl
    simp only [size_app, h1, List.length_cons]
    rw [Nat.mul_add]
    omega
theorem unl_join : ∀ (A B : List ByteArray), unl (A ++ B) = unl A ++ unl B
  | [], B => by
    show unl B = (⟨#[]⟩ : ByteArray) ++ unl B
    apply ByteArray.ext; simp [ByteArray.data_append]
  | x :: t, B => by
    show x ++ ⟨#[10]⟩ ++ unl (t ++ B) = x ++ ⟨#[10]⟩ ++ unl t ++ unl B
    rw [unl_join t B]
    apply ByteArray.ext; simp [ByteArray.data_append]
theorem dgs5_size {n : Int} (h0 : 0 ≤ n) (h1 : n < 100000) : (dgs n).size ≤ 5 := by
  have h := (dgs_spec 4 n h0 (by simpa using h1)).2.1
  omega
theorem wordsE_word {P : Pln} (h : chk P = 0) {e : Ele} (he : e ∈ P.es) : ∀ x ∈ wordsE e, wordB x ∧ x.size ≤ 10 := by
  obtain ⟨hn, hk, h0, h1, h2, h3⟩ := fine_ele h e he
  have hz := nm_size hn
  have kk := kind_word e.k
  have d5 := dgs5_size h0 (by omega)
  intro x hx
  unfold wordsE at hx
  split at hx <;> simp only [List.mem_cons, List.not_mem_nil, or_false] at hx
  · rcases hx with rfl | rfl
    · exact ⟨wordB_of (by decide) (by decide), by decide⟩
    · exact ⟨nm_word hn, by omega⟩
  · rcases hx with rfl | rfl | rfl
    · exact ⟨kk.1, by omega⟩
    · exact ⟨nm_word hn, by omega⟩
    · exact ⟨dgs_word _ h0 (by omega), by omega⟩
theorem wordsJ_word {P : Pln} (h : chk P = 0) {j : Jn} (hj : j ∈ P.js) : ∀ x ∈ wordsJ P j, wordB x ∧ x.size ≤ 10 := by
  obtain ⟨pa, pb⟩ := (ports_ok h).1 j hj
  intro x hx
  simp only [wordsJ, List.mem_cons, List.not_mem_nil, or_false] at hx
  rcases hx with rfl | rfl | rfl
  · exact ⟨wordB_of (by decide) (by decide), by decide⟩
  · exact told_word h pa
  · exact told_word h pb
theorem wordsG_word {P : Pln} (h : chk P = 0) {s : Sg} (hs : s ∈ P.ss) : ∀ x ∈ wordsG P s, wordB x ∧ x.size ≤ 10 := by
  have pa := (ports_ok h).2 s hs
  have hn := (fine_all h).2.2.2.1 s hs
  have hz := nm_size hn
  intro x hx
  unfold wordsG at hx
  rcases List.mem_append.1 hx with hx | hx
  · simp only [List.mem_cons, List.not_mem_nil, or_false] at hx
    rcases hx with rfl | rfl | rfl
    · exact ⟨wordB_of (by decide) (by decide), by decide⟩
    · exact ⟨nm_word hn, by omega⟩
    · exact told_word h pa
  · split at hx
    · simp only [List.mem_cons, List.not_mem_nil, or_false] at hx
      subst hx
      exact ⟨wordB_of (by decide) (by decide), by decide⟩
    · cases hx
theorem wordsN_size {P : Pln} (h : chk P = 0) {l : Ln} (hl : l ∈ P.ls) : ∀ x ∈ wordsN P l, x.size ≤ 10 := by
  obtain ⟨hn, -, -, hb⟩ := line_parts h hl
  intro x hx
  unfold wordsN at hx
  simp only [List.mem_cons, List.mem_map] at hx
  rcases hx with rfl | rfl | ⟨e, he, rfl⟩
  · decide
  · have := nm_size hn; omega
  · have := nm_size (ele_self h (hb e he).1 (hb e he).2).2; omega
theorem wordsH_size {P : Pln} (h : chk P = 0) : ∀ x ∈ wordsH P, x.size ≤ 10 := by
  obtain ⟨h1, h2, h3, h4⟩ := nums_in h
  have a1 := dgs5_size (n := P.top) (by omega) (by omega)
  have a2 := dgs5_size (n := P.brake) (by omega) (by omega)
  have a3 := dgs5_size (n := P.margin) (by omega) (by omega)
  have a4 := dgs5_size (n := P.throw) (by omega) (by omega)
  have a5 := (hard_word P.hard).2
  intro x hx
  unfold wordsH at hx
  simp only [List.mem_cons, List.not_mem_nil, or_false] at hx
  rcases hx with rfl | rfl | rfl | rfl | rfl | rfl
  · decide
  all_goals omega
theorem rows_line {P : Pln} (h : chk P = 0) : ∀ x ∈ rowsT P, lineB x ∧ x.size ≤ 500 := by
  have key : ∀ L : List ByteArray, L.length ≤ 42 → (∀ x ∈ L, wordB x ∧ x.size ≤ 10) → lineB (jnW L) ∧ (jnW L).size ≤ 500 := fun L hl hw => by
    have := jnW_szm 10 L fun x hx => (hw x hx).2
    exact ⟨jnW_line _ fun y hy => word_line (hw y hy).1, by omega⟩
  intro x hx
  unfold rowsT at hx
  simp only [List.mem_cons, List.mem_append, List.mem_map] at hx
  rcases hx with rfl | ((⟨e, he, rfl⟩ | ⟨e, he, rfl⟩) | ⟨e, he, rfl⟩) | ⟨e, he, rfl⟩
  · exact key _ (by simp [wordsH]) fun x hx => ⟨wordsH_word h x hx, wordsH_size h x hx⟩
  · exact key _ (by unfold wordsE; split <;> simp) (wordsE_word h he)
  · exact key _ (by simp [wordsJ]) (wordsJ_word h he)
  · exact key _ (by unfold wordsG; split <;> simp) (wordsG_word h he)
  · obtain ⟨-, -, h40, -⟩ := line_parts h he
    exact key _ (by simp [wordsN]; omega) fun x hx => ⟨wordsN_word h he x hx, wordsN_size h he x hx⟩
theorem rows_len (P : Pln) : (rowsT P).length = 1 + P.es.length + P.js.length + P.ss.length + P.ls.length := by
  unfold rowsT
  simp only [List.length_cons, List.length_append, List.length_map]
  omega
theorem map_szm {α : Type} (m : Nat) (f : α → List ByteArray) (c : Nat) (L : List α) (hc : ∀ a ∈ L, (f a).length ≤ c ∧ ∀ x ∈ f a, x.size ≤ m) : (unl (L.map fun a => jnW (f a))).size ≤ ((m + 1) * c + 1) * L.length := by
  have := unl_szm (L.map fun a => jnW (f a)) ((m + 1) * c) fun x hx => by
    obtain ⟨a, ha, rfl⟩ := List.mem_map.1 hx
    have := jnW_szm m (f a) (hc a ha).2
    exact Nat.le_trans this (Nat.mul_le_mul_left _ (hc a ha).1)
  rwa [List.length_map] at this
theorem print_size {P : Pln} (h : chk P = 0) : (printT P).size ≤ 10000 := by
  obtain ⟨⟨b1, b2, b3, b4⟩, -⟩ := fine_all h
  unfold printT rowsT
  have h0 : (unl [jnW (wordsH P)]).size ≤ 67 := by
    have a := jnW_szm 10 (wordsH P) (wordsH_size h)
    have b := unl_szm [jnW (wordsH P)] 66 fun x hx => by
      rw [List.mem_singleton] at hx; subst hx
      simpa [wordsH] using a
    simpa using b
  have h1 := map_szm 10 wordsE 3 P.es fun e he => ⟨by unfold wordsE; split <;> simp, fun x hx => (wordsE_word h he x hx).2⟩
  have h2 := map_szm 10 (wordsJ P) 3 P.js fun e he => ⟨by simp [wordsJ], fun x hx => (wordsJ_word h he x hx).2⟩
  have h3 := map_szm 10 (wordsG P) 4 P.ss fun e he => ⟨by unfold wordsG; split <;> simp, fun x hx => (wordsG_word h he x hx).2⟩
  have h4 := map_szm 10 (wordsN P) 42 P.ls fun e he => ⟨by have := (line_parts h he).2.2.1; simp [wordsN]; omega, fun x hx => wordsN_size h he x hx⟩
  rw [show ∀ (a : ByteArray) (L : List ByteArray), a :: L = [a] ++ L from fun a L => rfl, unl_join, unl_join, unl_join, unl_join]
  simp only [size_app]
  omega
theorem lnB_printT {P : Pln} (h : chk P = 0) : lnB (printT P) = rowsT P := lnB_unl _ fun x hx => (rows_line h x hx).1
theorem parT_print {P : Pln} (h : chk P = 0) : parT (printT P) = (P, (1 + P.es.length + P.js.length + P.ss.length + P.ls.length : Int), 0) := by
  have hs := print_size h
  rw [parT_good (P := P) (by omega) (by rw [lnB_printT h]; exact prg_print h), if_pos h, lnB_printT h, rows_len]
  push_cast
  rfl
end Go.Proofs.YtknmngejjoohdaaGreatDoor
namespace Go.Proofs.YtknmngejjoohdaaGreatDoor
open Go.ChangeShapes Go.WideShapes Go.ChangeAt Go.RowKit Go.Maps
set_option linter.unusedVariables false
set_option linter.unusedSimpArgs false
theorem vals_lit (w : World) (W : List ByteArray) (T : TypeId) (h : W.length ≤ maxLen) : IsVals (w.alloc (.cells (W.map Value.string).toArray T)) (.slice (some ⟨w.heap.size, 0, none⟩) W.length W.length) (W.map Value.string) := by
  refine ⟨_, W.length, by rw [List.length_map], by rw [List.length_map]; exact h, .inr ⟨w.heap.size, 0, rfl, by simp, fun i x hi => ?_⟩⟩
  rw [World.cell?_alloc_mark]
  simpa using hi
theorem say_lit {b B : Nat} {L : List ByteArray} {w0 w' : World} (W : List ByteArray) (hb : w0.heap.size ≤ b) (g : Gr w0 w') (hS : SayS b B w' L) (hne : W ≠ []) (hs : (jnW W).size ≤ 1000000) (hl : W.length ≤ 1000) (hL : L.length ≤ 100000) :
    Calls Tryz.prog 69 #[.slice (some ⟨w'.heap.size, 0, none⟩) W.length W.length, .pointer (some ⟨b, 0, none⟩)] (w'.alloc (.cells (W.map Value.string).toArray 9)) fun e w'' => e = .returned (.tuple #[]) ∧ Gr w0 w'' ∧ SayS b B w'' (L ++ [jnW W ++ ⟨#[10]⟩]) ∧ Kept b (w'.alloc (.cells (W.map Value.string).toArray 9)) w'' :=
  say_any b B _ W L w0 _ hb (g.alloc _) (vals_lit w' W _ (by unfold maxLen; omega)) (fun a n c e => by cases e; exact Nat.le_refl _) hne hs hl hL (hS.gr ((Gr.refl _).alloc _))
theorem own_cap2 {B : Nat} {w : World} {e : TypeId} {sz n : Nat} {v : Value} {xs : List Value} (h : w.ownsRow B e sz v n xs) : CapOk v := by
  intro a m c e
  rcases h.2 with ⟨rfl, h0⟩ | ⟨g, cap, cur, rfl, _, _, hc, _⟩
  · cases e; omega
  · cases e; exact hc
theorem say_own {b B B' : Nat} {v : Value} {L : List ByteArray} {w0 w' : World} (W : List ByteArray) (hb : w0.heap.size ≤ b) (g : Gr w0 w') (hS : SayS b B w' L) (hO : OwnS B' w' v W) (hne : W ≠ []) (hs : (jnW W).size ≤ 1000000) (hl : W.length ≤ 1000) (hL : L.length ≤ 100000) :
    Calls Tryz.prog 69 #[v, .pointer (some ⟨b, 0, none⟩)] w' fun e w'' => e = .returned (.tuple #[]) ∧ Gr w0 w'' ∧ SayS b B w'' (L ++ [jnW W ++ ⟨#[10]⟩]) ∧ Kept b w' w'' :=
  say_any b B _ W L w0 _ hb g (hO.vals (by unfold maxLen; omega)) (own_cap2 hO) hne hs hl hL hS
def rowsN (P : Pln) (k : Nat) : List ByteArray := ((rowsT P).take k).map (· ++ ⟨#[10]⟩)
theorem rowsN_succ {P : Pln} {k : Nat} {x : ByteArray} (h : (rowsT P)[k]? = some x) : rowsN P (k + 1) = rowsN P k ++ [x ++ ⟨#[10]⟩] := by
  obtain ⟨hk, rfl⟩ := List.getElem?_eq_some_iff.1 h
  unfold rowsN
  rw [List.take_succ_eq_append_getElem hk, List.map_append]; rfl
theorem rowsN_len (P : Pln) (k : Nat) : (rowsN P k).length ≤ k := by
  unfold rowsN; simp; omega
theorem rowsT_0 (P : Pln) : (rowsT P)[0]? = some (jnW (wordsH P)) := rfl
theorem rowsT_e {P : Pln} {k : Nat} (h : k < P.es.length) : (rowsT P)[1 + k]? = some (jnW (wordsE P.es[k])) := by
  unfold rowsT
  rw [show 1 + k = k + 1 from by omega, List.getElem?_cons_succ, List.append_assoc, List.append_assoc, List.getElem?_append_left (by simpa using h)]
  simp [h]
theorem rowsT_j {P : Pln} {k : Nat} (h : k < P.js.length) : (rowsT P)[1 + P.es.length + k]? = some (jnW (wordsJ P P.js[k])) := by
  unfold rowsT
  rw [show 1 + P.es.length + k = P.es.length + k + 1 from by omega, List.getElem?_cons_succ, List.append_assoc, List.append_assoc, List.getElem?_append_right (by simp), List.getElem?_append_left (by simp <;> omega)]
  simp [h]
theorem rowsT_s {P : Pln} {k : Nat} (h : k < P.ss.length) : (rowsT P)[1 + P.es.length + P.js.length + k]? = some (jnW (wordsG P P.ss[k])) := by
  unfold rowsT
  rw [show 1 + P.es.length + P.js.length + k = P.es.length + P.js.length + k + 1 from by omega, List.getElem?_cons_succ, List.append_assoc, List.getElem?_append_right (by simp <;> omega), List.getElem?_append_left (by simp <;> omega)]
  simp only [List.length_append, List.length_map]
  rw [show P.es.length + P.js.length + k - (P.es.length + P.js.length) = k from by omega]
  simp [h]
theorem rowsT_l {P : Pln} {k : Nat} (h : k < P.ls.length) : (rowsT P)[1 + P.es.length + P.js.length + P.ss.length + k]? = some (jnW (wordsN P P.ls[k])) := by
  unfold rowsT
  rw [show 1 + P.es.length + P.js.length + P.ss.length + k = P.es.length + P.js.length + P.ss.length + k + 1 from by omega, List.getElem?_cons_succ, List.getElem?_append_right (by simp <;> omega)]
  simp only [List.length_append, List.length_map]
  rw [show P.es.length + P.js.length + P.ss.length + k - (P.es.length + P.js.length + P.ss.length) = k from by omega]
  simp [h]
theorem rowsN_all (P : Pln) : rowsN P (1 + P.es.length + P.js.length + P.ss.length + P.ls.length) = (rowsT P).map (· ++ ⟨#[10]⟩) := by
  unfold rowsN
  rw [List.take_of_length_le (by rw [rows_len]; omega)]
theorem join_rows (X : List ByteArray) : (⟨(Lib.join ((X.map (· ++ ⟨#[10]⟩)).map (·.data.toList)) []).toArray⟩ : ByteArray) = unl X := by
  have key : ∀ a b : ByteArray, a.data.toList = b.data.toList → a = b := fun a b h => ByteArray.ext (Array.toList_inj.1 h)
  refine key _ _ ?_
  rw [unl_data]
  show Lib.join _ [] = _
  induction X with
  | nil => rfl
  | cons x t ih =>
    cases t with
    | nil => simp [Lib.join, app_data]
    | cons y u =>
      have e : ∀ (p q : List UInt8) (r : List (List UInt8)), Lib.join (p :: q :: r) [] = p ++ Lib.join (q :: r) [] := fun p q r => by simp [Lib.join, List.intercalate, List.intersperse]
      simp only [List.map_cons] at ih ⊢
      rw [e, ih]
      simp [app_data]
theorem join_all {b B : Nat} {w : World} {X : List ByteArray} {v : Value} (hO : OwnS B w v (X.map (· ++ ⟨#[10]⟩))) (hne : X ≠ []) (hs : (unl X).size ≤ 1000000) (hl : X.length ≤ 1000) :
    Calls Tryz.prog 56 #[v, .string ⟨#[]⟩] w fun e w' => e = .returned (.string (unl X)) ∧ Gr w w' := by
  have hcp : ∀ a n c, v = .slice a n c → n ≤ c := own_cap2 hO
  obtain ⟨a', c', e', -, hx⟩ := hO.vals (by unfold maxLen; simp; omega)
  rw [List.length_map, List.length_map] at e'
  subst e'
  rcases hx with hx | ⟨bb, o, rfl, hbb, hcell⟩
  · exact absurd (List.length_eq_zero_iff.1 (by simpa using hx)) hne
  have hj := join_rows X
  have := Tryz.strings_Join bb o c' (X.map (· ++ ⟨#[10]⟩)) ⟨#[]⟩ w (fun j x hj => hcell j _ (by rw [List.getElem?_map, hj]; rfl)) hbb (by
    have := List.length_pos_iff.2 hne; simp; omega) (by have := hcp _ _ _ rfl; simpa using this) (by
      have h1 : (Lib.join ((X.map (· ++ ⟨#[10]⟩)).map (·.data.toList)) []).length = (unl X).size := by rw [← hj]; rfl
      show (Lib.join _ []).length ≤ _
      rw [h1]; omega)
  rw [← hj]
  rw [List.length_map] at this
  exact this
end Go.Proofs.YtknmngejjoohdaaGreatDoor
namespace Go.Proofs.YtknmngejjoohdaaGreatDoor
open Go.ChangeShapes Go.WideShapes Go.ChangeAt Go.RowKit Go.Maps
set_option linter.unusedVariables false
set_option linter.unusedSimpArgs false
theorem bt_46 {s : ByteArray} {k : Nat} (hk : k < s.size) : bt s k = 46 ↔ s.data.toList[k]? = some 46 := by
  have hl : s.data.toList.length = s.size := by simp
  rw [List.getElem?_eq_getElem (by omega)]
  unfold bt
  rw [List.getD_eq_getElem?_getD, List.getElem?_eq_getElem (by omega)]
  simp only [Option.getD_some, Option.some.injEq]
  constructor
  · intro e
    apply UInt8.toNat_inj.1
    show _ = 46
    omega
  · intro e; rw [e]; rfl
theorem port_none {s : ByteArray} (h : Lib.indexByte s.data.toList 46 = -1) : portB s = false := by
  cases hp : portB s with
  | false => rfl
  | true =>
    unfold portB at hp
    simp only [Bool.and_eq_true, decide_eq_true_eq] at hp
    exact absurd ((bt_46 (by omega)).1 hp.1.1.2) (Lib.indexByte_none h _)
theorem nm_nodot {n : ByteArray} (h : nmB n = true) {k : Nat} (hk : k < n.size) : bt n k ≠ 46 := by
  unfold nmB at h
  simp only [Bool.and_eq_true, List.all_eq_true] at h
  have := (okc_iff k (bt n k)).1 (h.2 k (List.mem_range.2 hk))
  omega
theorem port_at {s : ByteArray} {i : Nat} (h : Lib.indexByte s.data.toList 46 = i) (hi : i < s.size) :
    portB s = (nmB (s.extract 0 i) && numB (s.extract (i + 1) s.size) 1) ∧ (portB s = true → portNm s = s.extract 0 i ∧ portEn s = numN (s.extract (i + 1) s.size) 1) := by
  obtain ⟨h1, h2⟩ := Lib.indexByte_some h
  have hd : bt s i = 46 := (bt_46 hi).2 h1
  have hz : (s.extract (i + 1) s.size).size = s.size - (i + 1) := by rw [ByteArray.size_extract]; omega
  have key : portB s = true → i = s.size - 2 ∧ 3 ≤ s.size := fun hp => by
    unfold portB at hp
    simp only [Bool.and_eq_true, decide_eq_true_eq] at hp
    obtain ⟨⟨⟨a, b⟩, c⟩, d⟩ := hp
    refine ⟨?_, a⟩
    rcases Nat.lt_trichotomy i (s.size - 2) with hlt | he | hgt
    · refine absurd ?_ (nm_nodot d (k := i) (by unfold portNm; rw [ByteArray.size_extract]; omega))
      unfold portNm
      rw [bt_extract _ _ _ _ (by omega) (by omega), Nat.zero_add]; exact hd
    · exact he
    · exact absurd ((bt_46 (by omega)).1 b) (h2 _ hgt)
  have dig : i = s.size - 2 → 3 ≤ s.size → (numB (s.extract (i + 1) s.size) 1 = dgB (bt s (s.size - 1))) ∧ (dgB (bt s (s.size - 1)) = true → numN (s.extract (i + 1) s.size) 1 = bt s (s.size - 1) - 48) := fun he h3 => by
    have h0 : bt (s.extract (i + 1) s.size) 0 = bt s (s.size - 1) := by
      rw [bt_extract _ _ _ _ (by omega) (by omega)]; congr 1; omega
    have hs1 : (s.extract (i + 1) s.size).size = 1 := by omega
    have hb : numB (s.extract (i + 1) s.size) 1 = dgB (bt s (s.size - 1)) := by
      rw [Bool.eq_iff_iff, numB_iff, dgB_iff, hs1]
      constructor
      · rintro ⟨-, -, -, -, -, hh⟩
        rw [← h0]; exact hh 0 (by omega)
      · intro hh
        refine ⟨by omega, by omega, by omega, by omega, by omega, fun j hj => ?_⟩
        obtain rfl : j = 0 := by omega
        rw [h0]; exact hh
    refine ⟨hb, fun hg => ?_⟩
    unfold numN
    rw [hb, if_pos hg, hs1]
    unfold nvB nvB
    rw [h0]; omega
  constructor
  · rw [Bool.eq_iff_iff]
    constructor
    · intro hp
      obtain ⟨he, h3⟩ := key hp
      have hp' := hp
      unfold portB at hp'
      simp only [Bool.and_eq_true, decide_eq_true_eq] at hp'
      rw [(dig he h3).1, hp'.1.2, Bool.and_true, he]
      exact hp'.2
    · intro hp
      rw [Bool.and_eq_true] at hp
      obtain ⟨a, b⟩ := hp
      have b' := (numB_iff _ _).1 b
      have n1 : 1 ≤ (s.extract 0 i).size := by unfold nmB at a; simp only [Bool.and_eq_true, decide_eq_true_eq] at a; exact a.1.1
      rw [ByteArray.size_extract] at n1
      have he : i = s.size - 2 := by omega
      have h3 : 3 ≤ s.size := by omega
      rw [(dig he h3).1] at b
      unfold portB portNm
      rw [← he, hd, b, a, decide_eq_true h3]; rfl
  · intro hp
    obtain ⟨he, h3⟩ := key hp
    have hp' := hp
    unfold portB at hp'
    simp only [Bool.and_eq_true, decide_eq_true_eq] at hp'
    refine ⟨by unfold portNm; rw [he], ?_⟩
    rw [(dig he h3).2 hp'.1.2]; rfl
end Go.Proofs.YtknmngejjoohdaaGreatDoor
