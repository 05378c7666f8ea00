/- DrV: A plan that may be, as a text: the lines of tracks, the first line, the whole, its length. Plain.
DrW: A plan that may be, as a text: its lines, how long it is, and that it is read as it was. Plain.
DrB: draft.Print's closure: one line more. -/
import Derived.Test.YtjblplflgiibdaaDoorRows
import Derived.Test.YtjblplflgiibdaaDoorB17
import Derived.Test.YtjblplflgiibdaaDoorB15
import Derived.Test.YtjblplflgiibdaaDoorB16
import Derived.Test.YtjblplflgiibdaaDoorB3
import Derived.Deep.RegionLaw
import Derived.Deep.AppendLies
namespace Go.Proofs.YtjblplflgiibdaaDoor
open Go.ChangeShapes Go.WideShapes Go.ChangeAt Go.RowKit Go.Maps
set_option linter.unusedVariables false
set_option linter.unusedSimpArgs false
theorem nodup_len : ∀ (n : Nat) (l : List Int), l.Nodup → (∀ e ∈ l, 0 ≤ e ∧ e < n) → l.length ≤ n
  | 0, [], _, _ => by simp
  | 0, e :: t, _, h => by have := h e (by simp); omega
  | n + 1, l, hd, h => by
    have ih := nodup_len n (l.erase n) (hd.erase _) fun e he => by
      have h1 := h e (List.mem_of_mem_erase he)
      have h2 : e ≠ n := by
        intro e'
        subst e'
        exact absurd he (hd.not_mem_erase)
      omega
    by_cases hm : (n : Int) ∈ l
    · rw [List.length_erase_of_mem hm] at ih; omega
    · rw [List.erase_of_not_mem hm] at ih; omega
theorem line_parts {P : Pln} (h : chk P = 0) {l : Ln} (hl : l ∈ P.ls) : nmB l.n = true ∧ l.es ≠ [] ∧ l.es.length ≤ 40 ∧ ∀ e ∈ l.es, 0 ≤ e ∧ e < P.es.length := by
  obtain ⟨hz, -, -, -, hn, -, -, -, -, -, hL⟩ := fine_all h
  unfold linesB at hL
  simp only [Bool.and_eq_true, List.all_eq_true, decide_eq_true_eq, Bool.not_eq_true', decide_eq_false_iff_not] at hL
  have hb : ∀ e ∈ l.es, 0 ≤ e ∧ e < P.es.length := fun e he => by
    have := (hL.2 l hl).1.2 e he
    unfold kindP at this
    split at this
    · assumption
    · omega
  have hd : l.es.Nodup := by
    have := hL.1
    obtain ⟨A, B, e⟩ := List.append_of_mem hl
    rw [e, List.flatMap_append, List.flatMap_cons] at this
    exact (List.nodup_append.1 (List.nodup_append.1 this).2.1).1
  have := nodup_len P.es.length l.es hd hb
  refine ⟨hn l hl, fun e => (hL.2 l hl).1.1 (by rw [e]; rfl), by omega, hb⟩
theorem wordsN_word {P : Pln} (h : chk P = 0) {l : Ln} (hl : l ∈ P.ls) : ∀ x ∈ wordsN P l, wordB x := by
  obtain ⟨hn, -, -, hb⟩ := line_parts h hl
  intro x hx
  unfold wordsN at hx
  simp only [List.mem_cons, List.mem_map] at hx
  rcases hx with rfl | rfl | ⟨e, he, rfl⟩
  · exact wordB_of (by decide) (by decide)
  · exact nm_word hn
  · exact nm_word (ele_self h (hb e he).1 (hb e he).2).2
theorem take_l {P : Pln} (h : chk P = 0) {l : Ln} (hl : l ∈ P.ls) (Q : Pln) (hq : Q.es = P.es) : takeT (some Q) (jnW (wordsN P l)) = .inr (some { Q with ls := Q.ls ++ [l] }) := by
  obtain ⟨hn, hne, h40, hb⟩ := line_parts h hl
  have hw := wordsN_word h hl
  have he : ∀ e ∈ l.es, eleN Q (P.es.getD e.toNat default).n = e ∧ nmB (P.es.getD e.toNat default).n = true := fun e he => by
    have := ele_self h (hb e he).1 (hb e he).2
    unfold eleN at *
    rw [hq]; exact this
  unfold wordsN at hw ⊢
  rw [take_words (by decide) (by decide) hw]
  unfold takeW rowW
  dsimp only
  rw [if_neg (by decide), if_neg (by decide), if_neg (by decide), if_pos rfl]
  unfold lineWd
  dsimp only
  have hm : (l.es.map fun e => (P.es.getD e.toNat default).n).map (eleN Q) = l.es := by
    rw [List.map_map]
    conv => rhs; rw [← List.map_id l.es]
    exact List.map_congr_left fun e hx => (he e hx).1
  rw [if_neg, if_neg, hm]
  · simp only [List.any_eq_true, List.mem_map, decide_eq_true_eq]
    rintro ⟨x, ⟨e, hx, rfl⟩, hlt⟩
    rw [(he e hx).1] at hlt
    have := (hb e hx).1
    omega
  · rintro (e | e | e)
    · exact hne (by simpa using e)
    · rw [List.length_map] at e; omega
    · have : ((l.n :: l.es.map fun e => (P.es.getD e.toNat default).n).all nmB) = true := by
        rw [List.all_eq_true]
        intro x hx
        simp only [List.mem_cons, List.mem_map] at hx
        rcases hx with rfl | ⟨e, hx, rfl⟩
        · exact hn
        · exact (he e hx).2
      rw [this] at e; cases e
theorem nums_in {P : Pln} (h : chk P = 0) : (1 ≤ P.top ∧ P.top ≤ 60) ∧ (1 ≤ P.brake ∧ P.brake ≤ 10) ∧ (1 ≤ P.margin ∧ P.margin ≤ 4000) ∧ (1 ≤ P.throw ∧ P.throw ≤ 20) := by
  have := (fine_all h).2.1
  unfold numsB inB at this
  simp only [Bool.and_eq_true, decide_eq_true_eq] at this
  exact ⟨this.1.1.1.1, this.1.1.1.2, this.1.1.2, this.1.2⟩
theorem hard_word (b : Bool) : wordB (if b = true then bHard else bSoft) ∧ (if b = true then bHard else bSoft).size ≤ 4 := by
  cases b <;> exact ⟨wordB_of (by decide) (by decide), by decide⟩
theorem wordsH_word {P : Pln} (h : chk P = 0) : ∀ x ∈ wordsH P, wordB x := by
  obtain ⟨h1, h2, h3, h4⟩ := nums_in h
  intro x hx
  unfold wordsH at hx
  simp only [List.mem_cons, List.not_mem_nil, or_false] at hx
  rcases hx with rfl | rfl | rfl | rfl | rfl | rfl
  · exact wordB_of (by decide) (by decide)
  · exact dgs_word _ (by omega) (by omega)
  · exact dgs_word _ (by omega) (by omega)
  · exact dgs_word _ (by omega) (by omega)
  · exact dgs_word _ (by omega) (by omega)
  · exact (hard_word _).1
def plnH (P : Pln) : Pln := { pln0 with top := P.top, brake := P.brake, margin := P.margin, throw := P.throw, hard := P.hard }
theorem take_h {P : Pln} (h : chk P = 0) : takeT none (jnW (wordsH P)) = .inr (some (plnH P)) := by
  obtain ⟨h1, h2, h3, h4⟩ := nums_in h
  have hw := wordsH_word h
  have a1 := num5 (n := P.top) (by omega) (by omega)
  have a2 := num5 (n := P.brake) (by omega) (by omega)
  have a3 := num5 (n := P.margin) (by omega) (by omega)
  have a4 := num5 (n := P.throw) (by omega) (by omega)
  unfold wordsH at hw ⊢
  rw [take_words (by decide) (by decide) hw]
  unfold takeW headW
  dsimp only
  rw [if_pos ⟨rfl, by cases P.hard <;> simp, a1.1, a2.1, a3.1, a4.1⟩, a1.2, a2.2, a3.2, a4.2]
  have : decide ((if P.hard = true then bHard else bSoft) = bHard) = P.hard := by cases P.hard <;> decide
  rw [this]
  rfl
theorem prg_print {P : Pln} (h : chk P = 0) : prgT (rowsT P) 0 none = .inr (some P) := by
  unfold rowsT
  rw [prgT_cons, take_h h]
  dsimp only
  rw [prgT_append, prgT_append, prgT_append]
  have e1 := prg_fold (fun e => jnW (wordsE e)) (fun A => { plnH P with es := A }) P.es [] (0 + 1) fun x hx A => take_e h hx _
  have e2 := fun i => prg_fold (fun j => jnW (wordsJ P j)) (fun A => { plnH P with es := P.es, js := A }) P.js [] i fun x hx A => take_j h hx _ rfl
  have e3 := fun i => prg_fold (fun j => jnW (wordsG P j)) (fun A => { plnH P with es := P.es, js := P.js, ss := A }) P.ss [] i fun x hx A => take_s h hx _ rfl
  have e4 := fun i => prg_fold (fun j => jnW (wordsN P j)) (fun A => { plnH P with es := P.es, js := P.js, ss := P.ss, ls := A }) P.ls [] i fun x hx A => take_l h hx _ rfl
  have e1' : prgT (P.es.map fun e => jnW (wordsE e)) (0 + 1) (some (plnH P)) = .inr (some { plnH P with es := P.es }) := e1
  rw [e1']
  dsimp only
  have e2' : ∀ i, prgT (P.js.map fun e => jnW (wordsJ P e)) i (some { plnH P with es := P.es }) = .inr (some { plnH P with es := P.es, js := P.js }) := e2
  rw [e2']
  dsimp only
  have e3' : ∀ i, prgT (P.ss.map fun e => jnW (wordsG P e)) i (some { plnH P with es := P.es, js := P.js }) = .inr (some { plnH P with es := P.es, js := P.js, ss := P.ss }) := e3
  rw [e3']
  dsimp only
  have e4' : ∀ i, prgT (P.ls.map fun e => jnW (wordsN P e)) i (some { plnH P with es := P.es, js := P.js, ss := P.ss }) = .inr (some { plnH P with es := P.es, js := P.js, ss := P.ss, ls := P.ls }) := e4
  rw [e4']
  rfl
end Go.Proofs.YtjblplflgiibdaaDoor
namespace Go.Proofs.YtjblplflgiibdaaDoor
open Go.ChangeShapes Go.WideShapes Go.ChangeAt Go.RowKit Go.Maps
set_option linter.unusedVariables false
set_option linter.unusedSimpArgs false
theorem jnW_lone (b : ByteArray) : jnW [b] = b := by
  show (⟨(Lib.join [b.data.toList] [32]).toArray⟩ : ByteArray) = b
  rw [Lib.join_one]
theorem jnW_szm (m : Nat) : ∀ (L : List ByteArray), (∀ x ∈ L, x.size ≤ m) → (jnW L).size ≤ (m + 1) * L.length
  | [], _ => by rw [List.length_nil, Nat.mul_zero]; decide
  | [b], h => by
    have := h b (by simp)
    rw [jnW_lone]
    simp only [List.length_cons, List.length_nil]
    omega
  | b :: a :: t, h => by
    have h0 := h b (by simp)
    have ih := jnW_szm m (a :: t) fun x hx => h x (List.mem_cons_of_mem _ hx)
    have h1 : (⟨#[32]⟩ : ByteArray).size = 1 := rfl
    rw [jnW_cons]
    simp only [size_app, h1, List.length_cons] at ih ⊢
    rw [Nat.mul_add] at ih ⊢
    rw [Nat.mul_add]
    omega
theorem unl_szm : ∀ (L : List ByteArray) (m : Nat), (∀ x ∈ L, x.size ≤ m) → (unl L).size ≤ (m + 1) * L.length
  | [], m, _ => by show (0 : Nat) ≤ _; omega
  | x :: t, m, h => by
    have h0 := h x (by simp)
    have ih := unl_szm t m fun y hy => h y (List.mem_cons_of_mem _ hy)
    have h1 : (⟨#[10]⟩ : ByteArray).size = 1 := rfl
    unfold unl
    simp only [size_app, h1, List.length_cons]
    rw [Nat.mul_add]
    omega
theorem unl_join : ∀ (A B : List ByteArray), unl (A ++ B) = unl A ++ unl B
  | [], B => by
    show unl B = (⟨#[]⟩ : ByteArray) ++ unl B
    apply ByteArray.ext; simp [ByteArray.data_append]
  | x :: t, B => by
    show x ++ ⟨#[10]⟩ ++ unl (t ++ B) = x ++ ⟨#[10]⟩ ++ unl t ++ unl B
    rw [unl_join t B]
    apply ByteArray.ext; simp [ByteArray.data_append]
theorem dgs5_size {n : Int} (h0 : 0 ≤ n) (h1 : n < 100000) : (dgs n).size ≤ 5 := by
  have h := (dgs_spec 4 n h0 (by simpa using h1)).2.1
  omega
theorem wordsE_word {P : Pln} (h : chk P = 0) {e : Ele} (he : e ∈ P.es) : ∀ x ∈ wordsE e, wordB x ∧ x.size ≤ 10 := by
  obtain ⟨hn, hk, h0, h1, h2, h3⟩ := fine_ele h e he
  have hz := nm_size hn
  have kk := kind_word e.k
  have d5 := dgs5_size h0 (by omega)
  intro x hx
  unfold wordsE at hx
  split at hx <;> simp only [List.mem_cons, List.not_mem_nil, or_false] at hx
  · rcases hx with rfl | rfl
    · exact ⟨wordB_of (by decide) (by decide), by decide⟩
    · exact ⟨nm_word hn, by omega⟩
  · rcases hx with rfl | rfl | rfl
    · exact ⟨kk.1, by omega⟩
    · exact ⟨nm_word hn, by omega⟩
    · exact ⟨dgs_word _ h0 (by omega), by omega⟩
theorem wordsJ_word {P : Pln} (h : chk P = 0) {j : Jn} (hj : j ∈ P.js) : ∀ x ∈ wordsJ P j, wordB x ∧ x.size ≤ 10 := by
  obtain ⟨pa, pb⟩ := (ports_ok h).1 j hj
  intro x hx
  simp only [wordsJ, List.mem_cons, List.not_mem_nil, or_false] at hx
  rcases hx with rfl | rfl | rfl
  · exact ⟨wordB_of (by decide) (by decide), by decide⟩
  · exact told_word h pa
  · exact told_word h pb
theorem wordsG_word {P : Pln} (h : chk P = 0) {s : Sg} (hs : s ∈ P.ss) : ∀ x ∈ wordsG P s, wordB x ∧ x.size ≤ 10 := by
  have pa := (ports_ok h).2 s hs
  have hn := (fine_all h).2.2.2.1 s hs
  have hz := nm_size hn
  intro x hx
  unfold wordsG at hx
  rcases List.mem_append.1 hx with hx | hx
  · simp only [List.mem_cons, List.not_mem_nil, or_false] at hx
    rcases hx with rfl | rfl | rfl
    · exact ⟨wordB_of (by decide) (by decide), by decide⟩
    · exact ⟨nm_word hn, by omega⟩
    · exact told_word h pa
  · split at hx
    · simp only [List.mem_cons, List.not_mem_nil, or_false] at hx
      subst hx
      exact ⟨wordB_of (by decide) (by decide), by decide⟩
    · cases hx
theorem wordsN_size {P : Pln} (h : chk P = 0) {l : Ln} (hl : l ∈ P.ls) : ∀ x ∈ wordsN P l, x.size ≤ 10 := by
  obtain ⟨hn, -, -, hb⟩ := line_parts h hl
  intro x hx
  unfold wordsN at hx
  simp only [List.mem_cons, List.mem_map] at hx
  rcases hx with rfl | rfl | ⟨e, he, rfl⟩
  · decide
  · have := nm_size hn; omega
  · have := nm_size (ele_self h (hb e he).1 (hb e he).2).2; omega
theorem wordsH_size {P : Pln} (h : chk P = 0) : ∀ x ∈ wordsH P, x.size ≤ 10 := by
  obtain ⟨h1, h2, h3, h4⟩ := nums_in h
  have a1 := dgs5_size (n := P.top) (by omega) (by omega)
  have a2 := dgs5_size (n := P.brake) (by omega) (by omega)
  have a3 := dgs5_size (n := P.margin) (by omega) (by omega)
  have a4 := dgs5_size (n := P.throw) (by omega) (by omega)
  have a5 := (hard_word P.hard).2
  intro x hx
  unfold wordsH at hx
  simp only [List.mem_cons, List.not_mem_nil, or_false] at hx
  rcases hx with rfl | rfl | rfl | rfl | rfl | rfl
  · decide
  all_goals omega
theorem rows_line {P : Pln} (h : chk P = 0) : ∀ x ∈ rowsT P, lineB x ∧ x.size ≤ 500 := by
  have key : ∀ L : List ByteArray, L.length ≤ 42 → (∀ x ∈ L, wordB x ∧ x.size ≤ 10) → lineB (jnW L) ∧ (jnW L).size ≤ 500 := fun L hl hw => by
    have := jnW_szm 10 L fun x hx => (hw x hx).2
    exact ⟨jnW_line _ fun y hy => word_line (hw y hy).1, by omega⟩
  intro x hx
  unfold rowsT at hx
  simp only [List.mem_cons, List.mem_append, List.mem_map] at hx
  rcases hx with rfl | ((⟨e, he, rfl⟩ | ⟨e, he, rfl⟩) | ⟨e, he, rfl⟩) | ⟨e, he, rfl⟩
  · exact key _ (by simp [wordsH]) fun x hx => ⟨wordsH_word h x hx, wordsH_size h x hx⟩
  · exact key _ (by unfold wordsE; split <;> simp) (wordsE_word h he)
  · exact key _ (by simp [wordsJ]) (wordsJ_word h he)
  · exact key _ (by unfold wordsG; split <;> simp) (wordsG_word h he)
  · obtain ⟨-, -, h40, -⟩ := line_parts h he
    exact key _ (by simp [wordsN]; omega) fun x hx => ⟨wordsN_word h he x hx, wordsN_size h he x hx⟩
theorem rows_len (P : Pln) : (rowsT P).length = 1 + P.es.length + P.js.length + P.ss.length + P.ls.length := by
  unfold rowsT
  simp only [List.length_cons, List.length_append, List.length_map]
  omega
theorem map_szm {α : Type} (m : Nat) (f : α → List ByteArray) (c : Nat) (L : List α) (hc : ∀ a ∈ L, (f a).length ≤ c ∧ ∀ x ∈ f a, x.size ≤ m) : (unl (L.map fun a => jnW (f a))).size ≤ ((m + 1) * c + 1) * L.length := by
  have := unl_szm (L.map fun a => jnW (f a)) ((m + 1) * c) fun x hx => by
    obtain ⟨a, ha, rfl⟩ := List.mem_map.1 hx
    have := jnW_szm m (f a) (hc a ha).2
    exact Nat.le_trans this (Nat.mul_le_mul_left _ (hc a ha).1)
  rwa [List.length_map] at this
theorem print_size {P : Pln} (h : chk P = 0) : (printT P).size ≤ 10000 := by
  obtain ⟨⟨b1, b2, b3, b4⟩, -⟩ := fine_all h
  unfold printT rowsT
  have h0 : (unl [jnW (wordsH P)]).size ≤ 67 := by
    have a := jnW_szm 10 (wordsH P) (wordsH_size h)
    have b := unl_szm [jnW (wordsH P)] 66 fun x hx => by
      rw [List.mem_singleton] at hx; subst hx
      simpa [wordsH] using a
    simpa using b
  have h1 := map_szm 10 wordsE 3 P.es fun e he => ⟨by unfold wordsE; split <;> simp, fun x hx => (wordsE_word h he x hx).2⟩
  have h2 := map_szm 10 (wordsJ P) 3 P.js fun e he => ⟨by simp [wordsJ], fun x hx => (wordsJ_word h he x hx).2⟩
  have h3 := map_szm 10 (wordsG P) 4 P.ss fun e he => ⟨by unfold wordsG; split <;> simp, fun x hx => (wordsG_word h he x hx).2⟩
  have h4 := map_szm 10 (wordsN P) 42 P.ls fun e he => ⟨by have := (line_parts h he).2.2.1; simp [wordsN]; omega, fun x hx => wordsN_size h he x hx⟩
  rw [show ∀ (a : ByteArray) (L : List ByteArray), a :: L = [a] ++ L from fun a L => rfl, unl_join, unl_join, unl_join, unl_join]
  simp only [size_app]
  omega
theorem lnB_printT {P : Pln} (h : chk P = 0) : lnB (printT P) = rowsT P := lnB_unl _ fun x hx => (rows_line h x hx).1
theorem parT_print {P : Pln} (h : chk P = 0) : parT (printT P) = (P, (1 + P.es.length + P.js.length + P.ss.length + P.ls.length : Int), 0) := by
  have hs := print_size h
  rw [parT_good (P := P) (by omega) (by rw [lnB_printT h]; exact prg_print h), if_pos h, lnB_printT h, rows_len]
  push_cast
  rfl
end Go.Proofs.YtjblplflgiibdaaDoor
namespace Go.Proofs.YtjblplflgiibdaaDoor
open Go.ChangeShapes Go.WideShapes Go.ChangeAt Go.RowKit Go.Maps
set_option linter.unusedVariables false
set_option linter.unusedSimpArgs false
def SayS (b B : Nat) (w : World) (L : List ByteArray) : Prop := b < B ∧ B ≤ w.heap.size ∧ ∃ v, w.heap[b]? = some (.cells #[v] 59) ∧ OwnS B w v L
theorem SayS.gr {b B : Nat} {w w' : World} {L : List ByteArray} (h : SayS b B w L) (g : Gr w w') : SayS b B w' L := by
  obtain ⟨h0, h1, v, h2, h3⟩ := h
  exact ⟨h0, Nat.le_trans h1 g.size, v, (g.block b (by omega)).trans h2, own_gr h3 g⟩
theorem SayS.new {w : World} : SayS w.heap.size (w.heap.size + 1) (w.alloc (.cells #[.slice none 0 0] 59)) [] :=
  ⟨Nat.lt_succ_self _, by simp, _, heap_alloc_new w _, OwnS.nil _ _⟩
def Kept (b : Nat) (w w' : World) : Prop := w.heap.size ≤ w'.heap.size ∧ ∀ k cs T, w.heap[k]? = some (.cells cs T) → T ≠ 9 → k ≠ b → w'.heap[k]? = some (.cells cs T)
theorem join_valsW {w : World} {v : Value} {L : List ByteArray} (hv : IsVals w v (L.map Value.string)) (hc : CapOk v) (hne : L ≠ []) (hs : (jnW L).size ≤ 1000000) (hl : L.length ≤ 1000) :
    Calls Tryd.prog 23 #[v, .string ⟨#[32]⟩] w fun e w' => e = .returned (.string (jnW L)) ∧ Gr w w' := by
  have hcp : ∀ a n c, v = .slice a n c → n ≤ c := hc
  obtain ⟨a', c', e', -, hx⟩ := hv
  rw [List.length_map] at e'
  subst e'
  rcases hx with hx | ⟨bb, o, rfl, hbb, hcell⟩
  · exact absurd (List.length_eq_zero_iff.1 (by simpa using hx)) hne
  have := Tryd.strings_Join bb o c' L ⟨#[32]⟩ w (fun j x hj => hcell j _ (by rw [List.getElem?_map, hj]; rfl)) hbb (by
    have := List.length_pos_iff.2 hne; omega) (hcp _ _ _ rfl) (by
      have h1 : (Lib.join (L.map (·.data.toList)) [32]).length = (jnW L).size := rfl
      show (Lib.join _ [32]).length ≤ _
      rw [h1]; omega)
  exact this
theorem say_end {b B : Nat} {W0 w w5 w9 : World} {L : List ByteArray} {x : ByteArray} {va : Option Addr} {vc gg cap : Nat} (hb : W0.heap.size ≤ b) (hbB : b < B) (hBz : B ≤ w.heap.size) (hO : OwnS B w (.slice va L.length vc) L) (hh : w.heap[b]? = some (.cells #[.slice va L.length vc] 59)) (g : Gr W0 w) (g5 : Gr w w5)
    (hgrow : w5.grownBy w9 (Value.slice va L.length vc).ownBlock) (hown : w9.ownsRow B 9 1 (.slice (some ⟨gg, 0, none⟩) (L.length + 1) cap) (L.length + 1) (L.map Value.string ++ [.string x])) :
    Gr W0 (w9.setCell ⟨b, 0, none⟩ (.slice (some ⟨gg, 0, none⟩) (L.length + 1) cap)) ∧ SayS b B (w9.setCell ⟨b, 0, none⟩ (.slice (some ⟨gg, 0, none⟩) (L.length + 1) cap)) (L ++ [x]) ∧ Kept b w (w9.setCell ⟨b, 0, none⟩ (.slice (some ⟨gg, 0, none⟩) (L.length + 1) cap)) := by
  have hne : (Value.slice va L.length vc).ownBlock ≠ some b := fun e' => (own_ne hO hh (by decide)) e'.symm
  have hb5 := (g5.block b (by omega)).trans hh
  have hb9 := (hgrow.block b (by have := g5.size; omega) (Ne.symm hne)).trans hb5
  refine ⟨(Gr.grown (g.trans g5) hgrow (own_base_le hO (by omega))).setCell hb _, ⟨hbB, ?_, _, heap_setCell_same w9 b 0 _ _ _ hb9, ?_⟩, ?_, ?_⟩
  · have := g5.size; have := hgrow.size; simp; omega
  · exact ownsRow_setCell_below (OwnS.snoc hown) hbB _
  · have := g5.size; have := hgrow.size; simp; omega
  · intro k cs T hk hT hkb
    have hk0 : k < w.heap.size := by
      rcases Nat.lt_or_ge k w.heap.size with h | h
      · exact h
      · rw [Array.getElem?_eq_none h] at hk; cases hk
    have h5 := (g5.block k hk0).trans hk
    have hn : some k ≠ (Value.slice va L.length vc).ownBlock := own_ne hO hk hT
    rw [heap_setCell_other _ _ _ _ (by exact hkb)]
    exact (hgrow.block k (by have := g5.size; omega) hn).trans h5
set_option maxRecDepth 100000 in
set_option maxHeartbeats 1000000 in
theorem say_any (b B : Nat) (v : Value) (W L : List ByteArray) (w0 w : World) (hb : w0.heap.size ≤ b) (g : Gr w0 w) (hv : IsVals w v (W.map Value.string)) (hc : CapOk v) (hne : W ≠ []) (hs : (jnW W).size ≤ 1000000) (hl : W.length ≤ 1000) (hL : L.length ≤ 100000) (hS : SayS b B w L) :
    Calls Tryd.prog 22 #[v, .pointer (some ⟨b, 0, none⟩)] w fun e w' => e = .returned (.tuple #[]) ∧ Gr w0 w' ∧ SayS b B w' (L ++ [jnW W ++ ⟨#[10]⟩]) ∧ Kept b w w' := by
  obtain ⟨hbB, hBz, u, hh, hO⟩ := hS
  have HJ := Lib.hid (fun (w' : World) (g : Gr w w') => join_valsW (hv.gr g) hc hne hs hl)
  obtain ⟨va, vc, rfl⟩ := own_form hO
  have hbz : b < w.heap.size := by omega
  have hfz : ∀ w', Gr w w' → w'.frozen? ⟨b, 0, none⟩ = false := fun w' g => by
    exact frozen_of_row w' b 0 _ _ ((g.block b hbz).trans hh)
  have hcl : ∀ w', Gr w w' → w'.cell? ⟨b, 0, none⟩ = some (.slice va L.length vc) := fun w' g => by
    rw [cell_of_row w' b 0 _ _ _ ((g.block b hbz).trans hh)]; rfl
  have c0 := hcl _ (Gr.refl w)
  have HCL := Lib.hid hcl
  have HFZ := Lib.hid hfz
  have HO := Lib.hid hO
  have HH := Lib.hid hh
  obtain ⟨i0, hi0, hi1, hi2, hi3⟩ := info_parts Tryd.infoS
  have hsz : (jnW W).size ≤ 1000000 := hs
  clear hcl hfz hO hh hv hc hs hl hne
  generalize jnW W = R at HJ hsz ⊢
  obtain ⟨x, rfl, hx⟩ : ∃ x, v = x ∧ True := ⟨v, rfl, trivial⟩
  have q1 : ¬ 9223372036854775807 < R.size + 1 := by omega
  have hne2 : (Value.slice va L.length vc).ownBlock ≠ some b := fun e' => (own_ne HO.out HH.out (by decide)) e'.symm
  clear c0
  have c0 := HCL.out _ (Gr.refl w)
  go_enter Tryd.func22, Tryd.ntmps22
  go_region_law (first | (go_simp; go_at_call 23; (with_reducible refine (HJ.out _ (Gr.refl _).drew).mono ?_); rintro e w5 ⟨rfl, g5⟩; have c5 := HCL.out w5 ((Gr.refl _).drew.trans g5); have f5 := HFZ.out w5 ((Gr.refl _).drew.trans g5); have z5 := Nat.lt_of_lt_of_le hbz ((Gr.refl w).drew.trans g5).size; try go_wp2_with fail) | (refine step_append_lies _ (by rfl) _ _ _ (by rfl) B 9 i0 _ 1 16 Tryd.underlying59 hi0 hi1 hi2 hi3 rfl (by decide) (.slice va L.length vc) L.length (L.map Value.string) (by rfl) ((own_gr HO.out ((Gr.refl _).drew.trans g5)).alloc _) ⟨w5.heap.size, 0, none⟩ 1 1 [.string (R ++ ⟨#[10]⟩)] (by rfl) (by rfl) (World.news_of_block (heap_alloc_new w5 _)) (by simp [Value.oneCell']) (by omega) (by unfold maxLen; omega) (by omega) (by have := ((Gr.refl w).drew.trans g5).size; simp; omega) (w5.heap.size + 1) (by simp) ?_; intro gg cap w9 hown hgrow hat hlt; have f9 := (hgrow.frozen_far ⟨b, 0, none⟩ (by simp; omega) (by simpa using Ne.symm hne2)); have c9 := (hgrow.cell_far ⟨b, 0, none⟩ (by simp; omega) (by simpa using Ne.symm hne2))))
  all_goals
    refine bodyPost_end (results_none rfl _ _ _) rfl ?_
    exact ⟨rfl, say_end hb hbB hBz HO.out HH.out g (((Gr.refl w).drew.trans g5).alloc _) hgrow hown⟩
end Go.Proofs.YtjblplflgiibdaaDoor
