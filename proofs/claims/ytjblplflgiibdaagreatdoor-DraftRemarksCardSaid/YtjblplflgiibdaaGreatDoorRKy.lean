/- What one more law needs of texts whose other parts lie in the bundles. -/
import Derived.Test.YtjblplflgiibdaaGreatDoorRKx
import Derived.Test.YtjblplflgiibdaaGreatDoorB8
import Derived.Test.YtjblplflgiibdaaGreatDoorB1
import Derived.Test.YtjblplflgiibdaaGreatDoorB10
import Derived.Test.YtjblplflgiibdaaGreatDoorRows
import Derived.Test.YtjblplflgiibdaaGreatDoorB9
import Derived.Test.YtjblplflgiibdaaGreatDoorRDrL
namespace Go.Proofs.YtjblplflgiibdaaGreatDoor
open Go.ChangeShapes Go.WideShapes Go.ChangeAt Go.RowKit
set_option linter.unusedVariables false
set_option linter.unusedSimpArgs false
open Go.ChangeShapes Go.WideShapes Go.ChangeAt Go.RowKit Go.Maps
def lnR (s : ByteArray) (f i : Nat) : List ByteArray := (lnsA (s.extract f i).data.toList (s.data.toList.drop i)).map toB
theorem seg_snoc (s : ByteArray) (f i : Nat) (hf : f ≤ i) (hi : i < s.size) : (s.extract f (i + 1)).data.toList = (s.extract f i).data.toList ++ [s[i]] := by
  have hl : s.data.toList.length = s.size := by simp
  rw [data_extract, data_extract, show i + 1 - f = (i - f) + 1 from by omega, List.take_add_one]
  congr 1
  rw [List.getElem?_drop, show f + (i - f) = i from by omega, List.getElem?_eq_getElem (by omega)]
  rfl
theorem drop_at (s : ByteArray) (i : Nat) (hi : i < s.size) : s.data.toList.drop i = s[i] :: s.data.toList.drop (i + 1) := by
  have hl : s.data.toList.length = s.size := by simp
  rw [List.drop_eq_getElem_cons (by omega)]
  rfl
theorem seg_nil (s : ByteArray) (f : Nat) : (s.extract f f).data.toList = [] := by rw [data_extract]; simp
theorem lnR_start (s : ByteArray) : lnR s 0 0 = lnB s := by unfold lnR lnB; rw [seg_nil]; rfl
theorem lnR_nl (s : ByteArray) (f i : Nat) (hf : f ≤ i) (hi : i < s.size) (h : s[i] = 10) : lnR s f i = s.extract f i :: lnR s (i + 1) (i + 1) := by
  unfold lnR
  rw [drop_at s i hi, seg_nil]
  simp only [lnsA, h, if_pos, List.map_cons, toB_data]
theorem lnR_step (s : ByteArray) (f i : Nat) (hf : f ≤ i) (hi : i < s.size) (h : s[i] ≠ 10) : lnR s f i = lnR s f (i + 1) := by
  unfold lnR
  rw [drop_at s i hi, seg_snoc s f i hf hi]
  simp only [lnsA, if_neg h]
theorem lnR_end (s : ByteArray) (f : Nat) (hf : f ≤ s.size) : lnR s f s.size = if f < s.size then [s.extract f s.size] else [] := by
  have hl : s.data.toList.length = s.size := by simp
  unfold lnR
  rw [List.drop_of_length_le (by omega)]
  by_cases h : f < s.size
  · have hne : (s.extract f s.size).data.toList ≠ [] := by
      intro e
      have := congrArg List.length e
      rw [data_extract] at this
      simp at this
      omega
    rw [if_pos h]
    simp only [lnsA, if_neg hne, List.map_cons, List.map_nil, toB_data]
  · rw [if_neg h, show f = s.size from by omega, seg_nil]; rfl
set_option maxHeartbeats 400000 in
theorem eleRef_any (v : Value) (P : Pln) (n : ByteArray) (w : World) (hP : IsPln w v P) :
    Calls Tryz.prog 18 #[v, .string n] w fun e w' => e = .returned (.int .i64 (eleN P n)) ∧ Gr w w' := by
  obtain ⟨a1, c1, a2, c2, a3, c3, a4, c4, rfl, h1, h2, h3, h4⟩ := hP
  have HL := Lib.hid h1
  obtain ⟨-, -, -, hm, -⟩ := HL.out
  unfold maxLen at hm
  have HB := Lib.hid (PBox.new w P (.slice a1 P.es.length c1) (.slice a2 P.js.length c2) (.slice a3 P.ss.length c3) (.slice a4 P.ls.length c4))
  have g1 : Gr w (w.alloc (.cells #[.slice a1 P.es.length c1, .slice a2 P.js.length c2, .slice a3 P.ss.length c3, .slice a4 P.ls.length c4, .int .i64 P.top, .int .i64 P.brake, .int .i64 P.margin, .int .i64 P.throw, .bool P.hard] 28)) := (Gr.refl _).alloc _
  have HF : Hid ((∀ k (hk : k < P.es.length), decide (P.es[k].n = n) = true → (∀ i (hi : i < P.es.length), i < k → decide (P.es[i].n = n) = false) → eleN P n = k) ∧ ((∀ i (hi : i < P.es.length), decide (P.es[i].n = n) = false) → eleN P n = -1)) := ⟨fun k hk h hn => fstN_go _ hk h hn, fun h => fstN_no _ h⟩
  generalize eleN P n = R at HF ⊢
  unfold plnV
  clear h1 h2 h3 h4
  go_enter Tryz.func18, Tryz.ntmps18
  go_wp2_with fail
  go_loopw [5] (fun x wr => ∃ k : Nat, x = .int .i64 k ∧ k ≤ P.es.length ∧ Gr (w.alloc (.cells #[.slice a1 P.es.length c1, .slice a2 P.js.length c2, .slice a3 P.ss.length c3, .slice a4 P.ls.length c4, .int .i64 P.top, .int .i64 P.brake, .int .i64 P.margin, .int .i64 P.throw, .bool P.hard] 28)) wr ∧ Hid (∀ i (hi : i < P.es.length), i < k → decide (P.es[i].n = n) = false)) (fun x _ => P.es.length - (intOf x).toNat)
  case atStart => exact ⟨0, rfl, Nat.zero_le _, Gr.refl _, fun i _ h => by omega⟩
  case round =>
    obtain ⟨k, rfl, hk, g, HA⟩ := hrel
    obtain ⟨zb, b0, b1, b2, b3, b4, b5, b6, b7, b8⟩ := HB.out.gr g
    by_cases hlt : k < P.es.length
    · have hk1 : (k : Int) < (P.es.length : Int) := by omega
      have hl2 := HL.out.gr (g1.trans g)
      obtain ⟨bb, o, hs, z, y0, y1, y2⟩ := IsEles.at hl2 k hlt
      subst hs
      have HY : Hid (decide (P.es[k].n = n) = true → R = k) := fun h => HF.out.1 k hlt h fun i hi hik => HA.out i hi hik
      have HN : Hid (decide (P.es[k].n = n) = false → ∀ i (hi : i < P.es.length), i < k + 1 → decide (P.es[i].n = n) = false) := fun h i hi hik => by
        by_cases e : i = k
        · subst e; exact h
        · exact HA.out i hi (by omega)
      clear HA hl2
      generalize P.es[k] = s at y0 y1 y2 HY HN
      obtain ⟨nm, ek, el⟩ := s
      dsimp only at y0 y1 y2 HY HN
      have hd := str_dec nm n
      cases hq : decide (nm = n)
      · rw [hq] at hd HN
        have HN2 := Lib.hid (HN.out rfl)
        clear HY HN hq
        go_wp2_with fail
        go_roundw
        case rel => exact ⟨k + 1, by go_num, hlt, g, HN2.out⟩
        case measure => simp [intOf]; omega
      · rw [hq] at hd HY
        have HY2 := Lib.hid (HY.out rfl)
        clear HY HN hq
        go_wp2_with fail
        go_ret
        exact ⟨ret_int HY2.out.symm, g1.trans g⟩
    · have hk1 : ¬ (k : Int) < (P.es.length : Int) := by omega
      have HR := Lib.hid (HF.out.2 fun i hi => HA.out i hi (by omega))
      go_wp2_with fail
      go_ret
      exact ⟨ret_int HR.out.symm, g1.trans g⟩
theorem lnsA_nl (acc Y : List UInt8) : lnsA acc (10 :: Y) = acc :: lnsA [] Y := by
  rw [lnsA, if_pos rfl]
theorem lnB_pre : ∀ (L : List ByteArray), (∀ x ∈ L, lineB x) → ∀ s, lnB (unl L ++ s) = L ++ lnB s
  | [], _, s => by
    show lnB ((⟨#[]⟩ : ByteArray) ++ s) = _
    have : (⟨#[]⟩ : ByteArray) ++ s = s := by apply ByteArray.ext; simp [ByteArray.data_append]
    rw [this]; rfl
  | x :: t, h, s => by
    have ih := lnB_pre t (fun y hy => h y (List.mem_cons_of_mem _ hy)) s
    unfold lnB at ih ⊢
    unfold unl
    rw [app_data, app_data, app_data, List.append_assoc, List.append_assoc, lnsA_pre _ _ _ (h x (by simp))]
    show (lnsA ([] ++ x.data.toList) (10 :: ((unl t).data.toList ++ s.data.toList))).map toB = _
    rw [lnsA_nl, List.map_cons, ← app_data, ih, List.nil_append, toB_data]; rfl
def rmL (a : Int) : List ByteArray := if a = 0 then [] else if a = 1 then [⟨#[]⟩] else if a = 2 then [⟨#[35, 32, 120]⟩] else [⟨#[35]⟩, ⟨#[]⟩]
def rmT (a : Int) : ByteArray := if a = 0 then ⟨#[]⟩ else if a = 1 then ⟨#[10]⟩ else if a = 2 then ⟨#[35, 32, 120, 10]⟩ else ⟨#[35, 10, 10]⟩
theorem rm_unl (a : Int) : unl (rmL a) = rmT a := by unfold rmL rmT; (repeat' split) <;> rfl
theorem rm_line (a : Int) : ∀ x ∈ rmL a, lineB x ∧ skipB x = true := by
  intro x hx
  unfold rmL at hx
  repeat' split at hx
  · cases hx
  · obtain rfl := List.mem_singleton.1 hx
    exact ⟨fun c hc => (by cases hc), by decide⟩
  · obtain rfl := List.mem_singleton.1 hx
    exact ⟨fun c hc => by simp at hc; rcases hc with rfl | rfl | rfl <;> decide, by decide⟩
  · simp only [List.mem_cons, List.not_mem_nil, or_false] at hx
    rcases hx with rfl | rfl
    · exact ⟨fun c hc => by simp at hc; subst hc; decide, by decide⟩
    · exact ⟨fun c hc => (by cases hc), by decide⟩
theorem rmT_size (a : Int) : (rmT a).size ≤ 4 := by unfold rmT; (repeat' split) <;> decide
def mixL (A : List Int) (X : List ByteArray) : Nat → List ByteArray
  | 0 => []
  | k + 1 => mixL A X k ++ ((if k < A.length then rmL (A.getD k 0 % 4) else []) ++ [X.getD k ⟨#[]⟩])
theorem mix_succ (A : List Int) (X : List ByteArray) (k : Nat) : mixL A X (k + 1) = mixL A X k ++ ((if k < A.length then rmL (A.getD k 0 % 4) else []) ++ [X.getD k ⟨#[]⟩]) := rfl
theorem mix_next_at {A : List Int} {X : List ByteArray} {k : Nat} (hA : k < A.length) (hX : k < X.length) : unl (mixL A X (k + 1)) = unl (mixL A X k) ++ rmT (A[k] % 4) ++ X[k] ++ ⟨#[10]⟩ := by
  rw [mix_succ, if_pos hA, unl_join, unl_join, rm_unl, unl_one]
  rw [List.getD_eq_getElem?_getD, List.getElem?_eq_getElem hA, List.getD_eq_getElem?_getD, List.getElem?_eq_getElem hX]
  simp only [Option.getD_some, ba_assoc]
theorem mix_next_no {A : List Int} {X : List ByteArray} {k : Nat} (hA : ¬ k < A.length) (hX : k < X.length) : unl (mixL A X (k + 1)) = unl (mixL A X k) ++ X[k] ++ ⟨#[10]⟩ := by
  rw [mix_succ, if_neg hA, unl_join, List.nil_append, unl_one]
  rw [List.getD_eq_getElem?_getD, List.getElem?_eq_getElem hX]
  simp only [Option.getD_some, ba_assoc]
theorem prgT_skip : ∀ (L : List ByteArray) (i : Nat) (S : Option Pln), (∀ x ∈ L, skipB x = true) → prgT L i S = .inr S
  | [], i, S, _ => rfl
  | x :: t, i, S, h => by
    rw [prgT_cons]
    have : takeT S x = .inr S := by unfold takeT; rw [if_pos (h x (by simp))]
    rw [this]
    exact prgT_skip t (i + 1) S fun y hy => h y (List.mem_cons_of_mem _ hy)
theorem prg_take {X : List ByteArray} {S : Option Pln} (h : prgT X 0 none = .inr S) (k : Nat) : ∃ Sk, prgT (X.take k) 0 none = .inr Sk := by
  have e : X = X.take k ++ X.drop k := (List.take_append_drop k X).symm
  rw [e, prgT_append] at h
  cases hq : prgT (X.take k) 0 none with
  | inl x => rw [hq] at h; cases h
  | inr Sk => exact ⟨Sk, rfl⟩
theorem mix_prg {A : List Int} {X : List ByteArray} {S : Option Pln} (h : prgT X 0 none = .inr S) : ∀ k, k ≤ X.length → ∀ Sk, prgT (X.take k) 0 none = .inr Sk → prgT (mixL A X k) 0 none = .inr Sk
  | 0, _, Sk, hk => hk
  | k + 1, hl, Sk, hk => by
    obtain ⟨S0, h0⟩ := prg_take h k
    have ih := mix_prg (A := A) h k (by omega) S0 h0
    have hkl : k < X.length := by omega
    rw [List.take_succ_eq_append_getElem hkl, prgT_append, h0] at hk
    dsimp only at hk
    rw [prgT_one] at hk
    rw [mix_succ, prgT_append, ih]
    dsimp only
    have sk : ∀ i, prgT (if k < A.length then rmL (A.getD k 0 % 4) else []) i S0 = .inr S0 := fun i => prgT_skip _ i S0 (by
      split
      · exact fun x hx => (rm_line _ x hx).2
      · intro x hx; cases hx)
    rw [prgT_append, sk]
    dsimp only
    rw [prgT_one, List.getD_eq_getElem?_getD, List.getElem?_eq_getElem hkl]
    simp only [Option.getD_some]
    cases ht : takeT S0 X[k] with
    | inl e => rw [ht] at hk; cases hk
    | inr S1 => rw [ht] at hk; cases hk; rfl
theorem mix_line {A : List Int} {X : List ByteArray} (h : ∀ x ∈ X, lineB x) : ∀ k, k ≤ X.length → ∀ x ∈ mixL A X k, lineB x
  | 0, _ => fun x hx => by cases hx
  | k + 1, hl => by
    have hkl : k < X.length := by omega
    intro x hx
    rw [mix_succ] at hx
    rcases List.mem_append.1 hx with hx | hx
    · exact mix_line (A := A) h k (by omega) x hx
    rcases List.mem_append.1 hx with hx | hx
    · split at hx
      · exact (rm_line _ x hx).1
      · cases hx
    · obtain rfl := List.mem_singleton.1 hx
      rw [List.getD_eq_getElem?_getD, List.getElem?_eq_getElem hkl]
      exact h _ (List.getElem_mem hkl)
theorem mix_size {A : List Int} {X : List ByteArray} : ∀ k, k ≤ X.length → (unl (mixL A X k)).size ≤ (unl (X.take k)).size + 4 * min k A.length
  | 0, _ => by show (0 : Nat) ≤ _; omega
  | k + 1, hl => by
    have hkl : k < X.length := by omega
    have ih := mix_size (A := A) (X := X) k (by omega)
    have e1 : (unl (X.take (k + 1))).size = (unl (X.take k)).size + (X[k].size + 1) := by
      rw [List.take_succ_eq_append_getElem hkl, unl_join, unl_one, size_app, size_app]; rfl
    have h1 : (⟨#[10]⟩ : ByteArray).size = 1 := rfl
    by_cases hA : k < A.length
    · have := rmT_size (A[k] % 4)
      rw [mix_next_at hA hkl, e1]
      simp only [size_app, h1]
      omega
    · rw [mix_next_no hA hkl, e1]
      simp only [size_app, h1]
      omega
theorem parT_mix {P : Pln} (h : chk P = 0) {A : List Int} (hA : A.length ≤ 50) : ∃ n, parT (unl (mixL A (rowsT P) (rowsT P).length)) = (P, n, 0) := by
  have hs := print_size h
  have hz := mix_size (A := A) (X := rowsT P) (rowsT P).length (Nat.le_refl _)
  rw [List.take_length] at hz
  have hu : (unl (rowsT P)).size ≤ 10000 := hs
  have hp := mix_prg (A := A) (prg_print h) (rowsT P).length (Nat.le_refl _) (some P) (by rw [List.take_length]; exact prg_print h)
  have hl := lnB_unl _ (mix_line (A := A) (fun x hx => (rows_line h x hx).1) (rowsT P).length (Nat.le_refl _))
  exact ⟨_, by rw [parT_good (P := P) (by omega) (by rw [hl]; exact hp), if_pos h]⟩
theorem parT_wrong {P : Pln} (h : chk P = 0) {bad more : ByteArray} {e : Int} (hb : lineB bad) (ht : takeT (some P) bad = .inl e) (hz : bad.size ≤ 200) (hm : more.size ≤ 1000) : parT (printT P ++ bad ++ ⟨#[10]⟩ ++ more) = (pln0, ((rowsT P).length : Int) + 1, e) := by
  have hs := print_size h
  have e1 : printT P ++ bad ++ ⟨#[10]⟩ ++ more = unl (rowsT P ++ [bad]) ++ more := by
    rw [unl_join, unl_one, ← ba_assoc]; rfl
  have hl : lnB (printT P ++ bad ++ ⟨#[10]⟩ ++ more) = rowsT P ++ bad :: lnB more := by
    rw [e1, lnB_pre _ (fun x hx => by
      rcases List.mem_append.1 hx with hx | hx
      · exact (rows_line h x hx).1
      · obtain rfl := List.mem_singleton.1 hx; exact hb), List.append_assoc]; rfl
  have h1 : (⟨#[10]⟩ : ByteArray).size = 1 := rfl
  unfold parT
  rw [if_neg (by simp only [size_app, h1]; omega), hl, prgT_append, prg_print h]
  dsimp only
  rw [prgT_cons, ht]
  dsimp only
  rw [Nat.zero_add]
theorem parT_late {P : Pln} (h : chk P = 0) {j : Jn} (hj : j ∈ P.js) : parT (jnW (wordsH P) ++ ⟨#[10]⟩ ++ jnW (wordsJ P j) ++ ⟨#[10]⟩ ++ printT P) = (pln0, 2, 5) := by
  have hs := print_size h
  have hh := rows_line h (jnW (wordsH P)) (by unfold rowsT; simp)
  have hj' := rows_line h (jnW (wordsJ P j)) (by unfold rowsT; simp only [List.mem_cons, List.mem_append, List.mem_map]; exact .inr (.inl (.inl (.inr ⟨j, hj, rfl⟩))))
  have e1 : jnW (wordsH P) ++ ⟨#[10]⟩ ++ jnW (wordsJ P j) ++ ⟨#[10]⟩ ++ printT P = unl [jnW (wordsH P), jnW (wordsJ P j)] ++ printT P := by
    rw [show ([jnW (wordsH P), jnW (wordsJ P j)] : List ByteArray) = [jnW (wordsH P)] ++ [jnW (wordsJ P j)] from rfl, unl_join, unl_one, unl_one, ← ba_assoc]
  have hl : lnB (jnW (wordsH P) ++ ⟨#[10]⟩ ++ jnW (wordsJ P j) ++ ⟨#[10]⟩ ++ printT P) = jnW (wordsH P) :: jnW (wordsJ P j) :: lnB (printT P) := by
    rw [e1, lnB_pre _ (fun x hx => by
      simp only [List.mem_cons, List.not_mem_nil, or_false] at hx
      rcases hx with rfl | rfl
      · exact hh.1
      · exact hj'.1)]; rfl
  have h1 : (⟨#[10]⟩ : ByteArray).size = 1 := rfl
  obtain ⟨pa, pb⟩ := (ports_ok h).1 j hj
  have ta := (told_back h pa P rfl).1
  have tb := (told_back h pb P rfl).1
  have hq : ∀ s, portP (plnH P) s = none := fun s => by
    unfold portP
    rw [if_pos (by show (-1 : Int) < 0; decide)]
  have tj : takeT (some (plnH P)) (jnW (wordsJ P j)) = .inl 5 := by
    unfold wordsJ
    rw [take_words (by decide) (by decide) (by intro x hx; simp only [List.mem_cons, List.not_mem_nil, or_false] at hx; rcases hx with rfl | rfl | rfl; exact wordB_of (by decide) (by decide); exact (told_word h pa).1; exact (told_word h pb).1)]
    unfold takeW rowW
    dsimp only
    rw [if_neg (by decide), if_pos rfl]
    unfold joinW
    dsimp only
    rw [if_pos ⟨ta, tb⟩, hq, hq]
  have hz : ¬ 32768 < (jnW (wordsH P) ++ ⟨#[10]⟩ ++ jnW (wordsJ P j) ++ ⟨#[10]⟩ ++ printT P).size := by
    have h2 := hh.2
    have h3 := hj'.2
    simp only [size_app, h1]; omega
  unfold parT
  rw [if_neg hz, hl, prgT_cons, take_h h]
  dsimp only
  rw [prgT_cons, tj]
  rfl
def bNob : ByteArray := ⟨#[110, 111, 98, 111, 100, 121]⟩
def badT (n : ByteArray) : List (ByteArray × Int) :=
  [(⟨#[112, 108, 97, 110, 32, 49, 48, 32, 53, 32, 49, 53, 32, 50, 32, 115, 111, 102, 116]⟩, 2), (⟨#[116, 114, 97, 99, 107, 32, 120]⟩, 2), (⟨#[116, 114, 97, 99, 107, 32, 49, 120, 32, 53]⟩, 2), (⟨#[103, 97, 116, 101, 32, 97, 32, 98]⟩, 2),
   (⟨#[106, 111, 105, 110, 32]⟩ ++ n ++ ⟨#[46, 48]⟩, 2), (⟨#[106, 111, 105, 110, 32]⟩ ++ n ++ ⟨#[46, 48, 32, 110, 111, 98, 111, 100, 121, 46, 48]⟩, 5), (⟨#[115, 105, 103, 110, 97, 108, 32, 115, 32]⟩ ++ n ++ ⟨#[46, 49, 48]⟩, 2), (⟨#[115, 105, 103, 110, 97, 108, 32, 115, 32, 110, 111, 98, 111, 100, 121, 46, 49]⟩, 5),
   (⟨#[108, 105, 110, 101, 32, 108]⟩, 2), (⟨#[108, 105, 110, 101, 32, 108, 32, 110, 111, 98, 111, 100, 121]⟩, 5), (⟨#[112, 111, 105, 110, 116, 115, 32, 120, 32, 49, 50, 51, 52, 53, 54]⟩, 2), (⟨#[32, 103, 97, 116, 101, 32, 120]⟩, 2)]
theorem plain_no {P : Pln} {x : ByteArray} {w : List ByteArray} {e : Int} (h0 : skipB x = false) (hw : wdB x = some w) (hr : rowW P w = .inl e) : takeT (some P) x = .inl e := by
  unfold takeT takeW
  rw [if_neg (by rw [h0]; simp), hw]
  dsimp only
  rw [hr]
theorem lineB_lit {x : ByteArray} (h : x.data.toList.all (fun c => c != 10) = true) : lineB x := fun c hc => by
  have := List.all_eq_true.1 h c hc
  simpa using this
theorem word_appE {a b : ByteArray} (ha : wordB a) (hb : ∀ c ∈ b.data.toList, wrdB c = true) : wordB (a ++ b) := by
  refine ⟨fun e => ha.1 ?_, fun c hc => ?_⟩
  · rw [app_data] at e
    exact (List.append_eq_nil_iff.1 e).1
  · rw [app_data] at hc
    rcases List.mem_append.1 hc with hc | hc
    · exact ha.2 c hc
    · exact hb c hc
theorem bad_no {P : Pln} (h : chk P = 0) {n : ByteArray} (hn : nmB n = true) (hN : eleN P bNob < 0) : ∀ x ∈ badT n, takeT (some P) x.1 = .inl x.2 ∧ lineB x.1 ∧ x.1.size ≤ 200 := by
  have hz := nm_size hn
  have nw := nm_word hn
  have w0 : wordB (n ++ ⟨#[46, 48]⟩) := word_appE nw (by decide)
  have w10 : wordB (n ++ ⟨#[46, 49, 48]⟩) := word_appE nw (by decide)
  have pd : portB (n ++ ⟨#[46, 48]⟩) = true := by
    have := (port_parts hn (d := 0) (by omega) (by omega)).1
    rw [ba_assoc, show dgs 0 = ⟨#[48]⟩ from by rw [itoa_small (by omega) (by omega)]; rfl] at this
    exact this
  have nob : ∀ s, portNm s = bNob → portP P s = none := fun s hs => by unfold portP; rw [hs, if_pos hN]
  have nl : lineB n := word_line nw
  have la : ∀ {a b : ByteArray}, lineB a → lineB b → lineB (a ++ b) := fun ha hb => line_app ha hb
  intro x hx
  unfold badT at hx
  simp only [List.mem_cons, List.not_mem_nil, or_false] at hx
  rcases hx with rfl | rfl | rfl | rfl | rfl | rfl | rfl | rfl | rfl | rfl | rfl | rfl
  · exact ⟨plain_no (w := [bPlan, ⟨#[49, 48]⟩, ⟨#[53]⟩, ⟨#[49, 53]⟩, ⟨#[50]⟩, bSoft]) (by decide) (by kernel_rfl) rfl, lineB_lit (by decide), by decide⟩
  · exact ⟨plain_no (w := [bTrack, ⟨#[120]⟩]) (by decide) (by kernel_rfl) rfl, lineB_lit (by decide), by decide⟩
  · exact ⟨plain_no (w := [bTrack, ⟨#[49, 120]⟩, ⟨#[53]⟩]) (by decide) (by kernel_rfl) rfl, lineB_lit (by decide), by decide⟩
  · exact ⟨plain_no (w := [bGateE, ⟨#[97]⟩, ⟨#[98]⟩]) (by decide) (by kernel_rfl) rfl, lineB_lit (by decide), by decide⟩
  · have e : (⟨#[106, 111, 105, 110, 32]⟩ : ByteArray) ++ n ++ ⟨#[46, 48]⟩ = jnW [bJoin, n ++ ⟨#[46, 48]⟩] := by
      rw [jnW_cons, jnW_lone, ba_assoc, ba_assoc]; rfl
    refine ⟨?_, ?_, ?_⟩
    · dsimp only
      rw [e, take_words (by decide) (by decide) (by intro x hx; simp only [List.mem_cons, List.not_mem_nil, or_false] at hx; rcases hx with rfl | rfl; exact wordB_of (by decide) (by decide); exact w0)]
      rfl
    · exact la (la (lineB_lit (by decide)) nl) (lineB_lit (by decide))
    · simp only [size_app]; show _ + _ + _ ≤ _; have : (⟨#[106, 111, 105, 110, 32]⟩ : ByteArray).size = 5 := rfl; have : (⟨#[46, 48]⟩ : ByteArray).size = 2 := rfl; omega
  · have e : (⟨#[106, 111, 105, 110, 32]⟩ : ByteArray) ++ n ++ ⟨#[46, 48, 32, 110, 111, 98, 111, 100, 121, 46, 48]⟩ = jnW [bJoin, n ++ ⟨#[46, 48]⟩, ⟨#[110, 111, 98, 111, 100, 121, 46, 48]⟩] := by
      rw [jnW_cons, jnW_cons, jnW_lone, show (⟨#[106, 111, 105, 110, 32]⟩ : ByteArray) = bJoin ++ ⟨#[32]⟩ from rfl, show (⟨#[46, 48, 32, 110, 111, 98, 111, 100, 121, 46, 48]⟩ : ByteArray) = ⟨#[46, 48]⟩ ++ (⟨#[32]⟩ ++ ⟨#[110, 111, 98, 111, 100, 121, 46, 48]⟩) from rfl]
      simp only [ba_assoc]
    refine ⟨?_, ?_, ?_⟩
    · dsimp only
      rw [e, take_words (by decide) (by decide) (by intro x hx; simp only [List.mem_cons, List.not_mem_nil, or_false] at hx; rcases hx with rfl | rfl | rfl; exact wordB_of (by decide) (by decide); exact w0; exact wordB_of (by decide) (by decide))]
      unfold takeW rowW
      dsimp only
      rw [if_neg (by decide), if_pos rfl]
      unfold joinW
      dsimp only
      rw [if_pos ⟨pd, by decide⟩, nob ⟨#[110, 111, 98, 111, 100, 121, 46, 48]⟩ (by decide)]
      cases portP P (n ++ ⟨#[46, 48]⟩) <;> rfl
    · exact la (la (lineB_lit (by decide)) nl) (lineB_lit (by decide))
    · simp only [size_app]; have : (⟨#[106, 111, 105, 110, 32]⟩ : ByteArray).size = 5 := rfl; have : (⟨#[46, 48, 32, 110, 111, 98, 111, 100, 121, 46, 48]⟩ : ByteArray).size = 11 := rfl; omega
  · have e : (⟨#[115, 105, 103, 110, 97, 108, 32, 115, 32]⟩ : ByteArray) ++ n ++ ⟨#[46, 49, 48]⟩ = jnW [bSignal, ⟨#[115]⟩, n ++ ⟨#[46, 49, 48]⟩] := by
      rw [jnW_cons, jnW_cons, jnW_lone, show (⟨#[115, 105, 103, 110, 97, 108, 32, 115, 32]⟩ : ByteArray) = bSignal ++ ⟨#[32]⟩ ++ (⟨#[115]⟩ ++ ⟨#[32]⟩) from rfl]
      simp only [ba_assoc]
    have pn : portB (n ++ ⟨#[46, 49, 48]⟩) = false := by
      have s3 : (⟨#[46, 49, 48]⟩ : ByteArray).size = 3 := rfl
      have hs : (n ++ ⟨#[46, 49, 48]⟩).size = n.size + 3 := by rw [size_app, s3]
      unfold portB
      rw [hs, show n.size + 3 - 2 = n.size + 1 from by omega]
      have : bt (n ++ ⟨#[46, 49, 48]⟩) (n.size + 1) = 49 := by
        rw [bt_app, if_neg (by omega), show n.size + 1 - n.size = 1 from by omega]; rfl
      rw [this]
      simp
    refine ⟨?_, ?_, ?_⟩
    · dsimp only
      rw [e, take_words (by decide) (by decide) (by intro x hx; simp only [List.mem_cons, List.not_mem_nil, or_false] at hx; rcases hx with rfl | rfl | rfl; exact wordB_of (by decide) (by decide); exact wordB_of (by decide) (by decide); exact w10)]
      unfold takeW rowW
      dsimp only
      rw [if_neg (by decide), if_neg (by decide), if_pos rfl]
      unfold signalW sig3
      dsimp only
      rw [if_neg (by rw [pn]; simp)]
    · exact la (la (lineB_lit (by decide)) nl) (lineB_lit (by decide))
    · simp only [size_app]; have : (⟨#[115, 105, 103, 110, 97, 108, 32, 115, 32]⟩ : ByteArray).size = 9 := rfl; have : (⟨#[46, 49, 48]⟩ : ByteArray).size = 3 := rfl; omega
  · refine ⟨plain_no (w := [bSignal, ⟨#[115]⟩, ⟨#[110, 111, 98, 111, 100, 121, 46, 49]⟩]) (by decide) (by kernel_rfl) ?_, lineB_lit (by decide), by decide⟩
    unfold rowW
    dsimp only
    rw [if_neg (by decide), if_neg (by decide), if_pos rfl]
    unfold signalW sig3
    dsimp only
    rw [if_pos (by decide), nob ⟨#[110, 111, 98, 111, 100, 121, 46, 49]⟩ (by decide)]
  · exact ⟨plain_no (w := [bLine, ⟨#[108]⟩]) (by decide) (by kernel_rfl) rfl, lineB_lit (by decide), by decide⟩
  · refine ⟨plain_no (w := [bLine, ⟨#[108]⟩, bNob]) (by decide) (by kernel_rfl) ?_, lineB_lit (by decide), by decide⟩
    unfold rowW
    dsimp only
    rw [if_neg (by decide), if_neg (by decide), if_neg (by decide), if_pos rfl]
    unfold lineWd
    dsimp only
    rw [if_neg (by decide), if_pos (by simp [hN])]
  · exact ⟨plain_no (w := [bPoints, ⟨#[120]⟩, ⟨#[49, 50, 51, 52, 53, 54]⟩]) (by decide) (by kernel_rfl) rfl, lineB_lit (by decide), by decide⟩
  · refine ⟨?_, lineB_lit (by decide), by decide⟩
    have hw : wdB (⟨#[32, 103, 97, 116, 101, 32, 120]⟩ : ByteArray) = none := by kernel_rfl
    unfold takeT
    rw [if_neg (by decide)]
    dsimp only
    rw [hw]
set_option maxHeartbeats 400000 in
theorem refLines_any (s : ByteArray) (hs : s.size ≤ 1048576) (w : World) :
    Calls Tryz.prog 17 #[.string s] w (RetS w (lnB s)) := by
  obtain ⟨i0, hi, hz0, hz1, hz2⟩ := info_parts Tryz.infoS
  go_enter Tryz.func17, Tryz.ntmps17
  go_wp2
  go_loopw [3, 4, 5] (fun v f i wr => ∃ (V : Value) (F I : Nat) (L : List ByteArray), V = v ∧ f = .int .i64 F ∧ i = .int .i64 I ∧ F ≤ I ∧ I ≤ s.size ∧ L.length ≤ I ∧ OwnS w.heap.size wr V L ∧ Hid (L ++ lnR s F I = lnB s) ∧ Gr w wr) (fun _ _ i _ => s.size - (intOf i).toNat)
  case atStart => exact ⟨_, 0, 0, [], rfl, rfl, rfl, by omega, by omega, by simp, OwnS.nil _ _, by unfold Hid; rw [lnR_start]; rfl, Gr.refl _⟩
  case round =>
    obtain ⟨v, F, I, L, rfl, rfl, rfl, r1, r2, r3, ho, HL, g⟩ := hrel
    have hown : wr.ownsRow w.heap.size 9 1 v L.length (L.map Value.string) := ho
    have HO := Lib.hid hown
    have g' := g
    by_cases hlt : I < s.size
    · have hI : (I : Int) < (s.size : Int) := by omega
      have hF : (F : Int) ≤ (I : Int) := by omega
      by_cases hnl : s[I] = 10
      · have HN : Hid ((L ++ [s.extract F I]) ++ lnR s (I + 1) (I + 1) = lnB s) := by
          unfold Hid; rw [← HL.out, lnR_nl s F I r1 hlt hnl]; simp
        have ht : ((s[I].toNat : Int) == 10) = true := by rw [hnl]; rfl
        clear hnl HL ho hown
        go_wp2_with (first | (at_builtin; refine wpList_append_own _ rfl _ _ 38 rfl w.heap.size 9 i0 (.string ByteArray.empty) 1 16 Tryz.underlying38 hi hz0 hz1 hz2 rfl (by decide) _ _ _ rfl (HO.out.alloc _) ⟨wr.heap.size, 0, none⟩ 1 1 [.string (s.extract F I)] rfl rfl ?c1 ?c2 ?c3 ?c4 ?c5 ?_))
        case c1 => exact cell_one_new _ _ _
        case c2 => simp [Value.oneCell']
        case c3 => unfold maxLen; omega
        case c4 => omega
        case c5 => have := g.size; simp; omega
        intro v' w1 hown' hgrow _
        have hg1 : Gr w w1 := Gr.grown (g'.alloc _) hgrow HO.out
        have ho1 : OwnS w.heap.size w1 v' (L ++ [s.extract F I]) := OwnS.snoc hown'
        clear hown' hgrow HO
        go_wp2
        go_roundw
        case rel => exact ⟨_, I + 1, I + 1, L ++ [s.extract F I], rfl, by go_num, by go_num, by omega, by omega, by simp; omega, ho1, HN, hg1⟩
        case measure => simp [intOf]; omega
      · have HN : Hid (L ++ lnR s F (I + 1) = lnB s) := by
          unfold Hid; rw [← HL.out, lnR_step s F I r1 hlt hnl]
        have ht : ((s[I].toNat : Int) == 10) = false := by
          simp
          intro e
          apply hnl
          apply UInt8.toNat_inj.1
          have : (10 : UInt8).toNat = 10 := rfl
          omega
        clear hnl HL
        go_wp2
        go_roundw
        case rel => exact ⟨_, F, I + 1, L, rfl, rfl, by go_num, by omega, by omega, by omega, ho, HN, g⟩
        case measure => simp [intOf]; omega
    · obtain rfl : I = s.size := by omega
      have hE := lnR_end s F r1
      by_cases hf : F < s.size
      · have hF : (F : Int) < (s.size : Int) := by omega
        have HN : Hid (L ++ [s.extract F s.size] = lnB s) := by
          unfold Hid; rw [← HL.out, hE, if_pos hf]
        clear HL hE ho hown
        go_wp2_with (first | (at_builtin; refine wpList_append_own _ rfl _ _ 38 rfl w.heap.size 9 i0 (.string ByteArray.empty) 1 16 Tryz.underlying38 hi hz0 hz1 hz2 rfl (by decide) _ _ _ rfl (HO.out.alloc _) ⟨wr.heap.size, 0, none⟩ 1 1 [.string (s.extract F s.size)] rfl rfl ?c1 ?c2 ?c3 ?c4 ?c5 ?_))
        case c1 => exact cell_one_new _ _ _
        case c2 => simp [Value.oneCell']
        case c3 => unfold maxLen; omega
        case c4 => omega
        case c5 => have := g.size; simp; omega
        intro v' w1 hown' hgrow _
        have hg1 : Gr w w1 := Gr.grown (g'.alloc _) hgrow HO.out
        have ho1 : OwnS w.heap.size w1 v' (L ++ [s.extract F s.size]) := OwnS.snoc hown'
        have hv := ho1.vals (by unfold maxLen; simp; omega)
        clear hown' hgrow HO
        go_wp2
        go_ret
        refine ⟨v', rfl, ?_, hg1⟩
        rw [← HN.out]; exact hv
      · have HN : Hid (L = lnB s) := by
          unfold Hid; rw [← HL.out, hE, if_neg hf]; simp
        have hv := ho.vals (by unfold maxLen; omega)
        clear HL hE
        go_wp2
        go_ret
        refine ⟨v, rfl, ?_, g⟩
        rw [← HN.out]; exact hv
end Go.Proofs.YtjblplflgiibdaaGreatDoor
