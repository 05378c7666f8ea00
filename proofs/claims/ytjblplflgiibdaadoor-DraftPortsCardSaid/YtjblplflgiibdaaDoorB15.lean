/- StQ: Lists of kinds of trains, their texts: plain.
Nms: Names of a plan that may be: each is there once. Plain.
Fnd: The signal, the element of a name. Plain.
StT: Kinds of trains as texts, there and back: plain.
DrT: Plans as texts: what Parse reads, what Print tells. Plain.
StW: stock.may, May, Find, wrong, Check; the reference's Find, plain, Check.
StX: stock.wrong, Check; the reference's plain, Check.
StY: The reference's plain and Check; stock.Check.
Tab0: The memory's shape stays.
Tab1: What the walks need of the library's variables. -/
import Derived.Test.YtjblplflgiibdaaDoorRows
import Derived.Test.YtjblplflgiibdaaDoorB14
import Derived.Test.YtjblplflgiibdaaDoorB2
import Derived.Test.YtjblplflgiibdaaDoorB13
import Derived.Test.YtjblplflgiibdaaDoorB1
import Derived.Test.YtjblplflgiibdaaDoorB9
import Derived.Test.YtjblplflgiibdaaDoorB3
import Derived.WalkSpells
import Derived.ChangeAgain
import Derived.LaidMore
import Derived.Deep.DeepHandedRow
import Derived.Test.YtjblplflgiibdaaDoorShelf
namespace Go.Proofs.YtjblplflgiibdaaDoor
open Go.ChangeShapes Go.WideShapes Go.ChangeAt Go.RowKit Go.Maps
set_option linter.unusedVariables false
set_option linter.unusedSimpArgs false
instance : Inhabited Stk := ⟨⟨ByteArray.empty, 0, 0, 0, 0⟩⟩
def Stk.v (s : Stk) : Value := .agg #[.string s.nm, .int .i64 s.l, .int .i64 s.t, .int .i64 s.a, .int .i64 s.b]
def Stk.cs (s : Stk) : List Value := [.string s.nm, .int .i64 s.l, .int .i64 s.t, .int .i64 s.a, .int .i64 s.b]
def Stk.c (s : Stk) (j : Nat) : Value := if j = 0 then .string s.nm else if j = 1 then .int .i64 s.l else if j = 2 then .int .i64 s.t else if j = 3 then .int .i64 s.a else .int .i64 s.b
def IsStks (w : World) (v : Value) (l : List Stk) : Prop := IsRow w v 5 l.length (fun i j => (l.getD i default).c j) ∧ CapOk v
theorem IsStks.gr {w w' : World} {v : Value} {l : List Stk} (h : IsStks w v l) (g : Gr w w') : IsStks w' v l := ⟨IsRow.gr h.1 g, h.2⟩
theorem IsStks.at {w : World} {a : Option Addr} {c m : Nat} {l : List Stk} (h : IsStks w (.slice a m c) l) (i : Nat) (hi : i < l.length) :
    ∃ b o, a = some ⟨b, o, none⟩ ∧ b < w.heap.size ∧ w.cell? ⟨b, o + i * 5, none⟩ = some (.string l[i].nm) ∧ w.cell? ⟨b, o + i * 5 + 1, none⟩ = some (.int .i64 l[i].l) ∧ w.cell? ⟨b, o + i * 5 + 2, none⟩ = some (.int .i64 l[i].t) ∧ w.cell? ⟨b, o + i * 5 + 3, none⟩ = some (.int .i64 l[i].a) ∧ w.cell? ⟨b, o + i * 5 + 4, none⟩ = some (.int .i64 l[i].b) := by
  obtain ⟨b, o, rfl, hb, hc⟩ := IsRow.at h.1 i hi
  simp only [getD_at l i hi] at hc
  exact ⟨b, o, rfl, hb, hc 0 (by omega), hc 1 (by omega), hc 2 (by omega), hc 3 (by omega), hc 4 (by omega)⟩
theorem IsStks.nil (w : World) : IsStks w (.slice none 0 0) [] := ⟨⟨none, 0, rfl, by simp, .inl rfl⟩, fun a n c e => by cases e; omega⟩
def mayS (s : Stk) : Bool := mayB s.nm s.l s.t s.a s.b
def plainE (l : List Stk) : Int := if 4 < l.length then 3 else if l.all mayS = false then 1 else if twiceB (l.map (·.nm)) then 4 else 0
theorem nodup_iff_lt {α : Type} : ∀ (l : List α), l.Nodup ↔ ∀ i k (hi : i < l.length) (hk : k < i), l[i] ≠ l[k]'(by omega)
  | l => by
    rw [List.nodup_iff_pairwise_ne, List.pairwise_iff_getElem]
    exact ⟨fun h i k hi hk e => h k i (by omega) hi hk e.symm, fun h i j hi hj hij e => h j i hj hij e.symm⟩
theorem twiceS_yes {l : List Stk} {i k : Nat} (hi : i < l.length) (hk : k < i) (h : l[k].nm = l[i].nm) : twiceB (l.map (·.nm)) = true := by
  unfold twiceB
  simp only [Bool.not_eq_true', decide_eq_false_iff_not]
  intro hn
  rw [nodup_iff_lt] at hn
  exact hn i k (by simpa using hi) hk (by simpa using h.symm)
theorem twiceS_no {l : List Stk} (h : ∀ i k (hi : i < l.length) (hk : k < i), l[k].nm ≠ l[i].nm) : twiceB (l.map (·.nm)) = false := by
  unfold twiceB
  simp only [Bool.not_eq_false', decide_eq_true_eq]
  rw [nodup_iff_lt]
  intro i k hi hk e
  exact h i k (by simpa using hi) hk (by simpa using e.symm)
theorem allS_good {l : List Stk} (h : ∀ k (hk : k < l.length), mayS l[k] = true) : l.all mayS = true := by
  rw [List.all_eq_true]
  intro x hx
  obtain ⟨k, hk, rfl⟩ := List.getElem_of_mem hx
  exact h k hk
end Go.Proofs.YtjblplflgiibdaaDoor
namespace Go.Proofs.YtjblplflgiibdaaDoor
open Go.ChangeShapes Go.WideShapes Go.ChangeAt Go.RowKit Go.Maps
set_option linter.unusedVariables false
theorem fst_self {α : Type} {l : List α} {f : α → ByteArray} (hn : (l.map f).Nodup) (i : Nat) (hi : i < l.length) : fstN (fun s => decide (f s = f l[i])) l = i := by
  rw [nodup_iff_lt] at hn
  refine fstN_go _ hi (by simp) fun k hk hki => ?_
  rw [decide_eq_false_iff_not]
  have := hn i k (by simpa using hi) hki
  intro e
  exact this (by simpa using e.symm)
theorem twiceB_nodup {l : List ByteArray} (h : twiceB l = false) : l.Nodup := by
  unfold twiceB at h
  simpa using h
theorem fine_names {P : Pln} (h : chk P = 0) : (P.es.map (·.n)).Nodup ∧ (P.ss.map (·.n)).Nodup ∧ (∀ s ∈ P.ss, nmB s.n = true) ∧ ∀ e ∈ P.es, nmB e.n = true := by
  have h0 := h
  unfold chk at h
  split at h
  · omega
  split at h
  · omega
  split at h
  · omega
  rename_i h1 h2 h3
  simp only [Bool.or_eq_true, not_or, Bool.not_eq_true] at h3
  refine ⟨twiceB_nodup h3.1.1, twiceB_nodup h3.1.2, ?_, fun e he => (fine_ele h0 e he).1⟩
  have ha := (fine_parts h0).1
  rw [argsB_eq] at ha
  simp only [Bool.and_eq_true, List.all_eq_true] at ha
  exact ha.1.2
end Go.Proofs.YtjblplflgiibdaaDoor
namespace Go.Proofs.YtjblplflgiibdaaDoor
set_option linter.unusedVariables false
def eleN (P : Pln) (n : ByteArray) : Int := fstN (fun e => decide (e.n = n)) P.es
end Go.Proofs.YtjblplflgiibdaaDoor
namespace Go.Proofs.YtjblplflgiibdaaDoor
open Go.ChangeShapes Go.WideShapes Go.ChangeAt Go.RowKit Go.Maps
set_option linter.unusedVariables false
set_option linter.unusedSimpArgs false
theorem app_data (a b : ByteArray) : (a ++ b).data.toList = a.data.toList ++ b.data.toList := by simp [ByteArray.data_append]
theorem nm_word {n : ByteArray} (h : nmB n = true) : wordB n := by
  unfold nmB at h
  simp only [Bool.and_eq_true, decide_eq_true_eq, List.all_eq_true, List.mem_range] at h
  refine wordB_of (by omega) fun j hj => ?_
  have := (okc_iff j (bt n j)).1 (h.2 j hj)
  omega
def lineB (x : ByteArray) : Prop := ∀ c ∈ x.data.toList, c ≠ 10
theorem word_line {x : ByteArray} (h : wordB x) : lineB x := fun c hc e => by
  have := h.2 c hc
  subst e
  revert this; decide
theorem line_app {a b : ByteArray} (ha : lineB a) (hb : lineB b) : lineB (a ++ b) := fun c hc => by
  rw [app_data, List.mem_append] at hc
  rcases hc with h | h
  · exact ha c h
  · exact hb c h
theorem line_blank : lineB ⟨#[32]⟩ := fun c hc => by
  have : c = 32 := by simpa using hc
  subst this; decide
theorem jnW_line : ∀ (L : List ByteArray), (∀ x ∈ L, lineB x) → lineB (jnW L)
  | [], _ => fun c hc => by simp [jnW, Lib.join] at hc
  | [b], h => by
    have e : jnW [b] = b := by
      show (⟨(Lib.join [b.data.toList] [32]).toArray⟩ : ByteArray) = b
      rw [Lib.join_one]
    rw [e]
    exact h b (by simp)
  | b :: a :: t, h => by
    rw [jnW_cons]
    exact line_app (line_app (h b (by simp)) line_blank) (jnW_line (a :: t) fun x hx => h x (List.mem_cons_of_mem _ hx))
def unl : List ByteArray → ByteArray
  | [] => ⟨#[]⟩
  | x :: t => x ++ ⟨#[10]⟩ ++ unl t
theorem unl_data : ∀ (L : List ByteArray), (unl L).data.toList = L.flatMap fun x => x.data.toList ++ [10]
  | [] => rfl
  | x :: t => by unfold unl; rw [app_data, app_data, unl_data t]; simp
theorem lnB_unl : ∀ (L : List ByteArray), (∀ x ∈ L, lineB x) → lnB (unl L) = L
  | [], _ => rfl
  | x :: t, h => by
    have ih := lnB_unl t fun y hy => h y (List.mem_cons_of_mem _ hy)
    unfold lnB at ih ⊢
    unfold unl
    rw [app_data, app_data, List.append_assoc, lnsA_pre _ _ _ (h x (by simp))]
    show (lnsA ([] ++ x.data.toList) (10 :: (unl t).data.toList)).map toB = _
    unfold lnsA
    rw [if_pos rfl, List.map_cons, ih, List.nil_append, toB_data]
theorem unl_lnsA : ∀ (l acc : List UInt8), (unl ((lnsA acc l).map toB)).data.toList = acc ++ l ∨ (unl ((lnsA acc l).map toB)).data.toList = acc ++ l ++ [10]
  | [], acc => by
    unfold lnsA
    by_cases h : acc = []
    · rw [if_pos h, h]; exact .inl rfl
    · rw [if_neg h]; right
      simp only [List.map_cons, List.map_nil, unl_data, List.flatMap_cons, List.flatMap_nil, List.append_nil]
      simp [toB]
  | c :: t, acc => by
    unfold lnsA
    by_cases h : c = 10
    · rw [if_pos h]
      subst h
      have ih := unl_lnsA t []
      rw [List.map_cons, unl, app_data, app_data]
      have e : (toB acc).data.toList = acc := by simp [toB]
      rw [e]
      rcases ih with ih | ih
      · left; rw [ih]; simp
      · right; rw [ih]; simp
    · rw [if_neg h]
      have ih := unl_lnsA t (acc ++ [c])
      rcases ih with ih | ih
      · left; rw [ih]; simp
      · right; rw [ih]; simp
theorem unl_lnB (s : ByteArray) : unl (lnB s) = s ∨ unl (lnB s) = s ++ ⟨#[10]⟩ := by
  have key : ∀ a b : ByteArray, a.data.toList = b.data.toList → a = b := fun a b h => ByteArray.ext (Array.toList_inj.1 h)
  rcases unl_lnsA s.data.toList [] with h | h
  · left; exact key _ _ (by unfold lnB; rw [h]; rfl)
  · right; refine key _ _ ?_
    rw [app_data]
    unfold lnB
    rw [h]; rfl
theorem nm_size {n : ByteArray} (h : nmB n = true) : n.size ≤ 8 := by
  unfold nmB at h
  simp only [Bool.and_eq_true, decide_eq_true_eq] at h
  exact h.1.2
end Go.Proofs.YtjblplflgiibdaaDoor
namespace Go.Proofs.YtjblplflgiibdaaDoor
open Go.ChangeShapes Go.WideShapes Go.ChangeAt Go.RowKit Go.Maps
set_option linter.unusedVariables false
set_option linter.unusedSimpArgs false
def bPlan : ByteArray := ⟨#[112, 108, 97, 110]⟩
def bSoft : ByteArray := ⟨#[115, 111, 102, 116]⟩
def bHard : ByteArray := ⟨#[104, 97, 114, 100]⟩
def bTrack : ByteArray := ⟨#[116, 114, 97, 99, 107]⟩
def bPoints : ByteArray := ⟨#[112, 111, 105, 110, 116, 115]⟩
def bCross : ByteArray := ⟨#[99, 114, 111, 115, 115]⟩
def bGateE : ByteArray := ⟨#[103, 97, 116, 101]⟩
def bJoin : ByteArray := ⟨#[106, 111, 105, 110]⟩
def bSignal : ByteArray := ⟨#[115, 105, 103, 110, 97, 108]⟩
def bAuto : ByteArray := ⟨#[97, 117, 116, 111]⟩
def bLine : ByteArray := ⟨#[108, 105, 110, 101]⟩
def portNm (s : ByteArray) : ByteArray := s.extract 0 (s.size - 2)
def portEn (s : ByteArray) : Int := bt s (s.size - 1) - 48
def portB (s : ByteArray) : Bool := decide (3 ≤ s.size) && decide (bt s (s.size - 2) = 46) && dgB (bt s (s.size - 1)) && nmB (portNm s)
def portP (P : Pln) (s : ByteArray) : Option Prt := if eleN P (portNm s) < 0 then none else some ⟨eleN P (portNm s), portEn s⟩
def pln0 : Pln := ⟨[], [], [], [], 0, 0, 0, 0, false⟩
def headW : List ByteArray → Option (Int × Int × Int × Int × Bool)
  | [p, a, b, c, d, h] => if p = bPlan ∧ (h = bSoft ∨ h = bHard) ∧ numB a 5 = true ∧ numB b 5 = true ∧ numB c 5 = true ∧ numB d 5 = true then some (numN a 5, numN b 5, numN c 5, numN d 5, decide (h = bHard)) else none
  | _ => none
def withH (P : Pln) (h : Int × Int × Int × Int × Bool) : Pln := { P with top := h.1, brake := h.2.1, margin := h.2.2.1, throw := h.2.2.2.1, hard := h.2.2.2.2 }
def kindW (v : ByteArray) : Int := if v = bTrack then 1 else if v = bPoints then 2 else if v = bCross then 3 else if v = bGateE then 4 else 0
def elemW (P : Pln) : List ByteArray → Int ⊕ Pln
  | [v, n] => if kindW v = 4 ∧ nmB n = true then .inr { P with es := P.es ++ [⟨n, 4, 0⟩] } else .inl 2
  | [v, n, d] => if kindW v ≠ 4 ∧ nmB n = true ∧ numB d 5 = true then .inr { P with es := P.es ++ [⟨n, kindW v, numN d 5⟩] } else .inl 2
  | _ => .inl 2
def joinW (P : Pln) : List ByteArray → Int ⊕ Pln
  | [_, a, b] => if portB a = true ∧ portB b = true then (match portP P a, portP P b with | some x, some y => .inr { P with js := P.js ++ [⟨x, y⟩] } | _, _ => .inl 5) else .inl 2
  | _ => .inl 2
def sig3 (P : Pln) (n p : ByteArray) (au : Bool) : Int ⊕ Pln :=
  if nmB n = true ∧ portB p = true then (match portP P p with | some x => .inr { P with ss := P.ss ++ [⟨n, x, au⟩] } | none => .inl 5) else .inl 2
def signalW (P : Pln) : List ByteArray → Int ⊕ Pln
  | [_, n, p] => sig3 P n p false
  | [_, n, p, q] => if q = bAuto then sig3 P n p true else .inl 2
  | _ => .inl 2
def lineWd (P : Pln) : List ByteArray → Int ⊕ Pln
  | _ :: n :: t => if t = [] ∨ 40 < t.length ∨ (n :: t).all nmB = false then .inl 2 else if t.any (fun s => decide (eleN P s < 0)) then .inl 5 else .inr { P with ls := P.ls ++ [⟨n, t.map (eleN P)⟩] }
  | _ => .inl 2
def rowW (P : Pln) (w : List ByteArray) : Int ⊕ Pln :=
  match w with
  | [] => .inl 2
  | v :: _ => if kindW v ≠ 0 then elemW P w else if v = bJoin then joinW P w else if v = bSignal then signalW P w else if v = bLine then lineWd P w else .inl 2
def skipB (x : ByteArray) : Bool := decide (x.size = 0) || decide (bt x 0 = 35)
def takeW (S : Option Pln) (w : List ByteArray) : Int ⊕ Option Pln :=
  match S with
  | none => (match headW w with | none => .inl 2 | some h => .inr (some (withH pln0 h)))
  | some P => (match rowW P w with | .inl e => .inl e | .inr Q => .inr (some Q))
def takeT (S : Option Pln) (x : ByteArray) : Int ⊕ Option Pln :=
  if skipB x = true then .inr S else match wdB x with | none => .inl 2 | some w => takeW S w
def prgT : List ByteArray → Nat → Option Pln → (Nat × Int) ⊕ Option Pln
  | [], _, S => .inr S
  | x :: t, i, S => match takeT S x with | .inl e => .inl (i, e) | .inr S' => prgT t (i + 1) S'
def parT (s : ByteArray) : Pln × Int × Int :=
  if 32768 < s.size then (pln0, 0, 3) else match prgT (lnB s) 0 none with
    | .inl (i, e) => (pln0, (i : Int) + 1, e)
    | .inr none => (pln0, (lnB s).length, 2)
    | .inr (some P) => if chk P = 0 then (P, (lnB s).length, 0) else (pln0, (lnB s).length, chk P)
theorem prgT_cons (x : ByteArray) (t : List ByteArray) (i : Nat) (S : Option Pln) : prgT (x :: t) i S = match takeT S x with | .inl e => .inl (i, e) | .inr S' => prgT t (i + 1) S' := rfl
theorem prgT_append : ∀ (a b : List ByteArray) (i : Nat) (S : Option Pln), prgT (a ++ b) i S = match prgT a i S with | .inl x => .inl x | .inr S' => prgT b (i + a.length) S'
  | [], b, i, S => rfl
  | x :: t, b, i, S => by
    rw [List.cons_append, prgT_cons, prgT_cons]
    cases takeT S x with
    | inl e => rfl
    | inr S' =>
      dsimp only
      rw [prgT_append t b (i + 1) S', show i + 1 + t.length = i + (x :: t).length from by simp; omega]
theorem prgT_one (x : ByteArray) (i : Nat) (S : Option Pln) : prgT [x] i S = match takeT S x with | .inl e => .inl (i, e) | .inr S' => .inr S' := rfl
theorem prgT_next {X : List ByteArray} {k : Nat} {S S' : Option Pln} (hk : k < X.length) (h : prgT (X.take k) 0 none = .inr S) (hl : takeT S X[k] = .inr S') : prgT (X.take (k + 1)) 0 none = .inr S' := by
  rw [List.take_succ_eq_append_getElem hk, prgT_append, h]
  dsimp only
  rw [prgT_one, hl]
theorem prgT_bad {X : List ByteArray} {k : Nat} {S : Option Pln} {e : Int} (hk : k < X.length) (h : prgT (X.take k) 0 none = .inr S) (hl : takeT S X[k] = .inl e) : prgT X 0 none = .inl (k, e) := by
  have hx : X = X.take k ++ X[k] :: X.drop (k + 1) := by rw [← List.drop_eq_getElem_cons hk, List.take_append_drop]
  have : prgT (X.take k ++ X[k] :: X.drop (k + 1)) 0 none = .inl (k, e) := by
    rw [prgT_append, h]
    dsimp only
    rw [List.length_take, Nat.min_eq_left (by omega), Nat.zero_add, prgT_cons, hl]
  rw [hx]
  simpa using this
theorem parT_long {s : ByteArray} (h : 32768 < s.size) : parT s = (pln0, 0, 3) := by unfold parT; rw [if_pos h]
theorem parT_bad {s : ByteArray} (h : ¬ 32768 < s.size) {k : Nat} {S : Option Pln} {e : Int} (hk : k < (lnB s).length) (hg : prgT ((lnB s).take k) 0 none = .inr S) (hl : takeT S (lnB s)[k] = .inl e) : parT s = (pln0, (k : Int) + 1, e) := by
  unfold parT
  rw [if_neg h, prgT_bad hk hg hl]
theorem parT_none {s : ByteArray} (h : ¬ 32768 < s.size) (hg : prgT (lnB s) 0 none = .inr none) : parT s = (pln0, ((lnB s).length : Int), 2) := by
  unfold parT
  rw [if_neg h, hg]
theorem parT_good {s : ByteArray} (h : ¬ 32768 < s.size) {P : Pln} (hg : prgT (lnB s) 0 none = .inr (some P)) : parT s = if chk P = 0 then (P, ((lnB s).length : Int), 0) else (pln0, ((lnB s).length : Int), chk P) := by
  unfold parT
  rw [if_neg h, hg]
def toldT (P : Pln) (x : Prt) : ByteArray := if 0 ≤ x.e ∧ x.e < P.es.length ∧ 0 ≤ x.x ∧ x.x ≤ 9 then (P.es.getD x.e.toNat default).n ++ ⟨#[46]⟩ ++ dgs x.x else ⟨#[]⟩
def kindT (k : Int) : ByteArray := if k = 1 then bTrack else if k = 2 then bPoints else if k = 3 then bCross else bGateE
def wordsH (P : Pln) : List ByteArray := [bPlan, dgs P.top, dgs P.brake, dgs P.margin, dgs P.throw, if P.hard = true then bHard else bSoft]
def wordsE (e : Ele) : List ByteArray := if e.k = 4 then [bGateE, e.n] else [kindT e.k, e.n, dgs e.l]
def wordsJ (P : Pln) (j : Jn) : List ByteArray := [bJoin, toldT P j.a, toldT P j.b]
def wordsG (P : Pln) (s : Sg) : List ByteArray := [bSignal, s.n, toldT P s.at_] ++ if s.auto = true then [bAuto] else []
def wordsN (P : Pln) (l : Ln) : List ByteArray := bLine :: l.n :: l.es.map fun e => (P.es.getD e.toNat default).n
def rowsT (P : Pln) : List ByteArray := jnW (wordsH P) :: (P.es.map (fun e => jnW (wordsE e)) ++ P.js.map (fun j => jnW (wordsJ P j)) ++ P.ss.map (fun s => jnW (wordsG P s)) ++ P.ls.map (fun l => jnW (wordsN P l)))
def printT (P : Pln) : ByteArray := unl (rowsT P)
end Go.Proofs.YtjblplflgiibdaaDoor
namespace Go.Proofs.YtjblplflgiibdaaDoor
open Go.ChangeShapes Go.WideShapes Go.ChangeAt Go.RowKit Go.Maps
set_option linter.unusedVariables false
set_option linter.unusedSimpArgs false
theorem str_dec (a b : ByteArray) : (a.toList == b.toList) = decide (a = b) := by
  by_cases h : a = b
  · subst h; simp
  · rw [str_ne h, decide_eq_false h]
end Go.Proofs.YtjblplflgiibdaaDoor
namespace Go.Proofs.YtjblplflgiibdaaDoor
open Go.ChangeShapes Go.WideShapes Go.ChangeAt Go.RowKit Go.Maps
set_option linter.unusedVariables false
set_option linter.unusedSimpArgs false
def TwE (L : List Stk) (k : Nat) (E : Int) : Prop := (E = 4 ∧ twiceB (L.map (·.nm)) = true) ∨ (E = 0 ∧ ∀ i j (hi : i < L.length) (hj : j < i), i < k → L[j].nm ≠ L[i].nm)
theorem TwE.yes {L : List Stk} {k m : Nat} (hk : k < L.length) (hm : m < k) (h : L[m].nm = L[k].nm) : TwE L (k + 1) 4 := .inl ⟨rfl, twiceS_yes hk hm h⟩
theorem TwE.no {L : List Stk} {k : Nat} {E : Int} (h : TwE L k E) (hk : k < L.length) (hn : ∀ m (hm : m < k), L[m].nm ≠ L[k].nm) : TwE L (k + 1) E := by
  rcases h with h | ⟨rfl, h⟩
  · exact .inl h
  · refine .inr ⟨rfl, fun i j hi hj hik => ?_⟩
    by_cases e : i = k
    · subst e; exact hn j hj
    · exact h i j hi hj (by omega)
theorem TwE.done {L : List Stk} {E : Int} (h : TwE L L.length E) (h4 : ¬ 4 < L.length) (hm : ∀ i (hi : i < L.length), mayS L[i] = true) : plainE L = E := by
  unfold plainE
  rw [if_neg h4, allS_good hm, if_neg (by decide)]
  rcases h with ⟨rfl, h⟩ | ⟨rfl, h⟩
  · rw [h, if_pos rfl]
  · rw [twiceS_no (fun i k hi hk => h i k hi hk hi), if_neg (by decide)]
end Go.Proofs.YtjblplflgiibdaaDoor
namespace Go.Proofs.YtjblplflgiibdaaDoor
open Go.ChangeShapes Go.WideShapes Go.ChangeAt Go.RowKit Go.Maps
set_option linter.unusedVariables false
set_option linter.unusedSimpArgs false
end Go.Proofs.YtjblplflgiibdaaDoor
namespace Go.Proofs.YtjblplflgiibdaaDoor
open Go.ChangeShapes Go.WideShapes Go.ChangeAt Go.RowKit
set_option linter.unusedVariables false
set_option linter.unusedSimpArgs false

theorem shp_gr {w w' : World} (h : w.ShapedOpen Tryd.prog) (g : Gr w w') : w'.ShapedOpen Tryd.prog := h.keptBut (Below.frame g (fun _ => False)) (fun _ hh => hh.elim)
end Go.Proofs.YtjblplflgiibdaaDoor
namespace Go.Proofs.YtjblplflgiibdaaDoor
open Go.ChangeShapes Go.WideShapes Go.ChangeAt Go.RowKit
set_option linter.unusedVariables false
set_option linter.unusedSimpArgs false

structure Tabs (w : World) : Prop where
  pow : Lib.TabIs Tryd.prog w "internal/strconv.uint64pow10" .u64 Lib.pow10Tab
  sh : w.ShapedOpen Tryd.prog
theorem pow_named : Tryd.prog.globalNamed "internal/strconv.uint64pow10" = some 1 := by kernel_rfl
theorem Tabs.gr {w w' : World} (h : Tabs w) (g : Gr w w') : Tabs w' := by
  have hp := h.pow
  have hlt : 1 < w.heap.size := by
    unfold Lib.TabIs World.var? at hp
    rw [pow_named] at hp
    simp only [Option.bind_some] at hp
    rcases Nat.lt_or_ge 1 w.heap.size with hl | hl
    · exact hl
    · rw [Array.getElem?_eq_none hl] at hp
      cases hp
  exact ⟨var?_below g pow_named hlt hp, shp_gr h.sh g⟩
end Go.Proofs.YtjblplflgiibdaaDoor
