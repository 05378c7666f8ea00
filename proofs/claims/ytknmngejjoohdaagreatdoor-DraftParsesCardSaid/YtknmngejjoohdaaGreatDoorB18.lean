/- StT: Kinds of trains as texts, there and back: plain.
DrT: Plans as texts: what Parse reads, what Print tells. Plain.
StW: stock.may, May, Find, wrong, Check; the reference's Find, plain, Check.
StX: stock.wrong, Check; the reference's plain, Check.
StY: The reference's plain and Check; stock.Check.
Tab0: The memory's shape stays.
Tab1: What the walks need of the library's variables.
Wrd6: Digits.
StL: stock.line, Print; the reference's Line, Print.
Wrd5: word.Words.
StR: half.Numbers, half.Stock, stock.read; the reference's Row.
StS: half.Stock, stock.read; the reference's Row.
StU: The reference's Row. -/
import Derived.Test.YtknmngejjoohdaaGreatDoorRows
import Derived.Test.YtknmngejjoohdaaGreatDoorB17
import Derived.Test.YtknmngejjoohdaaGreatDoorB13
import Derived.Test.YtknmngejjoohdaaGreatDoorB3
import Derived.WalkSpells
import Derived.Test.YtknmngejjoohdaaGreatDoorB1
import Derived.ChangeAgain
import Derived.LaidMore
import Derived.Deep.DeepHandedRow
import Derived.Test.YtknmngejjoohdaaGreatDoorShelf
import Derived.Test.YtknmngejjoohdaaGreatDoorB16
import Derived.Deep.RegionWith
import Derived.Deep.Cut
import Derived.Deep.WholeRow
import Derived.Test.YtknmngejjoohdaaGreatDoorB15
import Derived.Deep.LoopGhost
import Derived.WalkMore
import Derived.Test.YtknmngejjoohdaaGreatDoorB12
import Derived.Test.YtknmngejjoohdaaGreatDoorB6
import Derived.Deep.RegionHeld3
namespace Go.Proofs.YtknmngejjoohdaaGreatDoor
open Go.ChangeShapes Go.WideShapes Go.ChangeAt Go.RowKit Go.Maps
set_option linter.unusedVariables false
set_option linter.unusedSimpArgs false
theorem app_data (a b : ByteArray) : (a ++ b).data.toList = a.data.toList ++ b.data.toList := by simp [ByteArray.data_append]
theorem nm_word {n : ByteArray} (h : nmB n = true) : wordB n := by
  unfold nmB at h
  simp only [Bool.and_eq_true, decide_eq_true_eq, List.all_eq_true, List.mem_range] at h
  refine wordB_of (by omega) fun j hj => ?_
  have := (okc_iff j (bt n j)).1 (h.2 j hj)
  omega
def lineB (x : ByteArray) : Prop := ∀ c ∈ x.data.toList, c ≠ 10
theorem word_line {x : ByteArray} (h : wordB x) : lineB x := fun c hc e => by
  have := h.2 c hc
  subst e
  revert this; decide
theorem line_app {a b : ByteArray} (ha : lineB a) (hb : lineB b) : lineB (a ++ b) := fun c hc => by
  rw [app_data, List.mem_append] at hc
  rcases hc with h | h
  · exact ha c h
  · exact hb c h
theorem line_blank : lineB ⟨#[32]⟩ := fun c hc => by
  have : c = 32 := by simpa using hc
  subst this; decide
theorem jnW_line : ∀ (L : List ByteArray), (∀ x ∈ L, lineB x) → lineB (jnW L)
  | [], _ => fun c hc => by simp [jnW, Lib.join] at hc
  | [b], h => by
    have e : jnW [b] = b := by
      show (⟨(Lib.join [b.data.toList] [32]).toArray⟩ : ByteArray) = b
      rw [Lib.join_one]
    rw [e]
    exact h b (by simp)
  | b :: a :: t, h => by
    rw [jnW_cons]
    exact line_app (line_app (h b (by simp)) line_blank) (jnW_line (a :: t) fun x hx => h x (List.mem_cons_of_mem _ hx))
def unl : List ByteArray → ByteArray
  | [] => ⟨#[]⟩
  | x :: t => x ++ ⟨#[10]⟩ ++ unl t
theorem unl_data : ∀ (L : List ByteArray), (unl L).data.toList = L.flatMap fun x => x.data.toList ++ [10]
  | [] => rfl
  | x :: t => by unfold unl; rw [app_data, app_data, unl_data t]; simp
theorem lnB_unl : ∀ (L : List ByteArray), (∀ x ∈ L, lineB x) → lnB (unl L) = L
  | [], _ => rfl
  | x :: t, h => by
    have ih := lnB_unl t fun y hy => h y (List.mem_cons_of_mem _ hy)
    unfold lnB at ih ⊢
    unfold unl
    rw [app_data, app_data, List.append_assoc, lnsA_pre _ _ _ (h x (by simp))]
    show (lnsA ([] ++ x.data.toList) (10 :: (unl t).data.toList)).map toB = _
    unfold lnsA
    rw [if_pos rfl, List.map_cons, ih, List.nil_append, toB_data]
theorem unl_lnsA : ∀ (l acc : List UInt8), (unl ((lnsA acc l).map toB)).data.toList = acc ++ l ∨ (unl ((lnsA acc l).map toB)).data.toList = acc ++ l ++ [10]
  | [], acc => by
    unfold lnsA
    by_cases h : acc = []
    · rw [if_pos h, h]; exact .inl rfl
    · rw [if_neg h]; right
      simp only [List.map_cons, List.map_nil, unl_data, List.flatMap_cons, List.flatMap_nil, List.append_nil]
      simp [toB]
  | c :: t, acc => by
    unfold lnsA
    by_cases h : c = 10
    · rw [if_pos h]
      subst h
      have ih := unl_lnsA t []
      rw [List.map_cons, unl, app_data, app_data]
      have e : (toB acc).data.toList = acc := by simp [toB]
      rw [e]
      rcases ih with ih | ih
      · left; rw [ih]; simp
      · right; rw [ih]; simp
    · rw [if_neg h]
      have ih := unl_lnsA t (acc ++ [c])
      rcases ih with ih | ih
      · left; rw [ih]; simp
      · right; rw [ih]; simp
theorem unl_lnB (s : ByteArray) : unl (lnB s) = s ∨ unl (lnB s) = s ++ ⟨#[10]⟩ := by
  have key : ∀ a b : ByteArray, a.data.toList = b.data.toList → a = b := fun a b h => ByteArray.ext (Array.toList_inj.1 h)
  rcases unl_lnsA s.data.toList [] with h | h
  · left; exact key _ _ (by unfold lnB; rw [h]; rfl)
  · right; refine key _ _ ?_
    rw [app_data]
    unfold lnB
    rw [h]; rfl
theorem nm_size {n : ByteArray} (h : nmB n = true) : n.size ≤ 8 := by
  unfold nmB at h
  simp only [Bool.and_eq_true, decide_eq_true_eq] at h
  exact h.1.2
end Go.Proofs.YtknmngejjoohdaaGreatDoor
namespace Go.Proofs.YtknmngejjoohdaaGreatDoor
open Go.ChangeShapes Go.WideShapes Go.ChangeAt Go.RowKit Go.Maps
set_option linter.unusedVariables false
set_option linter.unusedSimpArgs false
def bPlan : ByteArray := ⟨#[112, 108, 97, 110]⟩
def bSoft : ByteArray := ⟨#[115, 111, 102, 116]⟩
def bHard : ByteArray := ⟨#[104, 97, 114, 100]⟩
def bTrack : ByteArray := ⟨#[116, 114, 97, 99, 107]⟩
def bPoints : ByteArray := ⟨#[112, 111, 105, 110, 116, 115]⟩
def bCross : ByteArray := ⟨#[99, 114, 111, 115, 115]⟩
def bGateE : ByteArray := ⟨#[103, 97, 116, 101]⟩
def bJoin : ByteArray := ⟨#[106, 111, 105, 110]⟩
def bSignal : ByteArray := ⟨#[115, 105, 103, 110, 97, 108]⟩
def bAuto : ByteArray := ⟨#[97, 117, 116, 111]⟩
def bLine : ByteArray := ⟨#[108, 105, 110, 101]⟩
def portNm (s : ByteArray) : ByteArray := s.extract 0 (s.size - 2)
def portEn (s : ByteArray) : Int := bt s (s.size - 1) - 48
def portB (s : ByteArray) : Bool := decide (3 ≤ s.size) && decide (bt s (s.size - 2) = 46) && dgB (bt s (s.size - 1)) && nmB (portNm s)
def portP (P : Pln) (s : ByteArray) : Option Prt := if eleN P (portNm s) < 0 then none else some ⟨eleN P (portNm s), portEn s⟩
def pln0 : Pln := ⟨[], [], [], [], 0, 0, 0, 0, false⟩
def headW : List ByteArray → Option (Int × Int × Int × Int × Bool)
  | [p, a, b, c, d, h] => if p = bPlan ∧ (h = bSoft ∨ h = bHard) ∧ numB a 5 = true ∧ numB b 5 = true ∧ numB c 5 = true ∧ numB d 5 = true then some (numN a 5, numN b 5, numN c 5, numN d 5, decide (h = bHard)) else none
  | _ => none
def withH (P : Pln) (h : Int × Int × Int × Int × Bool) : Pln := { P with top := h.1, brake := h.2.1, margin := h.2.2.1, throw := h.2.2.2.1, hard := h.2.2.2.2 }
def kindW (v : ByteArray) : Int := if v = bTrack then 1 else if v = bPoints then 2 else if v = bCross then 3 else if v = bGateE then 4 else 0
def elemW (P : Pln) : List ByteArray → Int ⊕ Pln
  | [v, n] => if kindW v = 4 ∧ nmB n = true then .inr { P with es := P.es ++ [⟨n, 4, 0⟩] } else .inl 2
  | [v, n, d] => if kindW v ≠ 4 ∧ nmB n = true ∧ numB d 5 = true then .inr { P with es := P.es ++ [⟨n, kindW v, numN d 5⟩] } else .inl 2
  | _ => .inl 2
def joinW (P : Pln) : List ByteArray → Int ⊕ Pln
  | [_, a, b] => if portB a = true ∧ portB b = true then (match portP P a, portP P b with | some x, some y => .inr { P with js := P.js ++ [⟨x, y⟩] } | _, _ => .inl 5) else .inl 2
  | _ => .inl 2
def sig3 (P : Pln) (n p : ByteArray) (au : Bool) : Int ⊕ Pln :=
  if nmB n = true ∧ portB p = true then (match portP P p with | some x => .inr { P with ss := P.ss ++ [⟨n, x, au⟩] } | none => .inl 5) else .inl 2
def signalW (P : Pln) : List ByteArray → Int ⊕ Pln
  | [_, n, p] => sig3 P n p false
  | [_, n, p, q] => if q = bAuto then sig3 P n p true else .inl 2
  | _ => .inl 2
def lineWd (P : Pln) : List ByteArray → Int ⊕ Pln
  | _ :: n :: t => if t = [] ∨ 40 < t.length ∨ (n :: t).all nmB = false then .inl 2 else if t.any (fun s => decide (eleN P s < 0)) then .inl 5 else .inr { P with ls := P.ls ++ [⟨n, t.map (eleN P)⟩] }
  | _ => .inl 2
def rowW (P : Pln) (w : List ByteArray) : Int ⊕ Pln :=
  match w with
  | [] => .inl 2
  | v :: _ => if kindW v ≠ 0 then elemW P w else if v = bJoin then joinW P w else if v = bSignal then signalW P w else if v = bLine then lineWd P w else .inl 2
def skipB (x : ByteArray) : Bool := decide (x.size = 0) || decide (bt x 0 = 35)
def takeW (S : Option Pln) (w : List ByteArray) : Int ⊕ Option Pln :=
  match S with
  | none => (match headW w with | none => .inl 2 | some h => .inr (some (withH pln0 h)))
  | some P => (match rowW P w with | .inl e => .inl e | .inr Q => .inr (some Q))
def takeT (S : Option Pln) (x : ByteArray) : Int ⊕ Option Pln :=
  if skipB x = true then .inr S else match wdB x with | none => .inl 2 | some w => takeW S w
def prgT : List ByteArray → Nat → Option Pln → (Nat × Int) ⊕ Option Pln
  | [], _, S => .inr S
  | x :: t, i, S => match takeT S x with | .inl e => .inl (i, e) | .inr S' => prgT t (i + 1) S'
def parT (s : ByteArray) : Pln × Int × Int :=
  if 32768 < s.size then (pln0, 0, 3) else match prgT (lnB s) 0 none with
    | .inl (i, e) => (pln0, (i : Int) + 1, e)
    | .inr none => (pln0, (lnB s).length, 2)
    | .inr (some P) => if chk P = 0 then (P, (lnB s).length, 0) else (pln0, (lnB s).length, chk P)
theorem prgT_cons (x : ByteArray) (t : List ByteArray) (i : Nat) (S : Option Pln) : prgT (x :: t) i S = match takeT S x with | .inl e => .inl (i, e) | .inr S' => prgT t (i + 1) S' := rfl
theorem prgT_append : ∀ (a b : List ByteArray) (i : Nat) (S : Option Pln), prgT (a ++ b) i S = match prgT a i S with | .inl x => .inl x | .inr S' => prgT b (i + a.length) S'
  | [], b, i, S => rfl
  | x :: t, b, i, S => by
    rw [List.cons_append, prgT_cons, prgT_cons]
    cases takeT S x with
    | inl e => rfl
    | inr S' =>
      dsimp only
      rw [prgT_append t b (i + 1) S', show i + 1 + t.length = i + (x :: t).length from by simp; omega]
theorem prgT_one (x : ByteArray) (i : Nat) (S : Option Pln) : prgT [x] i S = match takeT S x with | .inl e => .inl (i, e) | .inr S' => .inr S' := rfl
theorem prgT_next {X : List ByteArray} {k : Nat} {S S' : Option Pln} (hk : k < X.length) (h : prgT (X.take k) 0 none = .inr S) (hl : takeT S X[k] = .inr S') : prgT (X.take (k + 1)) 0 none = .inr S' := by
  rw [List.take_succ_eq_append_getElem hk, prgT_append, h]
  dsimp only
  rw [prgT_one, hl]
theorem prgT_bad {X : List ByteArray} {k : Nat} {S : Option Pln} {e : Int} (hk : k < X.length) (h : prgT (X.take k) 0 none = .inr S) (hl : takeT S X[k] = .inl e) : prgT X 0 none = .inl (k, e) := by
  have hx : X = X.take k ++ X[k] :: X.drop (k + 1) := by rw [← List.drop_eq_getElem_cons hk, List.take_append_drop]
  have : prgT (X.take k ++ X[k] :: X.drop (k + 1)) 0 none = .inl (k, e) := by
    rw [prgT_append, h]
    dsimp only
    rw [List.length_take, Nat.min_eq_left (by omega), Nat.zero_add, prgT_cons, hl]
  rw [hx]
  simpa using this
theorem parT_long {s : ByteArray} (h : 32768 < s.size) : parT s = (pln0, 0, 3) := by unfold parT; rw [if_pos h]
theorem parT_bad {s : ByteArray} (h : ¬ 32768 < s.size) {k : Nat} {S : Option Pln} {e : Int} (hk : k < (lnB s).length) (hg : prgT ((lnB s).take k) 0 none = .inr S) (hl : takeT S (lnB s)[k] = .inl e) : parT s = (pln0, (k : Int) + 1, e) := by
  unfold parT
  rw [if_neg h, prgT_bad hk hg hl]
theorem parT_none {s : ByteArray} (h : ¬ 32768 < s.size) (hg : prgT (lnB s) 0 none = .inr none) : parT s = (pln0, ((lnB s).length : Int), 2) := by
  unfold parT
  rw [if_neg h, hg]
theorem parT_good {s : ByteArray} (h : ¬ 32768 < s.size) {P : Pln} (hg : prgT (lnB s) 0 none = .inr (some P)) : parT s = if chk P = 0 then (P, ((lnB s).length : Int), 0) else (pln0, ((lnB s).length : Int), chk P) := by
  unfold parT
  rw [if_neg h, hg]
def toldT (P : Pln) (x : Prt) : ByteArray := if 0 ≤ x.e ∧ x.e < P.es.length ∧ 0 ≤ x.x ∧ x.x ≤ 9 then (P.es.getD x.e.toNat default).n ++ ⟨#[46]⟩ ++ dgs x.x else ⟨#[]⟩
def kindT (k : Int) : ByteArray := if k = 1 then bTrack else if k = 2 then bPoints else if k = 3 then bCross else bGateE
def wordsH (P : Pln) : List ByteArray := [bPlan, dgs P.top, dgs P.brake, dgs P.margin, dgs P.throw, if P.hard = true then bHard else bSoft]
def wordsE (e : Ele) : List ByteArray := if e.k = 4 then [bGateE, e.n] else [kindT e.k, e.n, dgs e.l]
def wordsJ (P : Pln) (j : Jn) : List ByteArray := [bJoin, toldT P j.a, toldT P j.b]
def wordsG (P : Pln) (s : Sg) : List ByteArray := [bSignal, s.n, toldT P s.at_] ++ if s.auto = true then [bAuto] else []
def wordsN (P : Pln) (l : Ln) : List ByteArray := bLine :: l.n :: l.es.map fun e => (P.es.getD e.toNat default).n
def rowsT (P : Pln) : List ByteArray := jnW (wordsH P) :: (P.es.map (fun e => jnW (wordsE e)) ++ P.js.map (fun j => jnW (wordsJ P j)) ++ P.ss.map (fun s => jnW (wordsG P s)) ++ P.ls.map (fun l => jnW (wordsN P l)))
def printT (P : Pln) : ByteArray := unl (rowsT P)
end Go.Proofs.YtknmngejjoohdaaGreatDoor
namespace Go.Proofs.YtknmngejjoohdaaGreatDoor
open Go.ChangeShapes Go.WideShapes Go.ChangeAt Go.RowKit Go.Maps
set_option linter.unusedVariables false
set_option linter.unusedSimpArgs false
theorem str_dec (a b : ByteArray) : (a.toList == b.toList) = decide (a = b) := by
  by_cases h : a = b
  · subst h; simp
  · rw [str_ne h, decide_eq_false h]
end Go.Proofs.YtknmngejjoohdaaGreatDoor
namespace Go.Proofs.YtknmngejjoohdaaGreatDoor
open Go.ChangeShapes Go.WideShapes Go.ChangeAt Go.RowKit Go.Maps
set_option linter.unusedVariables false
set_option linter.unusedSimpArgs false
def TwE (L : List Stk) (k : Nat) (E : Int) : Prop := (E = 4 ∧ twiceB (L.map (·.nm)) = true) ∨ (E = 0 ∧ ∀ i j (hi : i < L.length) (hj : j < i), i < k → L[j].nm ≠ L[i].nm)
theorem TwE.yes {L : List Stk} {k m : Nat} (hk : k < L.length) (hm : m < k) (h : L[m].nm = L[k].nm) : TwE L (k + 1) 4 := .inl ⟨rfl, twiceS_yes hk hm h⟩
theorem TwE.no {L : List Stk} {k : Nat} {E : Int} (h : TwE L k E) (hk : k < L.length) (hn : ∀ m (hm : m < k), L[m].nm ≠ L[k].nm) : TwE L (k + 1) E := by
  rcases h with h | ⟨rfl, h⟩
  · exact .inl h
  · refine .inr ⟨rfl, fun i j hi hj hik => ?_⟩
    by_cases e : i = k
    · subst e; exact hn j hj
    · exact h i j hi hj (by omega)
theorem TwE.done {L : List Stk} {E : Int} (h : TwE L L.length E) (h4 : ¬ 4 < L.length) (hm : ∀ i (hi : i < L.length), mayS L[i] = true) : plainE L = E := by
  unfold plainE
  rw [if_neg h4, allS_good hm, if_neg (by decide)]
  rcases h with ⟨rfl, h⟩ | ⟨rfl, h⟩
  · rw [h, if_pos rfl]
  · rw [twiceS_no (fun i k hi hk => h i k hi hk hi), if_neg (by decide)]
end Go.Proofs.YtknmngejjoohdaaGreatDoor
namespace Go.Proofs.YtknmngejjoohdaaGreatDoor
open Go.ChangeShapes Go.WideShapes Go.ChangeAt Go.RowKit Go.Maps
set_option linter.unusedVariables false
set_option linter.unusedSimpArgs false
end Go.Proofs.YtknmngejjoohdaaGreatDoor
namespace Go.Proofs.YtknmngejjoohdaaGreatDoor
open Go.ChangeShapes Go.WideShapes Go.ChangeAt Go.RowKit
set_option linter.unusedVariables false
set_option linter.unusedSimpArgs false

theorem shp_gr {w w' : World} (h : w.ShapedOpen Tryz.prog) (g : Gr w w') : w'.ShapedOpen Tryz.prog := h.keptBut (Below.frame g (fun _ => False)) (fun _ hh => hh.elim)
end Go.Proofs.YtknmngejjoohdaaGreatDoor
namespace Go.Proofs.YtknmngejjoohdaaGreatDoor
open Go.ChangeShapes Go.WideShapes Go.ChangeAt Go.RowKit
set_option linter.unusedVariables false
set_option linter.unusedSimpArgs false

structure Tabs (w : World) : Prop where
  pow : Lib.TabIs Tryz.prog w "internal/strconv.uint64pow10" .u64 Lib.pow10Tab
  sh : w.ShapedOpen Tryz.prog
theorem pow_named : Tryz.prog.globalNamed "internal/strconv.uint64pow10" = some 1 := by kernel_rfl
theorem Tabs.gr {w w' : World} (h : Tabs w) (g : Gr w w') : Tabs w' := by
  have hp := h.pow
  have hlt : 1 < w.heap.size := by
    unfold Lib.TabIs World.var? at hp
    rw [pow_named] at hp
    simp only [Option.bind_some] at hp
    rcases Nat.lt_or_ge 1 w.heap.size with hl | hl
    · exact hl
    · rw [Array.getElem?_eq_none hl] at hp
      cases hp
  exact ⟨var?_below g pow_named hlt hp, shp_gr h.sh g⟩
end Go.Proofs.YtknmngejjoohdaaGreatDoor
namespace Go.Proofs.YtknmngejjoohdaaGreatDoor
open Go.ChangeShapes Go.WideShapes Go.ChangeAt Go.RowKit
set_option linter.unusedVariables false
set_option linter.unusedSimpArgs false

theorem Gr.grow {a w : World} (h : Gr a w) (os : Array Obj) : Gr a (Go.Sort.grow w os) :=
  Gr.trans h ⟨rfl, rfl, rfl, by simp [Go.Sort.grow], fun k hk => by
    show (w.heap ++ os)[k]? = _
    rw [Array.getElem?_append_left hk]⟩
theorem digits_word (n : Int) (hn : (Lit.int .i64 n).wf = true) (w : World) (ht : Tabs w) :
    Calls Tryz.prog 67 #[.int .i64 n] w fun e w' => e = .returned (.string (dgs n)) ∧ Gr w w' := by
  have hb : -9223372036854775808 ≤ n ∧ n ≤ 9223372036854775807 := by simpa [Lit.wf, IntKind.min, IntKind.max, IntKind.signed, IntKind.bits] using hn
  have hc := Tryz.strconv_Itoa n hb.1 hb.2 w ht.pow
  have HC := Lib.hid hc
  clear hc hb
  go_enter Tryz.func67, Tryz.ntmps67
  go_wp2_with fail
  refine HC.out.mono ?_
  rintro e w1 ⟨rfl, k, os, rfl⟩
  have hg : Gr w (Go.Sort.grow (w.drewN k) os) := ((Gr.refl w).drewN k).grow os
  go_wp2_with fail
  go_ret
  exact ⟨rfl, hg⟩
end Go.Proofs.YtknmngejjoohdaaGreatDoor
namespace Go.Proofs.YtknmngejjoohdaaGreatDoor
open Go.ChangeShapes Go.WideShapes Go.ChangeAt Go.RowKit Go.Maps
set_option linter.unusedVariables false
set_option linter.unusedSimpArgs false
theorem digits_of {n : Int} {w : World} (ht : Tabs w) (h0 : 0 ≤ n) (h1 : n ≤ 9999) (w' : World) (g : Gr w w') : Calls Tryz.prog 67 #[.int .i64 n] w' fun e w'' => e = .returned (.string (dgs n)) ∧ Gr w' w'' :=
  digits_word n (I64_of (by omega) (by omega)) w' (ht.gr g)
theorem own_ne {w : World} {B : Nat} {e : TypeId} {sz n : Nat} {v : Value} {xs : List Value} (h : w.ownsRow B e sz v n xs) {b : Nat} {cs : Array Value} {e' : TypeId} (hb : w.heap[b]? = some (.cells cs e')) (hne : e' ≠ e) : some b ≠ v.ownBlock := by
  intro hk
  rcases h.2 with ⟨rfl, _⟩ | ⟨g, cap, cur, rfl, _, hh, _⟩
  · cases hk
  · simp only [Value.ownBlock, Option.some.injEq] at hk
    subst hk
    rw [hb] at hh
    simp only [Option.some.injEq, Obj.cells.injEq] at hh
    exact hne hh.2.1
end Go.Proofs.YtknmngejjoohdaaGreatDoor
namespace Go.Proofs.YtknmngejjoohdaaGreatDoor
open Go.ChangeShapes Go.WideShapes Go.ChangeAt Go.RowKit
set_option linter.unusedVariables false
set_option linter.unusedSimpArgs false

theorem vals_row (w : World) (L : List ByteArray) (n : Nat) (h : L.length = n) (hm : L.length ≤ maxLen) :
    IsVals (w.alloc (.cells (L.map Value.string).toArray 9)) (.slice (some ⟨w.heap.size, 0, none⟩) n n) (L.map Value.string) := by
  subst h
  refine ⟨some ⟨w.heap.size, 0, none⟩, L.length, by simp, by simpa using hm, .inr ⟨w.heap.size, 0, rfl, by simp, ?_⟩⟩
  intro i x hx
  rw [World.cell?_alloc_mark]
  simpa using hx
theorem split_any (s : ByteArray) (w : World) (h : w.ShapedOpen Tryz.prog) (hs : s.size ≤ 1048576) :
    Calls Tryz.prog 124 #[.string s, .string blank] w fun e w' => e = .returned (.slice (some ⟨w.heap.size, 0, none⟩) (pcs s).length (pcs s).length) ∧ w' = w.alloc (.cells ((pcs s).map Value.string).toArray 9) := by
  have := Tryz.strings_Split_shaped s blank w h (by omega) (by rw [blank_size]; omega)
  rw [pcs_split, ← pcs_len] at this
  exact this
theorem toList_nil5 {s : ByteArray} : (s.toList = []) ↔ s.size = 0 := by
  rw [ByteArray.toList_eq]
  have hl : s.data.toList.length = s.size := by simp
  rw [← hl, List.length_eq_zero_iff]
theorem bad_none {s : ByteArray} {k : Nat} (hk : k < (pcs s).length) (h : okB (pcs s)[k] = false) : wdB s = none := by
  rw [wdB_pcs, if_neg]
  intro ha
  rw [List.all_eq_true] at ha
  rw [ha _ (List.getElem_mem hk)] at h
  cases h
theorem good_some {s : ByteArray} (h : ∀ (k : Nat) (hk : k < (pcs s).length), okB (pcs s)[k] = true) : wdB s = some (pcs s) := by
  rw [wdB_pcs, if_pos]
  rw [List.all_eq_true]
  intro x hx
  obtain ⟨k, hk, rfl⟩ := List.mem_iff_getElem.1 hx
  exact h k hk
theorem okB_no {x : ByteArray} (h : ¬ (0 < x.size ∧ ∀ (i : Nat) (h : i < x.size), 33 ≤ ((x[i]).toNat : Int) ∧ ((x[i]).toNat : Int) ≤ 126)) : okB x = false := by
  cases hq : okB x with
  | false => rfl
  | true => exact absurd ((okB_iff x).1 hq) h
set_option maxRecDepth 100000 in
set_option maxHeartbeats 1000000 in
theorem words_cap (s : ByteArray) (hs : s.size ≤ 1048576) (w : World) (ht : w.ShapedOpen Tryz.prog) :
    Calls Tryz.prog 63 #[.string s] w (RetWc w (wdB s)) := by
  have hsp := split_any s w ht hs
  have hlen : (pcs s).length ≤ 1048577 := by
    rw [pcs_len]
    have := Lib.countB_le blank (by rw [blank_size]; omega) s.size s (Nat.le_refl _)
    omega
  have hv := vals_row w (pcs s) (pcs s).length rfl (by unfold maxLen; omega)
  have hg : Gr w (w.alloc (.cells ((pcs s).map Value.string).toArray 9)) := (Gr.refl _).alloc _
  obtain ⟨P, hP⟩ : ∃ P, P = pcs s := ⟨_, rfl⟩
  obtain ⟨w1, hw1⟩ : ∃ w1, w1 = w.alloc (.cells ((pcs s).map Value.string).toArray 9) := ⟨_, rfl⟩
  rw [← hw1] at hsp hv hg
  rw [← hP] at hsp hv hlen
  have HB : Hid (∀ (k : Nat) (hk : k < P.length), okB P[k] = false → wdB s = none) := by
    subst hP; exact fun k hk h => bad_none hk h
  have HG : Hid ((∀ (k : Nat) (hk : k < P.length), okB P[k] = true) → wdB s = some P) := by
    subst hP; exact fun h => good_some h
  have HM : Hid (∀ (k : Nat) (hk : k < P.length), P[k].size ≤ s.size) := by
    subst hP; exact fun k hk => pcs_size (List.getElem_mem hk)
  have HS := Lib.hid hsp
  have HV := Lib.hid hv
  clear hP hw1 hsp hv
  go_enter Tryz.func63, Tryz.ntmps63
  go_wp2_with fail
  go_step3
  go_wp2_with fail
  refine HS.out.mono ?_
  rintro e w2 ⟨rfl, rfl⟩
  go_wp2_with fail
  go_step3
  go_wp2_with fail
  go_loopg [6, 7, 12] P.length (fun gh _ _ x12 wx => ∃ k : Nat, k + gh = P.length ∧ x12 = .int .i64 k ∧ Hid (∀ (j : Nat) (hj : j < P.length), j < k → okB P[j] = true) ∧ w2 = wx)
  case atStart => exact ⟨0, by omega, rfl, fun j hj h => by omega, rfl⟩
  case round =>
    obtain ⟨k, hkg, rfl, HA, rfl⟩ := hrel
    have HKG := Lib.hid hkg
    clear hkg
    by_cases hlt : k < P.length
    · obtain ⟨bb, oo, eb, zlt, cx⟩ := vals_at HV.out k hlt
      simp only [Option.some.injEq, Addr.mk.injEq, and_true] at eb
      obtain ⟨rfl, rfl⟩ := eb
      rw [Nat.zero_add] at cx
      have hbad := HB.out k hlt
      have hmx := HM.out k hlt
      have HI := Lib.hid (okB_iff P[k])
      have HA' : Hid (okB P[k] = true → ∀ (j : Nat) (hj : j < P.length), j < k + 1 → okB P[j] = true) := by
        intro h j hj hj2
        by_cases e : j = k
        · subst e; exact h
        · exact HA.out j hj (by omega)
      obtain ⟨x, hx⟩ : ∃ x, x = P[k] := ⟨_, rfl⟩
      rw [← hx] at cx hbad HI HA' hmx
      have HBAD := Lib.hid hbad
      clear hx hbad HA
      have k1 : (k : Int) < (P.length : Int) := by omega
      by_cases h0 : x.size = 0
      · have hz : x.toList.isEmpty = true := by rw [List.isEmpty_iff]; exact toList_nil5.2 h0
        have HN := Lib.hid (HBAD.out (okB_no (fun h => by omega)))
        clear h0 HI HA' HBAD
        go_wp2
        try rw [Exit.noGoto_ret]
        go_ret2
        exact RetWc.no HN.out hg
      · have hz : x.toList.isEmpty = false := by
          cases hq : x.toList.isEmpty with
          | false => rfl
          | true => exact absurd (toList_nil5.1 (List.isEmpty_iff.1 hq)) h0
        have hx0 : 0 < x.size := by omega
        clear h0
        go_wp2_with fail
        go_loopg [7, 24, 35] x.size (fun g2 x7 _ _ wy => ∃ j : Nat, j + g2 = x.size ∧ x7 = .int .i64 j ∧ j < x.size ∧ Hid (∀ (i : Nat) (h : i < x.size), i < j → 33 ≤ ((x[i]).toNat : Int) ∧ ((x[i]).toNat : Int) ≤ 126) ∧ w2 = wy)
        case atStart => exact ⟨0, by omega, rfl, hx0, fun i h h2 => by omega, rfl⟩
        case round =>
          obtain ⟨j, hjg, rfl, hj, HJ, rfl⟩ := hrel
          have HJG := Lib.hid hjg
          clear hjg
          have j1 : (j : Int) < (x.size : Int) := by omega
          by_cases hw : 33 ≤ ((x[j]).toNat : Int) ∧ ((x[j]).toNat : Int) ≤ 126
          · have HJ' : Hid (∀ (i : Nat) (h : i < x.size), i < j + 1 → 33 ≤ ((x[i]).toNat : Int) ∧ ((x[i]).toNat : Int) ≤ 126) := by
              intro i h h2
              by_cases e : i = j
              · subst e; exact hw
              · exact HJ.out i h (by omega)
            obtain ⟨hw1, hw2⟩ := hw
            clear HJ
            by_cases hl : j + 1 = x.size
            · have t1 : ((j : Int) == (x.size : Int) - 1) = true := by simp; omega
              have HN : Hid (∀ (j : Nat) (hj : j < P.length), j < k + 1 → okB P[j] = true) := HA'.out (HI.out.2 ⟨hx0, fun i h => HJ'.out i h (by omega)⟩)
              clear hl HJ' HI
              go_wp2
              go_roundg (P.length - (k + 1))
              case measure => have := HKG.out; omega
              case rel => exact ⟨k + 1, by have := HKG.out; omega, by go_num, HN.out, rfl⟩
            · have t1 : ((j : Int) == (x.size : Int) - 1) = false := by simp; omega
              have hl2 : j + 1 < x.size := by omega
              clear hl
              go_wp2
              go_roundg (x.size - (j + 1))
              case measure => have := HJG.out; omega
              case rel => exact ⟨j + 1, by have := HJG.out; omega, by go_num, hl2, HJ'.out, rfl⟩
          · have HN := Lib.hid (HBAD.out (okB_no (fun h => hw (h.2 j hj))))
            have hw' : ¬ 33 ≤ ((x[j]).toNat : Int) ∨ ¬ ((x[j]).toNat : Int) ≤ 126 := by
              rcases Classical.em (33 ≤ ((x[j]).toNat : Int)) with h | h
              · right; intro h2; exact hw ⟨h, h2⟩
              · exact .inl h
            clear hw HJ HI HA' HBAD
            rcases hw' with hw' | hw'
            all_goals
              go_wp2
              all_goals try rw [Exit.noGoto_ret]
              all_goals go_ret2
              all_goals exact RetWc.no HN.out hg
    · have HN := Lib.hid (HG.out fun j hj => HA.out j hj (by omega))
      clear HA
      go_wp2
      try rw [Exit.noGoto_ret]
      go_ret2
      exact RetWc.yes HN.out HV.out (fun a n c e => by cases e; exact Nat.le_refl _) hg
end Go.Proofs.YtknmngejjoohdaaGreatDoor
namespace Go.Proofs.YtknmngejjoohdaaGreatDoor
open Go.ChangeShapes Go.WideShapes Go.ChangeAt Go.RowKit Go.Maps
set_option linter.unusedVariables false
set_option linter.unusedSimpArgs false
def nums (l : List ByteArray) : Option (List Int) := if l.all (fun x => numB x 4) then some (l.map fun x => numN x 4) else none
def RetNm (w : World) (o : Option (List Int)) (e : Ending) (w' : World) : Prop :=
  ∃ v, e = .returned (.tuple #[v, .bool o.isSome]) ∧ IsVals w' v ((o.getD []).map (Value.int .i64)) ∧ Gr w w'
theorem RetNm.no {w w' : World} {o : Option (List Int)} (h : o = none) (g : Gr w w') : RetNm w o (.returned (.tuple #[.slice none 0 0, .bool false])) w' := by
  subst h; exact ⟨_, rfl, ⟨none, 0, rfl, by simp, .inl rfl⟩, g⟩
theorem RetNm.yes {w w' : World} {o : Option (List Int)} {L : List Int} {v : Value} (h : o = some L) (hv : IsVals w' v (L.map (Value.int .i64))) (g : Gr w w') : RetNm w o (.returned (.tuple #[v, .bool true])) w' := by
  subst h; exact ⟨_, rfl, hv, g⟩
end Go.Proofs.YtknmngejjoohdaaGreatDoor
namespace Go.Proofs.YtknmngejjoohdaaGreatDoor
open Go.ChangeShapes Go.WideShapes Go.ChangeAt Go.RowKit Go.Maps
set_option linter.unusedVariables false
set_option linter.unusedSimpArgs false
end Go.Proofs.YtknmngejjoohdaaGreatDoor
namespace Go.Proofs.YtknmngejjoohdaaGreatDoor
open Go.ChangeShapes Go.WideShapes Go.ChangeAt Go.RowKit Go.Maps
set_option linter.unusedVariables false
set_option linter.unusedSimpArgs false
structure RowW (w wr : World) (m0 m1 m2 m3 : Int) : Prop where
  gr : Gr w wr
  lt : w.heap.size + 1 < wr.heap.size
  k0 : wr.cell? ⟨w.heap.size, 0, none⟩ = some (.string ⟨#[]⟩)
  k1 : wr.cell? ⟨w.heap.size, 1, none⟩ = some (.int .i64 0)
  k2 : wr.cell? ⟨w.heap.size, 2, none⟩ = some (.int .i64 0)
  k3 : wr.cell? ⟨w.heap.size, 3, none⟩ = some (.int .i64 0)
  k4 : wr.cell? ⟨w.heap.size, 4, none⟩ = some (.int .i64 0)
  f0 : wr.frozen? ⟨w.heap.size, 0, none⟩ = false
  f1 : wr.frozen? ⟨w.heap.size, 1, none⟩ = false
  f2 : wr.frozen? ⟨w.heap.size, 2, none⟩ = false
  f3 : wr.frozen? ⟨w.heap.size, 3, none⟩ = false
  f4 : wr.frozen? ⟨w.heap.size, 4, none⟩ = false
  m0 : wr.cell? ⟨w.heap.size + 1, 0, none⟩ = some (.int .i64 m0)
  m1 : wr.cell? ⟨w.heap.size + 1, 1, none⟩ = some (.int .i64 m1)
  m2 : wr.cell? ⟨w.heap.size + 1, 2, none⟩ = some (.int .i64 m2)
  m3 : wr.cell? ⟨w.heap.size + 1, 3, none⟩ = some (.int .i64 m3)
  e0 : wr.frozen? ⟨w.heap.size + 1, 0, none⟩ = false
  e1 : wr.frozen? ⟨w.heap.size + 1, 1, none⟩ = false
  e2 : wr.frozen? ⟨w.heap.size + 1, 2, none⟩ = false
  e3 : wr.frozen? ⟨w.heap.size + 1, 3, none⟩ = false
theorem RowW.put {w wr : World} {m0 m1 m2 m3 : Int} (h : RowW w wr m0 m1 m2 m3) (k : Nat) (n : Int) :
    RowW w (wr.setCell ⟨w.heap.size + 1, k, none⟩ (.int .i64 n)) (if k = 0 then n else m0) (if k = 1 then n else m1) (if k = 2 then n else m2) (if k = 3 then n else m3) := by
  have ne : ∀ j, (⟨w.heap.size + 1, k, none⟩ : Addr) ≠ ⟨w.heap.size, j, none⟩ := fun j e => by simp at e
  have key : ∀ (j : Nat) (m : Int), wr.cell? ⟨w.heap.size + 1, j, none⟩ = some (.int .i64 m) → (wr.setCell ⟨w.heap.size + 1, k, none⟩ (.int .i64 n)).cell? ⟨w.heap.size + 1, j, none⟩ = some (.int .i64 (if k = j then n else m)) := fun j m hj => by
    by_cases e : k = j
    · subst e; rw [if_pos rfl]; exact World.cell?_setCell_same _ _ _ hj
    · rw [if_neg e]; exact (World.cell?_setCell_other _ _ _ _ (fun e2 => e (by injection e2))).trans hj
  exact ⟨h.gr.setCell (Nat.le_succ _) _, (by simpa using h.lt), (World.cell?_setCell_other _ _ _ _ (ne 0)).trans h.k0, (World.cell?_setCell_other _ _ _ _ (ne 1)).trans h.k1, (World.cell?_setCell_other _ _ _ _ (ne 2)).trans h.k2, (World.cell?_setCell_other _ _ _ _ (ne 3)).trans h.k3, (World.cell?_setCell_other _ _ _ _ (ne 4)).trans h.k4,
    by simpa using h.f0, by simpa using h.f1, by simpa using h.f2, by simpa using h.f3, by simpa using h.f4, key 0 _ h.m0, key 1 _ h.m1, key 2 _ h.m2, key 3 _ h.m3, by simpa using h.e0, by simpa using h.e1, by simpa using h.e2, by simpa using h.e3⟩
end Go.Proofs.YtknmngejjoohdaaGreatDoor
