/- DrT: Plans as texts: what Parse reads, what Print tells. Plain.
StW: stock.may, May, Find, wrong, Check; the reference's Find, plain, Check.
StX: stock.wrong, Check; the reference's plain, Check.
StY: The reference's plain and Check; stock.Check.
Tab0: The memory's shape stays.
Tab1: What the walks need of the library's variables.
Wrd6: Digits.
StL: stock.line, Print; the reference's Line, Print.
Wrd5: word.Words.
StR: half.Numbers, half.Stock, stock.read; the reference's Row.
StS: half.Stock, stock.read; the reference's Row.
StU: The reference's Row.
Wrd1: Lines and words: the document's Lines.
Wrd2: word.Lines.
StV: stock.read, Parse; the reference's Parse.
DrU: A plan that may be, as a text: read as it was. Plain.
DrV: A plan that may be, as a text: the lines of tracks, the first line, the whole, its length. Plain.
DrW: A plan that may be, as a text: its lines, how long it is, and that it is read as it was. Plain. -/
import Derived.Test.YtjblplflgiibdaaGreatDoorRows
import Derived.Test.YtjblplflgiibdaaGreatDoorB8
import Derived.Test.YtjblplflgiibdaaGreatDoorB6
import Derived.Test.YtjblplflgiibdaaGreatDoorB2
import Derived.WalkSpells
import Derived.Test.YtjblplflgiibdaaGreatDoorB1
import Derived.ChangeAgain
import Derived.LaidMore
import Derived.Deep.DeepHandedRow
import Derived.Test.YtjblplflgiibdaaGreatDoorShelf
import Derived.Deep.RegionWith
import Derived.Deep.Cut
import Derived.Deep.WholeRow
import Derived.Test.YtjblplflgiibdaaGreatDoorB7
import Derived.Deep.LoopGhost
import Derived.WalkMore
import Derived.Test.YtjblplflgiibdaaGreatDoorB3
import Derived.Deep.RegionHeld3
namespace Go.Proofs.YtjblplflgiibdaaGreatDoor
open Go.ChangeShapes Go.WideShapes Go.ChangeAt Go.RowKit Go.Maps
set_option linter.unusedVariables false
set_option linter.unusedSimpArgs false
def bPlan : ByteArray := ⟨#[112, 108, 97, 110]⟩
def bSoft : ByteArray := ⟨#[115, 111, 102, 116]⟩
def bHard : ByteArray := ⟨#[104, 97, 114, 100]⟩
def bTrack : ByteArray := ⟨#[116, 114, 97, 99, 107]⟩
def bPoints : ByteArray := ⟨#[112, 111, 105, 110, 116, 115]⟩
def bCross : ByteArray := ⟨#[99, 114, 111, 115, 115]⟩
def bGateE : ByteArray := ⟨#[103, 97, 116, 101]⟩
def bJoin : ByteArray := ⟨#[106, 111, 105, 110]⟩
def bSignal : ByteArray := ⟨#[115, 105, 103, 110, 97, 108]⟩
def bAuto : ByteArray := ⟨#[97, 117, 116, 111]⟩
def bLine : ByteArray := ⟨#[108, 105, 110, 101]⟩
def portNm (s : ByteArray) : ByteArray := s.extract 0 (s.size - 2)
def portEn (s : ByteArray) : Int := bt s (s.size - 1) - 48
def portB (s : ByteArray) : Bool := decide (3 ≤ s.size) && decide (bt s (s.size - 2) = 46) && dgB (bt s (s.size - 1)) && nmB (portNm s)
def portP (P : Pln) (s : ByteArray) : Option Prt := if eleN P (portNm s) < 0 then none else some ⟨eleN P (portNm s), portEn s⟩
def pln0 : Pln := ⟨[], [], [], [], 0, 0, 0, 0, false⟩
def headW : List ByteArray → Option (Int × Int × Int × Int × Bool)
  | [p, a, b, c, d, h] => if p = bPlan ∧ (h = bSoft ∨ h = bHard) ∧ numB a 5 = true ∧ numB b 5 = true ∧ numB c 5 = true ∧ numB d 5 = true then some (numN a 5, numN b 5, numN c 5, numN d 5, decide (h = bHard)) else none
  | _ => none
def withH (P : Pln) (h : Int × Int × Int × Int × Bool) : Pln := { P with top := h.1, brake := h.2.1, margin := h.2.2.1, throw := h.2.2.2.1, hard := h.2.2.2.2 }
def kindW (v : ByteArray) : Int := if v = bTrack then 1 else if v = bPoints then 2 else if v = bCross then 3 else if v = bGateE then 4 else 0
def elemW (P : Pln) : List ByteArray → Int ⊕ Pln
  | [v, n] => if kindW v = 4 ∧ nmB n = true then .inr { P with es := P.es ++ [⟨n, 4, 0⟩] } else .inl 2
  | [v, n, d] => if kindW v ≠ 4 ∧ nmB n = true ∧ numB d 5 = true then .inr { P with es := P.es ++ [⟨n, kindW v, numN d 5⟩] } else .inl 2
  | _ => .inl 2
def joinW (P : Pln) : List ByteArray → Int ⊕ Pln
  | [_, a, b] => if portB a = true ∧ portB b = true then (match portP P a, portP P b with | some x, some y => .inr { P with js := P.js ++ [⟨x, y⟩] } | _, _ => .inl 5) else .inl 2
  | _ => .inl 2
def sig3 (P : Pln) (n p : ByteArray) (au : Bool) : Int ⊕ Pln :=
  if nmB n = true ∧ portB p = true then (match portP P p with | some x => .inr { P with ss := P.ss ++ [⟨n, x, au⟩] } | none => .inl 5) else .inl 2
def signalW (P : Pln) : List ByteArray → Int ⊕ Pln
  | [_, n, p] => sig3 P n p false
  | [_, n, p, q] => if q = bAuto then sig3 P n p true else .inl 2
  | _ => .inl 2
def lineWd (P : Pln) : List ByteArray → Int ⊕ Pln
  | _ :: n :: t => if t = [] ∨ 40 < t.length ∨ (n :: t).all nmB = false then .inl 2 else if t.any (fun s => decide (eleN P s < 0)) then .inl 5 else .inr { P with ls := P.ls ++ [⟨n, t.map (eleN P)⟩] }
  | _ => .inl 2
def rowW (P : Pln) (w : List ByteArray) : Int ⊕ Pln :=
  match w with
  | [] => .inl 2
  | v :: _ => if kindW v ≠ 0 then elemW P w else if v = bJoin then joinW P w else if v = bSignal then signalW P w else if v = bLine then lineWd P w else .inl 2
def skipB (x : ByteArray) : Bool := decide (x.size = 0) || decide (bt x 0 = 35)
def takeW (S : Option Pln) (w : List ByteArray) : Int ⊕ Option Pln :=
  match S with
  | none => (match headW w with | none => .inl 2 | some h => .inr (some (withH pln0 h)))
  | some P => (match rowW P w with | .inl e => .inl e | .inr Q => .inr (some Q))
def takeT (S : Option Pln) (x : ByteArray) : Int ⊕ Option Pln :=
  if skipB x = true then .inr S else match wdB x with | none => .inl 2 | some w => takeW S w
def prgT : List ByteArray → Nat → Option Pln → (Nat × Int) ⊕ Option Pln
  | [], _, S => .inr S
  | x :: t, i, S => match takeT S x with | .inl e => .inl (i, e) | .inr S' => prgT t (i + 1) S'
def parT (s : ByteArray) : Pln × Int × Int :=
  if 32768 < s.size then (pln0, 0, 3) else match prgT (lnB s) 0 none with
    | .inl (i, e) => (pln0, (i : Int) + 1, e)
    | .inr none => (pln0, (lnB s).length, 2)
    | .inr (some P) => if chk P = 0 then (P, (lnB s).length, 0) else (pln0, (lnB s).length, chk P)
theorem prgT_cons (x : ByteArray) (t : List ByteArray) (i : Nat) (S : Option Pln) : prgT (x :: t) i S = match takeT S x with | .inl e => .inl (i, e) | .inr S' => prgT t (i + 1) S' := rfl
theorem prgT_append : ∀ (a b : List ByteArray) (i : Nat) (S : Option Pln), prgT (a ++ b) i S = match prgT a i S with | .inl x => .inl x | .inr S' => prgT b (i + a.length) S'
  | [], b, i, S => rfl
  | x :: t, b, i, S => by
    rw [List.cons_append, prgT_cons, prgT_cons]
    cases takeT S x with
    | inl e => rfl
    | inr S' =>
      dsimp only
      rw [prgT_append t b (i + 1) S', show i + 1 + t.length = i + (x :: t).length from by simp; omega]
theorem prgT_one (x : ByteArray) (i : Nat) (S : Option Pln) : prgT [x] i S = match takeT S x with | .inl e => .inl (i, e) | .inr S' => .inr S' := rfl
theorem prgT_next {X : List ByteArray} {k : Nat} {S S' : Option Pln} (hk : k < X.length) (h : prgT (X.take k) 0 none = .inr S) (hl : takeT S X[k] = .inr S') : prgT (X.take (k + 1)) 0 none = .inr S' := by
  rw [List.take_succ_eq_append_getElem hk, prgT_append, h]
  dsimp only
  rw [prgT_one, hl]
theorem prgT_bad {X : List ByteArray} {k : Nat} {S : Option Pln} {e : Int} (hk : k < X.length) (h : prgT (X.take k) 0 none = .inr S) (hl : takeT S X[k] = .inl e) : prgT X 0 none = .inl (k, e) := by
  have hx : X = X.take k ++ X[k] :: X.drop (k + 1) := by rw [← List.drop_eq_getElem_cons hk, List.take_append_drop]
  have : prgT (X.take k ++ X[k] :: X.drop (k + 1)) 0 none = .inl (k, e) := by
    rw [prgT_append, h]
    dsimp only
    rw [List.length_take, Nat.min_eq_left (by omega), Nat.zero_add, prgT_cons, hl]
  rw [hx]
  simpa using this
theorem parT_long {s : ByteArray} (h : 32768 < s.size) : parT s = (pln0, 0, 3) := by unfold parT; rw [if_pos h]
theorem parT_bad {s : ByteArray} (h : ¬ 32768 < s.size) {k : Nat} {S : Option Pln} {e : Int} (hk : k < (lnB s).length) (hg : prgT ((lnB s).take k) 0 none = .inr S) (hl : takeT S (lnB s)[k] = .inl e) : parT s = (pln0, (k : Int) + 1, e) := by
  unfold parT
  rw [if_neg h, prgT_bad hk hg hl]
theorem parT_none {s : ByteArray} (h : ¬ 32768 < s.size) (hg : prgT (lnB s) 0 none = .inr none) : parT s = (pln0, ((lnB s).length : Int), 2) := by
  unfold parT
  rw [if_neg h, hg]
theorem parT_good {s : ByteArray} (h : ¬ 32768 < s.size) {P : Pln} (hg : prgT (lnB s) 0 none = .inr (some P)) : parT s = if chk P = 0 then (P, ((lnB s).length : Int), 0) else (pln0, ((lnB s).length : Int), chk P) := by
  unfold parT
  rw [if_neg h, hg]
def toldT (P : Pln) (x : Prt) : ByteArray := if 0 ≤ x.e ∧ x.e < P.es.length ∧ 0 ≤ x.x ∧ x.x ≤ 9 then (P.es.getD x.e.toNat default).n ++ ⟨#[46]⟩ ++ dgs x.x else ⟨#[]⟩
def kindT (k : Int) : ByteArray := if k = 1 then bTrack else if k = 2 then bPoints else if k = 3 then bCross else bGateE
def wordsH (P : Pln) : List ByteArray := [bPlan, dgs P.top, dgs P.brake, dgs P.margin, dgs P.throw, if P.hard = true then bHard else bSoft]
def wordsE (e : Ele) : List ByteArray := if e.k = 4 then [bGateE, e.n] else [kindT e.k, e.n, dgs e.l]
def wordsJ (P : Pln) (j : Jn) : List ByteArray := [bJoin, toldT P j.a, toldT P j.b]
def wordsG (P : Pln) (s : Sg) : List ByteArray := [bSignal, s.n, toldT P s.at_] ++ if s.auto = true then [bAuto] else []
def wordsN (P : Pln) (l : Ln) : List ByteArray := bLine :: l.n :: l.es.map fun e => (P.es.getD e.toNat default).n
def rowsT (P : Pln) : List ByteArray := jnW (wordsH P) :: (P.es.map (fun e => jnW (wordsE e)) ++ P.js.map (fun j => jnW (wordsJ P j)) ++ P.ss.map (fun s => jnW (wordsG P s)) ++ P.ls.map (fun l => jnW (wordsN P l)))
def printT (P : Pln) : ByteArray := unl (rowsT P)
end Go.Proofs.YtjblplflgiibdaaGreatDoor
namespace Go.Proofs.YtjblplflgiibdaaGreatDoor
open Go.ChangeShapes Go.WideShapes Go.ChangeAt Go.RowKit Go.Maps
set_option linter.unusedVariables false
set_option linter.unusedSimpArgs false
theorem str_dec (a b : ByteArray) : (a.toList == b.toList) = decide (a = b) := by
  by_cases h : a = b
  · subst h; simp
  · rw [str_ne h, decide_eq_false h]
end Go.Proofs.YtjblplflgiibdaaGreatDoor
namespace Go.Proofs.YtjblplflgiibdaaGreatDoor
open Go.ChangeShapes Go.WideShapes Go.ChangeAt Go.RowKit Go.Maps
set_option linter.unusedVariables false
set_option linter.unusedSimpArgs false
def TwE (L : List Stk) (k : Nat) (E : Int) : Prop := (E = 4 ∧ twiceB (L.map (·.nm)) = true) ∨ (E = 0 ∧ ∀ i j (hi : i < L.length) (hj : j < i), i < k → L[j].nm ≠ L[i].nm)
theorem TwE.yes {L : List Stk} {k m : Nat} (hk : k < L.length) (hm : m < k) (h : L[m].nm = L[k].nm) : TwE L (k + 1) 4 := .inl ⟨rfl, twiceS_yes hk hm h⟩
theorem TwE.no {L : List Stk} {k : Nat} {E : Int} (h : TwE L k E) (hk : k < L.length) (hn : ∀ m (hm : m < k), L[m].nm ≠ L[k].nm) : TwE L (k + 1) E := by
  rcases h with h | ⟨rfl, h⟩
  · exact .inl h
  · refine .inr ⟨rfl, fun i j hi hj hik => ?_⟩
    by_cases e : i = k
    · subst e; exact hn j hj
    · exact h i j hi hj (by omega)
theorem TwE.done {L : List Stk} {E : Int} (h : TwE L L.length E) (h4 : ¬ 4 < L.length) (hm : ∀ i (hi : i < L.length), mayS L[i] = true) : plainE L = E := by
  unfold plainE
  rw [if_neg h4, allS_good hm, if_neg (by decide)]
  rcases h with ⟨rfl, h⟩ | ⟨rfl, h⟩
  · rw [h, if_pos rfl]
  · rw [twiceS_no (fun i k hi hk => h i k hi hk hi), if_neg (by decide)]
end Go.Proofs.YtjblplflgiibdaaGreatDoor
namespace Go.Proofs.YtjblplflgiibdaaGreatDoor
open Go.ChangeShapes Go.WideShapes Go.ChangeAt Go.RowKit Go.Maps
set_option linter.unusedVariables false
set_option linter.unusedSimpArgs false
end Go.Proofs.YtjblplflgiibdaaGreatDoor
namespace Go.Proofs.YtjblplflgiibdaaGreatDoor
open Go.ChangeShapes Go.WideShapes Go.ChangeAt Go.RowKit
set_option linter.unusedVariables false
set_option linter.unusedSimpArgs false

theorem shp_gr {w w' : World} (h : w.ShapedOpen Tryz.prog) (g : Gr w w') : w'.ShapedOpen Tryz.prog := h.keptBut (Below.frame g (fun _ => False)) (fun _ hh => hh.elim)
end Go.Proofs.YtjblplflgiibdaaGreatDoor
namespace Go.Proofs.YtjblplflgiibdaaGreatDoor
open Go.ChangeShapes Go.WideShapes Go.ChangeAt Go.RowKit
set_option linter.unusedVariables false
set_option linter.unusedSimpArgs false

structure Tabs (w : World) : Prop where
  pow : Lib.TabIs Tryz.prog w "internal/strconv.uint64pow10" .u64 Lib.pow10Tab
  sh : w.ShapedOpen Tryz.prog
theorem pow_named : Tryz.prog.globalNamed "internal/strconv.uint64pow10" = some 1 := by kernel_rfl
theorem Tabs.gr {w w' : World} (h : Tabs w) (g : Gr w w') : Tabs w' := by
  have hp := h.pow
  have hlt : 1 < w.heap.size := by
    unfold Lib.TabIs World.var? at hp
    rw [pow_named] at hp
    simp only [Option.bind_some] at hp
    rcases Nat.lt_or_ge 1 w.heap.size with hl | hl
    · exact hl
    · rw [Array.getElem?_eq_none hl] at hp
      cases hp
  exact ⟨var?_below g pow_named hlt hp, shp_gr h.sh g⟩
end Go.Proofs.YtjblplflgiibdaaGreatDoor
namespace Go.Proofs.YtjblplflgiibdaaGreatDoor
open Go.ChangeShapes Go.WideShapes Go.ChangeAt Go.RowKit
set_option linter.unusedVariables false
set_option linter.unusedSimpArgs false

theorem Gr.grow {a w : World} (h : Gr a w) (os : Array Obj) : Gr a (Go.Sort.grow w os) :=
  Gr.trans h ⟨rfl, rfl, rfl, by simp [Go.Sort.grow], fun k hk => by
    show (w.heap ++ os)[k]? = _
    rw [Array.getElem?_append_left hk]⟩
theorem digits_word (n : Int) (hn : (Lit.int .i64 n).wf = true) (w : World) (ht : Tabs w) :
    Calls Tryz.prog 32 #[.int .i64 n] w fun e w' => e = .returned (.string (dgs n)) ∧ Gr w w' := by
  have hb : -9223372036854775808 ≤ n ∧ n ≤ 9223372036854775807 := by simpa [Lit.wf, IntKind.min, IntKind.max, IntKind.signed, IntKind.bits] using hn
  have hc := Tryz.strconv_Itoa n hb.1 hb.2 w ht.pow
  have HC := Lib.hid hc
  clear hc hb
  go_enter Tryz.func32, Tryz.ntmps32
  go_wp2_with fail
  refine HC.out.mono ?_
  rintro e w1 ⟨rfl, k, os, rfl⟩
  have hg : Gr w (Go.Sort.grow (w.drewN k) os) := ((Gr.refl w).drewN k).grow os
  go_wp2_with fail
  go_ret
  exact ⟨rfl, hg⟩
end Go.Proofs.YtjblplflgiibdaaGreatDoor
namespace Go.Proofs.YtjblplflgiibdaaGreatDoor
open Go.ChangeShapes Go.WideShapes Go.ChangeAt Go.RowKit Go.Maps
set_option linter.unusedVariables false
set_option linter.unusedSimpArgs false
theorem digits_of {n : Int} {w : World} (ht : Tabs w) (h0 : 0 ≤ n) (h1 : n ≤ 9999) (w' : World) (g : Gr w w') : Calls Tryz.prog 32 #[.int .i64 n] w' fun e w'' => e = .returned (.string (dgs n)) ∧ Gr w' w'' :=
  digits_word n (I64_of (by omega) (by omega)) w' (ht.gr g)
theorem own_ne {w : World} {B : Nat} {e : TypeId} {sz n : Nat} {v : Value} {xs : List Value} (h : w.ownsRow B e sz v n xs) {b : Nat} {cs : Array Value} {e' : TypeId} (hb : w.heap[b]? = some (.cells cs e')) (hne : e' ≠ e) : some b ≠ v.ownBlock := by
  intro hk
  rcases h.2 with ⟨rfl, _⟩ | ⟨g, cap, cur, rfl, _, hh, _⟩
  · cases hk
  · simp only [Value.ownBlock, Option.some.injEq] at hk
    subst hk
    rw [hb] at hh
    simp only [Option.some.injEq, Obj.cells.injEq] at hh
    exact hne hh.2.1
end Go.Proofs.YtjblplflgiibdaaGreatDoor
namespace Go.Proofs.YtjblplflgiibdaaGreatDoor
open Go.ChangeShapes Go.WideShapes Go.ChangeAt Go.RowKit
set_option linter.unusedVariables false
set_option linter.unusedSimpArgs false

theorem vals_row (w : World) (L : List ByteArray) (n : Nat) (h : L.length = n) (hm : L.length ≤ maxLen) :
    IsVals (w.alloc (.cells (L.map Value.string).toArray 9)) (.slice (some ⟨w.heap.size, 0, none⟩) n n) (L.map Value.string) := by
  subst h
  refine ⟨some ⟨w.heap.size, 0, none⟩, L.length, by simp, by simpa using hm, .inr ⟨w.heap.size, 0, rfl, by simp, ?_⟩⟩
  intro i x hx
  rw [World.cell?_alloc_mark]
  simpa using hx
theorem split_any (s : ByteArray) (w : World) (h : w.ShapedOpen Tryz.prog) (hs : s.size ≤ 1048576) :
    Calls Tryz.prog 75 #[.string s, .string blank] w fun e w' => e = .returned (.slice (some ⟨w.heap.size, 0, none⟩) (pcs s).length (pcs s).length) ∧ w' = w.alloc (.cells ((pcs s).map Value.string).toArray 9) := by
  have := Tryz.strings_Split_shaped s blank w h (by omega) (by rw [blank_size]; omega)
  rw [pcs_split, ← pcs_len] at this
  exact this
theorem toList_nil5 {s : ByteArray} : (s.toList = []) ↔ s.size = 0 := by
  rw [ByteArray.toList_eq]
  have hl : s.data.toList.length = s.size := by simp
  rw [← hl, List.length_eq_zero_iff]
theorem bad_none {s : ByteArray} {k : Nat} (hk : k < (pcs s).length) (h : okB (pcs s)[k] = false) : wdB s = none := by
  rw [wdB_pcs, if_neg]
  intro ha
  rw [List.all_eq_true] at ha
  rw [ha _ (List.getElem_mem hk)] at h
  cases h
theorem good_some {s : ByteArray} (h : ∀ (k : Nat) (hk : k < (pcs s).length), okB (pcs s)[k] = true) : wdB s = some (pcs s) := by
  rw [wdB_pcs, if_pos]
  rw [List.all_eq_true]
  intro x hx
  obtain ⟨k, hk, rfl⟩ := List.mem_iff_getElem.1 hx
  exact h k hk
theorem okB_no {x : ByteArray} (h : ¬ (0 < x.size ∧ ∀ (i : Nat) (h : i < x.size), 33 ≤ ((x[i]).toNat : Int) ∧ ((x[i]).toNat : Int) ≤ 126)) : okB x = false := by
  cases hq : okB x with
  | false => rfl
  | true => exact absurd ((okB_iff x).1 hq) h
set_option maxRecDepth 100000 in
set_option maxHeartbeats 1000000 in
theorem words_cap (s : ByteArray) (hs : s.size ≤ 1048576) (w : World) (ht : w.ShapedOpen Tryz.prog) :
    Calls Tryz.prog 39 #[.string s] w (RetWc w (wdB s)) := by
  have hsp := split_any s w ht hs
  have hlen : (pcs s).length ≤ 1048577 := by
    rw [pcs_len]
    have := Lib.countB_le blank (by rw [blank_size]; omega) s.size s (Nat.le_refl _)
    omega
  have hv := vals_row w (pcs s) (pcs s).length rfl (by unfold maxLen; omega)
  have hg : Gr w (w.alloc (.cells ((pcs s).map Value.string).toArray 9)) := (Gr.refl _).alloc _
  obtain ⟨P, hP⟩ : ∃ P, P = pcs s := ⟨_, rfl⟩
  obtain ⟨w1, hw1⟩ : ∃ w1, w1 = w.alloc (.cells ((pcs s).map Value.string).toArray 9) := ⟨_, rfl⟩
  rw [← hw1] at hsp hv hg
  rw [← hP] at hsp hv hlen
  have HB : Hid (∀ (k : Nat) (hk : k < P.length), okB P[k] = false → wdB s = none) := by
    subst hP; exact fun k hk h => bad_none hk h
  have HG : Hid ((∀ (k : Nat) (hk : k < P.length), okB P[k] = true) → wdB s = some P) := by
    subst hP; exact fun h => good_some h
  have HM : Hid (∀ (k : Nat) (hk : k < P.length), P[k].size ≤ s.size) := by
    subst hP; exact fun k hk => pcs_size (List.getElem_mem hk)
  have HS := Lib.hid hsp
  have HV := Lib.hid hv
  clear hP hw1 hsp hv
  go_enter Tryz.func39, Tryz.ntmps39
  go_wp2_with fail
  go_step3
  go_wp2_with fail
  refine HS.out.mono ?_
  rintro e w2 ⟨rfl, rfl⟩
  go_wp2_with fail
  go_step3
  go_wp2_with fail
  go_loopg [6, 7, 12] P.length (fun gh _ _ x12 wx => ∃ k : Nat, k + gh = P.length ∧ x12 = .int .i64 k ∧ Hid (∀ (j : Nat) (hj : j < P.length), j < k → okB P[j] = true) ∧ w2 = wx)
  case atStart => exact ⟨0, by omega, rfl, fun j hj h => by omega, rfl⟩
  case round =>
    obtain ⟨k, hkg, rfl, HA, rfl⟩ := hrel
    have HKG := Lib.hid hkg
    clear hkg
    by_cases hlt : k < P.length
    · obtain ⟨bb, oo, eb, zlt, cx⟩ := vals_at HV.out k hlt
      simp only [Option.some.injEq, Addr.mk.injEq, and_true] at eb
      obtain ⟨rfl, rfl⟩ := eb
      rw [Nat.zero_add] at cx
      have hbad := HB.out k hlt
      have hmx := HM.out k hlt
      have HI := Lib.hid (okB_iff P[k])
      have HA' : Hid (okB P[k] = true → ∀ (j : Nat) (hj : j < P.length), j < k + 1 → okB P[j] = true) := by
        intro h j hj hj2
        by_cases e : j = k
        · subst e; exact h
        · exact HA.out j hj (by omega)
      obtain ⟨x, hx⟩ : ∃ x, x = P[k] := ⟨_, rfl⟩
      rw [← hx] at cx hbad HI HA' hmx
      have HBAD := Lib.hid hbad
      clear hx hbad HA
      have k1 : (k : Int) < (P.length : Int) := by omega
      by_cases h0 : x.size = 0
      · have hz : x.toList.isEmpty = true := by rw [List.isEmpty_iff]; exact toList_nil5.2 h0
        have HN := Lib.hid (HBAD.out (okB_no (fun h => by omega)))
        clear h0 HI HA' HBAD
        go_wp2
        try rw [Exit.noGoto_ret]
        go_ret2
        exact RetWc.no HN.out hg
      · have hz : x.toList.isEmpty = false := by
          cases hq : x.toList.isEmpty with
          | false => rfl
          | true => exact absurd (toList_nil5.1 (List.isEmpty_iff.1 hq)) h0
        have hx0 : 0 < x.size := by omega
        clear h0
        go_wp2_with fail
        go_loopg [7, 24, 35] x.size (fun g2 x7 _ _ wy => ∃ j : Nat, j + g2 = x.size ∧ x7 = .int .i64 j ∧ j < x.size ∧ Hid (∀ (i : Nat) (h : i < x.size), i < j → 33 ≤ ((x[i]).toNat : Int) ∧ ((x[i]).toNat : Int) ≤ 126) ∧ w2 = wy)
        case atStart => exact ⟨0, by omega, rfl, hx0, fun i h h2 => by omega, rfl⟩
        case round =>
          obtain ⟨j, hjg, rfl, hj, HJ, rfl⟩ := hrel
          have HJG := Lib.hid hjg
          clear hjg
          have j1 : (j : Int) < (x.size : Int) := by omega
          by_cases hw : 33 ≤ ((x[j]).toNat : Int) ∧ ((x[j]).toNat : Int) ≤ 126
          · have HJ' : Hid (∀ (i : Nat) (h : i < x.size), i < j + 1 → 33 ≤ ((x[i]).toNat : Int) ∧ ((x[i]).toNat : Int) ≤ 126) := by
              intro i h h2
              by_cases e : i = j
              · subst e; exact hw
              · exact HJ.out i h (by omega)
            obtain ⟨hw1, hw2⟩ := hw
            clear HJ
            by_cases hl : j + 1 = x.size
            · have t1 : ((j : Int) == (x.size : Int) - 1) = true := by simp; omega
              have HN : Hid (∀ (j : Nat) (hj : j < P.length), j < k + 1 → okB P[j] = true) := HA'.out (HI.out.2 ⟨hx0, fun i h => HJ'.out i h (by omega)⟩)
              clear hl HJ' HI
              go_wp2
              go_roundg (P.length - (k + 1))
              case measure => have := HKG.out; omega
              case rel => exact ⟨k + 1, by have := HKG.out; omega, by go_num, HN.out, rfl⟩
            · have t1 : ((j : Int) == (x.size : Int) - 1) = false := by simp; omega
              have hl2 : j + 1 < x.size := by omega
              clear hl
              go_wp2
              go_roundg (x.size - (j + 1))
              case measure => have := HJG.out; omega
              case rel => exact ⟨j + 1, by have := HJG.out; omega, by go_num, hl2, HJ'.out, rfl⟩
          · have HN := Lib.hid (HBAD.out (okB_no (fun h => hw (h.2 j hj))))
            have hw' : ¬ 33 ≤ ((x[j]).toNat : Int) ∨ ¬ ((x[j]).toNat : Int) ≤ 126 := by
              rcases Classical.em (33 ≤ ((x[j]).toNat : Int)) with h | h
              · right; intro h2; exact hw ⟨h, h2⟩
              · exact .inl h
            clear hw HJ HI HA' HBAD
            rcases hw' with hw' | hw'
            all_goals
              go_wp2
              all_goals try rw [Exit.noGoto_ret]
              all_goals go_ret2
              all_goals exact RetWc.no HN.out hg
    · have HN := Lib.hid (HG.out fun j hj => HA.out j hj (by omega))
      clear HA
      go_wp2
      try rw [Exit.noGoto_ret]
      go_ret2
      exact RetWc.yes HN.out HV.out (fun a n c e => by cases e; exact Nat.le_refl _) hg
end Go.Proofs.YtjblplflgiibdaaGreatDoor
namespace Go.Proofs.YtjblplflgiibdaaGreatDoor
open Go.ChangeShapes Go.WideShapes Go.ChangeAt Go.RowKit Go.Maps
set_option linter.unusedVariables false
set_option linter.unusedSimpArgs false
def nums (l : List ByteArray) : Option (List Int) := if l.all (fun x => numB x 4) then some (l.map fun x => numN x 4) else none
def RetNm (w : World) (o : Option (List Int)) (e : Ending) (w' : World) : Prop :=
  ∃ v, e = .returned (.tuple #[v, .bool o.isSome]) ∧ IsVals w' v ((o.getD []).map (Value.int .i64)) ∧ Gr w w'
theorem RetNm.no {w w' : World} {o : Option (List Int)} (h : o = none) (g : Gr w w') : RetNm w o (.returned (.tuple #[.slice none 0 0, .bool false])) w' := by
  subst h; exact ⟨_, rfl, ⟨none, 0, rfl, by simp, .inl rfl⟩, g⟩
theorem RetNm.yes {w w' : World} {o : Option (List Int)} {L : List Int} {v : Value} (h : o = some L) (hv : IsVals w' v (L.map (Value.int .i64))) (g : Gr w w') : RetNm w o (.returned (.tuple #[v, .bool true])) w' := by
  subst h; exact ⟨_, rfl, hv, g⟩
end Go.Proofs.YtjblplflgiibdaaGreatDoor
namespace Go.Proofs.YtjblplflgiibdaaGreatDoor
open Go.ChangeShapes Go.WideShapes Go.ChangeAt Go.RowKit Go.Maps
set_option linter.unusedVariables false
set_option linter.unusedSimpArgs false
end Go.Proofs.YtjblplflgiibdaaGreatDoor
namespace Go.Proofs.YtjblplflgiibdaaGreatDoor
open Go.ChangeShapes Go.WideShapes Go.ChangeAt Go.RowKit Go.Maps
set_option linter.unusedVariables false
set_option linter.unusedSimpArgs false
structure RowW (w wr : World) (m0 m1 m2 m3 : Int) : Prop where
  gr : Gr w wr
  lt : w.heap.size + 1 < wr.heap.size
  k0 : wr.cell? ⟨w.heap.size, 0, none⟩ = some (.string ⟨#[]⟩)
  k1 : wr.cell? ⟨w.heap.size, 1, none⟩ = some (.int .i64 0)
  k2 : wr.cell? ⟨w.heap.size, 2, none⟩ = some (.int .i64 0)
  k3 : wr.cell? ⟨w.heap.size, 3, none⟩ = some (.int .i64 0)
  k4 : wr.cell? ⟨w.heap.size, 4, none⟩ = some (.int .i64 0)
  f0 : wr.frozen? ⟨w.heap.size, 0, none⟩ = false
  f1 : wr.frozen? ⟨w.heap.size, 1, none⟩ = false
  f2 : wr.frozen? ⟨w.heap.size, 2, none⟩ = false
  f3 : wr.frozen? ⟨w.heap.size, 3, none⟩ = false
  f4 : wr.frozen? ⟨w.heap.size, 4, none⟩ = false
  m0 : wr.cell? ⟨w.heap.size + 1, 0, none⟩ = some (.int .i64 m0)
  m1 : wr.cell? ⟨w.heap.size + 1, 1, none⟩ = some (.int .i64 m1)
  m2 : wr.cell? ⟨w.heap.size + 1, 2, none⟩ = some (.int .i64 m2)
  m3 : wr.cell? ⟨w.heap.size + 1, 3, none⟩ = some (.int .i64 m3)
  e0 : wr.frozen? ⟨w.heap.size + 1, 0, none⟩ = false
  e1 : wr.frozen? ⟨w.heap.size + 1, 1, none⟩ = false
  e2 : wr.frozen? ⟨w.heap.size + 1, 2, none⟩ = false
  e3 : wr.frozen? ⟨w.heap.size + 1, 3, none⟩ = false
theorem RowW.put {w wr : World} {m0 m1 m2 m3 : Int} (h : RowW w wr m0 m1 m2 m3) (k : Nat) (n : Int) :
    RowW w (wr.setCell ⟨w.heap.size + 1, k, none⟩ (.int .i64 n)) (if k = 0 then n else m0) (if k = 1 then n else m1) (if k = 2 then n else m2) (if k = 3 then n else m3) := by
  have ne : ∀ j, (⟨w.heap.size + 1, k, none⟩ : Addr) ≠ ⟨w.heap.size, j, none⟩ := fun j e => by simp at e
  have key : ∀ (j : Nat) (m : Int), wr.cell? ⟨w.heap.size + 1, j, none⟩ = some (.int .i64 m) → (wr.setCell ⟨w.heap.size + 1, k, none⟩ (.int .i64 n)).cell? ⟨w.heap.size + 1, j, none⟩ = some (.int .i64 (if k = j then n else m)) := fun j m hj => by
    by_cases e : k = j
    · subst e; rw [if_pos rfl]; exact World.cell?_setCell_same _ _ _ hj
    · rw [if_neg e]; exact (World.cell?_setCell_other _ _ _ _ (fun e2 => e (by injection e2))).trans hj
  exact ⟨h.gr.setCell (Nat.le_succ _) _, (by simpa using h.lt), (World.cell?_setCell_other _ _ _ _ (ne 0)).trans h.k0, (World.cell?_setCell_other _ _ _ _ (ne 1)).trans h.k1, (World.cell?_setCell_other _ _ _ _ (ne 2)).trans h.k2, (World.cell?_setCell_other _ _ _ _ (ne 3)).trans h.k3, (World.cell?_setCell_other _ _ _ _ (ne 4)).trans h.k4,
    by simpa using h.f0, by simpa using h.f1, by simpa using h.f2, by simpa using h.f3, by simpa using h.f4, key 0 _ h.m0, key 1 _ h.m1, key 2 _ h.m2, key 3 _ h.m3, by simpa using h.e0, by simpa using h.e1, by simpa using h.e2, by simpa using h.e3⟩
end Go.Proofs.YtjblplflgiibdaaGreatDoor
namespace Go.Proofs.YtjblplflgiibdaaGreatDoor
open Go.ChangeShapes Go.WideShapes Go.ChangeAt Go.RowKit
set_option linter.unusedVariables false
set_option linter.unusedSimpArgs false

end Go.Proofs.YtjblplflgiibdaaGreatDoor
namespace Go.Proofs.YtjblplflgiibdaaGreatDoor
open Go.ChangeShapes Go.WideShapes Go.ChangeAt Go.RowKit
set_option linter.unusedVariables false
set_option linter.unusedSimpArgs false

theorem idx_none {s : ByteArray} (h : Lib.indexByte s.data.toList 10 = -1) : ∀ c ∈ s.data.toList, c ≠ 10 := by
  intro c hc e
  obtain ⟨k, hk⟩ := List.mem_iff_getElem?.1 hc
  exact Lib.indexByte_none h k (by rw [hk, e])
theorem idx_some {s : ByteArray} {i : Nat} (h : Lib.indexByte s.data.toList 10 = i) : s.data.toList[i]? = some 10 ∧ ∀ c ∈ s.data.toList.take i, c ≠ 10 := by
  obtain ⟨h1, h2⟩ := Lib.indexByte_some h
  refine ⟨h1, fun c hc e => ?_⟩
  obtain ⟨k, hk⟩ := List.mem_iff_getElem?.1 hc
  have hki : k < i := by
    have := (List.getElem?_eq_some_iff.1 hk).1
    simp at this
    omega
  rw [List.getElem?_take, if_pos hki] at hk
  exact h2 k hki (by rw [hk, e])
theorem toList_ne {s : ByteArray} : (s.toList = []) ↔ s.size = 0 := by
  rw [ByteArray.toList_eq]
  have hl : s.data.toList.length = s.size := by simp
  rw [← hl, List.length_eq_zero_iff]
set_option maxRecDepth 100000 in
set_option maxHeartbeats 400000 in
theorem lines_any (s : ByteArray) (hs : s.size ≤ 1048576) (w : World) :
    Calls Tryz.prog 22 #[.string s] w (RetS w (lnB s)) := by
  obtain ⟨i0, hi, hz0, hz1, hz2⟩ := info_parts Tryz.infoS
  go_enter Tryz.func22, Tryz.ntmps22
  go_wp2
  go_loopw [0, 3, 4] (fun x v _ wr => ∃ (V : Value) (r : ByteArray) (L : List ByteArray), V = v ∧ x = .string r ∧ L.length + r.size ≤ s.size ∧ OwnS w.heap.size wr V L ∧ Hid (L ++ lnB r = lnB s) ∧ Gr w wr) (fun x _ _ _ => match x with | .string r => r.size | _ => 0)
  case atStart => exact ⟨_, s, [], rfl, rfl, by simp, OwnS.nil _ _, rfl, Gr.refl _⟩
  case round =>
    obtain ⟨v, r, L, rfl, rfl, r1, ho, HL, g⟩ := hrel
    have HO : Hid (wr.ownsRow w.heap.size 9 1 v L.length (L.map Value.string)) := ho
    have g' := g
    by_cases he : r.size = 0
    · have hd : r.data.toList = [] := List.length_eq_zero_iff.1 (by simpa using he)
      have HN : Hid (L = lnB s) := by unfold Hid; rw [← HL.out, lnB_empty r hd]; simp
      have hv := ho.vals (by unfold maxLen; omega)
      have hl : r.toList = [] := toList_ne.2 he
      have hl2 : (!r.toList.isEmpty) = false := by rw [hl]; rfl
      have hl3 : r.toList.isEmpty = true := by rw [hl]; rfl
      clear HL ho HO hd he
      go_wp2
      go_ret
      refine ⟨v, rfl, ?_, g⟩
      rw [← HN.out]; exact hv
    · have hne : r.data.toList ≠ [] := fun e => he (by have := congrArg List.length e; simpa using this)
      have hl : ¬ r.toList = [] := fun e => he (toList_ne.1 e)
      have hl2 : (!r.toList.isEmpty) = true := by simp [List.isEmpty_iff, hl]
      have hl3 : r.toList.isEmpty = false := by simp [List.isEmpty_iff, hl]
      rcases Int.lt_or_le (Lib.indexByte r.data.toList 10) 0 with hi0 | hi0
      · have hm : Lib.indexByte r.data.toList 10 = -1 := by have := Lib.indexByte_ge r.data.toList 10; omega
        have HN : Hid (L ++ [r] = lnB s) := by unfold Hid; rw [← HL.out, lnB_none r hne (idx_none hm)]
        have HM := Lib.hid hm
        clear HL ho hne hl hm hi0
        go_wp2_with fail
        refine (Tryz.strings_IndexByte r 10 _).mono ?_
        rintro e w1 ⟨rfl, rfl⟩
        have e10 : (10 : Int).toNat.toUInt8 = 10 := rfl
        rw [e10, HM.out]
        clear e10
        go_wp2_with (first | (at_builtin; refine wpList_append_own _ rfl _ _ 38 rfl w.heap.size 9 i0 (.string ByteArray.empty) 1 16 Tryz.underlying38 hi hz0 hz1 hz2 rfl (by decide) _ _ _ rfl (HO.out.alloc _) ⟨_, 0, none⟩ 1 1 [.string r] rfl rfl ?c1 ?c2 ?c3 ?c4 ?c5 ?_))
        case c1 => exact cell_one_new _ _ _
        case c2 => simp [Value.oneCell']
        case c3 => unfold maxLen; omega
        case c4 => omega
        case c5 => have := g.size; simp; omega
        intro v' w2 hown' hgrow _
        have hg1 : Gr w w2 := Gr.grown (g'.alloc _) hgrow HO.out
        have ho1 : OwnS w.heap.size w2 v' (L ++ [r]) := OwnS.snoc hown'
        have hv := ho1.vals (by unfold maxLen; simp; omega)
        clear hown' hgrow HO
        go_wp2
        go_ret
        refine ⟨v', rfl, ?_, hg1⟩
        rw [← HN.out]; exact hv
      · obtain ⟨i, hin⟩ : ∃ i : Nat, Lib.indexByte r.data.toList 10 = i := ⟨(Lib.indexByte r.data.toList 10).toNat, by omega⟩
        obtain ⟨x1, x2⟩ := idx_some hin
        have ilt : i < r.size := by have := (List.getElem?_eq_some_iff.1 x1).1; simpa using this
        have HN : Hid ((L ++ [r.extract 0 i]) ++ lnB (r.extract (i + 1) r.size) = lnB s) := by
          unfold Hid; rw [← HL.out, lnB_at r i x1 x2]; simp
        have HM := Lib.hid hin
        have b1 : (i : Int) < (r.size : Int) := by omega
        have b2 : (i : Int) ≤ (r.size : Int) := by omega
        have b3 : (i : Int) + 1 ≤ (r.size : Int) := by omega
        have b4 : (r.size : Int) ≤ 1048576 := by omega
        clear HL ho hne hl hin hi0 x1 x2
        go_wp2_with fail
        refine (Tryz.strings_IndexByte r 10 _).mono ?_
        rintro e w1 ⟨rfl, rfl⟩
        have e10 : (10 : Int).toNat.toUInt8 = 10 := rfl
        rw [e10, HM.out]
        clear e10
        go_wp2_with (first | (at_builtin; refine wpList_append_own _ rfl _ _ 38 rfl w.heap.size 9 i0 (.string ByteArray.empty) 1 16 Tryz.underlying38 hi hz0 hz1 hz2 rfl (by decide) _ _ _ rfl (HO.out.alloc _) ⟨_, 0, none⟩ 1 1 [.string (r.extract 0 i)] rfl rfl ?c1 ?c2 ?c3 ?c4 ?c5 ?_))
        case c1 => exact cell_one_new _ _ _
        case c2 => simp [Value.oneCell']
        case c3 => unfold maxLen; omega
        case c4 => omega
        case c5 => have := g.size; simp; omega
        intro v' w2 hown' hgrow _
        have hg1 : Gr w w2 := Gr.grown (g'.alloc _) hgrow HO.out
        have ho1 : OwnS w.heap.size w2 v' (L ++ [r.extract 0 i]) := OwnS.snoc hown'
        clear hown' hgrow HO
        go_wp2
        go_roundw
        case rel => exact ⟨_, r.extract (i + 1) r.size, L ++ [r.extract 0 i], rfl, rfl, by simp; omega, ho1, HN, hg1⟩
        case measure => simp; omega
end Go.Proofs.YtjblplflgiibdaaGreatDoor
namespace Go.Proofs.YtjblplflgiibdaaGreatDoor
open Go.ChangeShapes Go.WideShapes Go.ChangeAt Go.RowKit Go.Maps
set_option linter.unusedVariables false
set_option linter.unusedSimpArgs false
theorem unl_len : ∀ (L : List ByteArray), L.length ≤ (unl L).size ∧ ∀ x ∈ L, x.size ≤ (unl L).size
  | [] => ⟨by simp, fun x hx => by cases hx⟩
  | x :: t => by
    have ih := unl_len t
    have h1 : (⟨#[10]⟩ : ByteArray).size = 1 := rfl
    unfold unl
    simp only [size_app, h1, List.length_cons]
    refine ⟨by omega, fun y hy => ?_⟩
    rcases List.mem_cons.1 hy with rfl | hy
    · omega
    · have := ih.2 y hy; omega
theorem lnB_bd (s : ByteArray) : (lnB s).length ≤ s.size + 1 ∧ ∀ x ∈ lnB s, x.size ≤ s.size + 1 := by
  have h := unl_len (lnB s)
  have h1 : (⟨#[10]⟩ : ByteArray).size = 1 := rfl
  rcases unl_lnB s with e | e
  · rw [e] at h
    exact ⟨by omega, fun x hx => by have := h.2 x hx; omega⟩
  · rw [e, size_app, h1] at h
    exact ⟨h.1, h.2⟩
theorem wdS_ne {s : ByteArray} {L : List ByteArray} (h : wdB s = some L) : L ≠ [] ∧ L.length ≤ s.size + 1 ∧ ∀ x ∈ L, x.size ≤ s.size := by
  rw [wdB_pcs] at h
  split at h
  · cases h
    refine ⟨?_, ?_, fun x hx => pcs_size hx⟩
    · intro e
      have h1 := pcs_len s
      rw [e] at h1
      simp at h1
    · rw [pcs_len]
      have := Lib.countB_le blank (by rw [blank_size]; omega) s.size s (Nat.le_refl _)
      omega
  · cases h
end Go.Proofs.YtjblplflgiibdaaGreatDoor
namespace Go.Proofs.YtjblplflgiibdaaGreatDoor
open Go.ChangeShapes Go.WideShapes Go.ChangeAt Go.RowKit Go.Maps
set_option linter.unusedVariables false
set_option linter.unusedSimpArgs false
theorem num5 {n : Int} (h0 : 0 ≤ n) (h1 : n < 100000) : numB (dgs n) 5 = true ∧ numN (dgs n) 5 = n := num_dgs 4 n h0 (by simpa using h1) (by omega)
theorem fine_all {P : Pln} (h : chk P = 0) : (P.es.length ≤ 40 ∧ P.ss.length ≤ 24 ∧ P.ls.length ≤ 4 ∧ P.js.length ≤ 80) ∧ numsB P = true ∧ (∀ e ∈ P.es, eleB e = true) ∧ (∀ s ∈ P.ss, nmB s.n = true) ∧ (∀ l ∈ P.ls, nmB l.n = true) ∧ (P.es.map (·.n)).Nodup ∧ (P.ss.map (·.n)).Nodup ∧ (P.ls.map (·.n)).Nodup ∧ joinedB P = true ∧ signalsB P = true ∧ linesB P = true := by
  unfold chk at h
  split at h
  · omega
  split at h
  · omega
  split at h
  · omega
  split at h
  · omega
  split at h
  · omega
  split at h
  · omega
  rename_i h1 h2 h3 h4 h5 h6
  simp only [Bool.or_eq_true, not_or, Bool.not_eq_true] at h3
  simp only [Bool.not_eq_false] at h2 h4 h5 h6
  rw [argsB_eq] at h2
  simp only [Bool.and_eq_true, List.all_eq_true] at h2
  exact ⟨by omega, h2.1.1.1, h2.1.1.2, h2.1.2, h2.2, twiceB_nodup h3.1.1, twiceB_nodup h3.1.2, twiceB_nodup h3.2, h4, h5, h6⟩
def portOkP (P : Pln) (x : Prt) : Prop := 0 ≤ x.e ∧ x.e < P.es.length ∧ 0 ≤ x.x ∧ x.x ≤ 9
theorem ends_le (k : Int) : endsK k ≤ 9 := by unfold endsK; repeat' split <;> omega
theorem has_ok {P : Pln} {x : Prt} (h : hasP P x = true) : portOkP P x := by
  unfold hasP at h
  simp only [Bool.and_eq_true, decide_eq_true_eq] at h
  have := ends_le (kindP P x.e)
  exact ⟨h.1.1.1, h.1.1.2, h.1.2, by omega⟩
theorem ports_ok {P : Pln} (h : chk P = 0) : (∀ j ∈ P.js, portOkP P j.a ∧ portOkP P j.b) ∧ ∀ s ∈ P.ss, portOkP P s.at_ := by
  obtain ⟨-, -, -, -, -, -, -, -, hj, hs, -⟩ := fine_all h
  unfold joinedB at hj
  unfold signalsB at hs
  simp only [Bool.and_eq_true, List.all_eq_true] at hj hs
  refine ⟨fun j hm => ⟨has_ok (hj.1.1 _ ?_), has_ok (hj.1.1 _ ?_)⟩, fun s hm => ?_⟩
  · unfold portsP; rw [List.mem_flatMap]; exact ⟨j, hm, by simp⟩
  · unfold portsP; rw [List.mem_flatMap]; exact ⟨j, hm, by simp⟩
  · obtain ⟨i, hi, he⟩ := List.mem_iff_getElem.1 hm
    have := hs.1 i (List.mem_range.2 hi)
    unfold sigB at this
    simp only [Bool.and_eq_true] at this
    have := this.1.1.1
    rw [getD_at _ _ hi, he] at this
    exact has_ok this
theorem ele_self {P : Pln} (h : chk P = 0) {e : Int} (h0 : 0 ≤ e) (h1 : e < P.es.length) : eleN P (P.es.getD e.toNat default).n = e ∧ nmB (P.es.getD e.toNat default).n = true := by
  obtain ⟨hn, -, -, hm⟩ := fine_names h
  have hi : e.toNat < P.es.length := by omega
  rw [getD_at _ _ hi]
  refine ⟨?_, hm _ (List.getElem_mem hi)⟩
  have := fst_self (l := P.es) (f := fun e => e.n) hn e.toNat hi
  unfold eleN
  rw [this]; omega
theorem port_parts {n : ByteArray} {d : Int} (h : nmB n = true) (h0 : 0 ≤ d) (h1 : d ≤ 9) : portB (n ++ ⟨#[46]⟩ ++ dgs d) = true ∧ portNm (n ++ ⟨#[46]⟩ ++ dgs d) = n ∧ portEn (n ++ ⟨#[46]⟩ ++ dgs d) = d := by
  have hz : 1 ≤ n.size := by unfold nmB at h; simp only [Bool.and_eq_true, decide_eq_true_eq] at h; exact h.1.1
  have hd : (dgs d).size = 1 := by rw [itoa_small h0 (by omega)]; rfl
  have hb : bt (dgs d) 0 = 48 + d := by rw [itoa_small h0 (by omega), bt_one, dg_byte d h0 (by omega)]
  have h1' : (⟨#[46]⟩ : ByteArray).size = 1 := rfl
  have hs : (n ++ ⟨#[46]⟩ ++ dgs d).size = n.size + 2 := by simp only [size_app, hd, h1']
  have e1 : portNm (n ++ ⟨#[46]⟩ ++ dgs d) = n := by
    unfold portNm
    rw [hs, Nat.add_sub_cancel]
    apply ByteArray.ext
    rw [ByteArray.data_extract]
    apply Array.ext'
    rw [Array.toList_extract]
    simp [ByteArray.data_append, List.extract_eq_take_drop]
  have e2 : bt (n ++ ⟨#[46]⟩ ++ dgs d) (n.size + 1) = 48 + d := by
    rw [bt_app, size_app, h1', if_neg (by omega), Nat.sub_self, hb]
  have e3 : bt (n ++ ⟨#[46]⟩ ++ dgs d) n.size = 46 := by
    rw [bt_app, size_app, h1', if_pos (by omega), bt_app, if_neg (by omega), Nat.sub_self]; rfl
  refine ⟨?_, e1, ?_⟩
  · unfold portB
    rw [e1, hs, Nat.add_sub_cancel, show n.size + 2 - 1 = n.size + 1 from by omega, e2, e3, h]
    have : dgB (48 + d) = true := by unfold dgB; simp; omega
    rw [this, decide_eq_true (by omega : 3 ≤ n.size + 2)]; rfl
  · unfold portEn
    rw [hs, show n.size + 2 - 1 = n.size + 1 from by omega, e2]; omega
theorem told_back {P : Pln} (h : chk P = 0) {x : Prt} (hx : portOkP P x) (Q : Pln) (hq : Q.es = P.es) : portB (toldT P x) = true ∧ portP Q (toldT P x) = some x := by
  obtain ⟨h0, h1, h2, h3⟩ := hx
  obtain ⟨hs, hm⟩ := ele_self h h0 h1
  obtain ⟨p1, p2, p3⟩ := port_parts hm h2 h3
  unfold toldT
  rw [if_pos ⟨h0, h1, h2, h3⟩]
  refine ⟨p1, ?_⟩
  unfold portP eleN
  rw [p2, p3, hq]
  unfold eleN at hs
  rw [hs, if_neg (by omega)]
theorem told_word {P : Pln} (h : chk P = 0) {x : Prt} (hx : portOkP P x) : wordB (toldT P x) ∧ (toldT P x).size ≤ 10 := by
  obtain ⟨h0, h1, h2, h3⟩ := hx
  obtain ⟨hs, hm⟩ := ele_self h h0 h1
  have hd : (dgs x.x).size = 1 := by rw [itoa_small h2 (by omega)]; rfl
  have h1' : (⟨#[46]⟩ : ByteArray).size = 1 := rfl
  have hz := nm_size hm
  have w1 := nm_word hm
  have w2 := dgs_word x.x h2 (by omega)
  unfold toldT
  rw [if_pos ⟨h0, h1, h2, h3⟩]
  refine ⟨⟨?_, ?_⟩, by simp only [size_app, hd, h1']; omega⟩
  · rw [app_data, app_data]; intro e
    have := w1.1
    simp only [List.append_eq_nil_iff] at e
    exact this e.1.1
  · intro c hc
    rw [app_data, app_data] at hc
    rcases List.mem_append.1 hc with hc | hc
    · rcases List.mem_append.1 hc with hc | hc
      · exact w1.2 c hc
      · have : c = 46 := by simpa using hc
        subst this; decide
    · exact w2.2 c hc
theorem skip_no {b a : ByteArray} {t : List ByteArray} (h0 : b.size ≠ 0) (h : bt b 0 ≠ 35) : skipB (jnW (b :: a :: t)) = false := by
  unfold skipB
  rw [jnW_cons, size_app, size_app, bt_app, size_app, if_pos (by omega), bt_app, if_pos (by omega)]
  rw [decide_eq_false (by omega), decide_eq_false h]; rfl
theorem take_words {S : Option Pln} {b a : ByteArray} {t : List ByteArray} (h0 : b.size ≠ 0) (h : bt b 0 ≠ 35) (hw : ∀ x ∈ b :: a :: t, wordB x) : takeT S (jnW (b :: a :: t)) = takeW S (b :: a :: t) := by
  unfold takeT
  rw [skip_no h0 h, if_neg (by simp), wdB_jnW _ (by simp) hw]
theorem prg_fold {α : Type} (f : α → ByteArray) (g : List α → Pln) : ∀ (L A : List α) (i : Nat), (∀ x ∈ L, ∀ A, takeT (some (g A)) (f x) = .inr (some (g (A ++ [x])))) → prgT (L.map f) i (some (g A)) = .inr (some (g (A ++ L)))
  | [], A, i, _ => by rw [List.append_nil]; rfl
  | x :: t, A, i, h => by
    rw [List.map_cons, prgT_cons, h x (by simp) A]
    dsimp only
    rw [prg_fold f g t (A ++ [x]) (i + 1) fun y hy => h y (List.mem_cons_of_mem _ hy), List.append_assoc]; rfl
theorem kind_word (k : Int) : wordB (kindT k) ∧ (kindT k).size ≤ 6 ∧ (kindT k).size ≠ 0 ∧ bt (kindT k) 0 ≠ 35 := by
  unfold kindT
  refine ⟨?_, ?_, ?_, ?_⟩ <;> (repeat' split) <;> first | exact wordB_of (by decide) (by decide) | decide
theorem take_e {P : Pln} (h : chk P = 0) {e : Ele} (he : e ∈ P.es) (Q : Pln) : takeT (some Q) (jnW (wordsE e)) = .inr (some { Q with es := Q.es ++ [e] }) := by
  obtain ⟨hn, hk, h0, h1, h2, h3⟩ := fine_ele h e he
  obtain ⟨n, k, l⟩ := e
  dsimp only at hn hk h0 h1 h2 h3
  have hw := nm_word hn
  have hg : wordB bGateE := wordB_of (by decide) (by decide)
  unfold wordsE
  by_cases h4 : k = 4
  · subst h4
    have := h3 rfl
    subst this
    rw [if_pos rfl, take_words (by decide) (by decide) (by intro x hx; simp only [List.mem_cons, List.not_mem_nil, or_false] at hx; rcases hx with rfl | rfl; exact hg; exact hw)]
    unfold takeW rowW
    dsimp only
    rw [if_pos (by decide)]
    unfold elemW
    dsimp only
    rw [if_pos ⟨by decide, hn⟩]
  · rw [if_neg h4]
    have kk := kind_word k
    have n5 := num5 h0 (by omega)
    rw [take_words kk.2.2.1 kk.2.2.2 (by intro x hx; simp only [List.mem_cons, List.not_mem_nil, or_false] at hx; rcases hx with rfl | rfl | rfl; exact kk.1; exact hw; exact dgs_word _ h0 (by omega))]
    have kv : kindW (kindT k) = k := by
      rcases (by omega : k = 1 ∨ k = 2 ∨ k = 3) with rfl | rfl | rfl <;> decide
    unfold takeW rowW
    dsimp only
    rw [kv, if_pos (by omega)]
    unfold elemW
    dsimp only
    rw [if_pos ⟨by rw [kv]; exact h4, hn, n5.1⟩, n5.2, kv]
theorem take_j {P : Pln} (h : chk P = 0) {j : Jn} (hj : j ∈ P.js) (Q : Pln) (hq : Q.es = P.es) : takeT (some Q) (jnW (wordsJ P j)) = .inr (some { Q with js := Q.js ++ [j] }) := by
  obtain ⟨pa, pb⟩ := (ports_ok h).1 j hj
  have ta := told_back h pa Q hq
  have tb := told_back h pb Q hq
  unfold wordsJ
  rw [take_words (by decide) (by decide) (by intro x hx; simp only [List.mem_cons, List.not_mem_nil, or_false] at hx; rcases hx with rfl | rfl | rfl; exact wordB_of (by decide) (by decide); exact (told_word h pa).1; exact (told_word h pb).1)]
  unfold takeW rowW
  dsimp only
  rw [if_neg (by decide), if_pos rfl]
  unfold joinW
  dsimp only
  rw [if_pos ⟨ta.1, tb.1⟩, ta.2, tb.2]
theorem take_s {P : Pln} (h : chk P = 0) {s : Sg} (hs : s ∈ P.ss) (Q : Pln) (hq : Q.es = P.es) : takeT (some Q) (jnW (wordsG P s)) = .inr (some { Q with ss := Q.ss ++ [s] }) := by
  have pa := (ports_ok h).2 s hs
  have hn := (fine_all h).2.2.2.1 s hs
  have ta := told_back h pa Q hq
  have hw := nm_word hn
  have tw := (told_word h pa).1
  have e3 : ∀ b, sig3 Q s.n (toldT P s.at_) b = .inr { Q with ss := Q.ss ++ [⟨s.n, s.at_, b⟩] } := fun b => by
    unfold sig3
    rw [if_pos ⟨hn, ta.1⟩, ta.2]
  obtain ⟨n, a, u⟩ := s
  dsimp only at *
  unfold wordsG
  cases u with
  | true =>
    dsimp only
    rw [if_pos rfl, List.cons_append, List.cons_append, List.cons_append, List.nil_append]
    rw [take_words (by decide) (by decide) (by intro x hx; simp only [List.mem_cons, List.not_mem_nil, or_false] at hx; rcases hx with rfl | rfl | rfl | rfl; exact wordB_of (by decide) (by decide); exact hw; exact tw; exact wordB_of (by decide) (by decide))]
    unfold takeW rowW
    dsimp only
    rw [if_neg (by decide), if_neg (by decide), if_pos rfl]
    unfold signalW
    dsimp only
    rw [if_pos rfl, e3]
  | false =>
    dsimp only
    rw [if_neg (by decide), List.append_nil]
    rw [take_words (by decide) (by decide) (by intro x hx; simp only [List.mem_cons, List.not_mem_nil, or_false] at hx; rcases hx with rfl | rfl | rfl; exact wordB_of (by decide) (by decide); exact hw; exact tw)]
    unfold takeW rowW
    dsimp only
    rw [if_neg (by decide), if_neg (by decide), if_pos rfl]
    unfold signalW
    dsimp only
    rw [e3]
end Go.Proofs.YtjblplflgiibdaaGreatDoor
namespace Go.Proofs.YtjblplflgiibdaaGreatDoor
open Go.ChangeShapes Go.WideShapes Go.ChangeAt Go.RowKit Go.Maps
set_option linter.unusedVariables false
set_option linter.unusedSimpArgs false
theorem nodup_len : ∀ (n : Nat) (l : List Int), l.Nodup → (∀ e ∈ l, 0 ≤ e ∧ e < n) → l.length ≤ n
  | 0, [], _, _ => by simp
  | 0, e :: t, _, h => by have := h e (by simp); omega
  | n + 1, l, hd, h => by
    have ih := nodup_len n (l.erase n) (hd.erase _) fun e he => by
      have h1 := h e (List.mem_of_mem_erase he)
      have h2 : e ≠ n := by
        intro e'
        subst e'
        exact absurd he (hd.not_mem_erase)
      omega
    by_cases hm : (n : Int) ∈ l
    · rw [List.length_erase_of_mem hm] at ih; omega
    · rw [List.erase_of_not_mem hm] at ih; omega
theorem line_parts {P : Pln} (h : chk P = 0) {l : Ln} (hl : l ∈ P.ls) : nmB l.n = true ∧ l.es ≠ [] ∧ l.es.length ≤ 40 ∧ ∀ e ∈ l.es, 0 ≤ e ∧ e < P.es.length := by
  obtain ⟨hz, -, -, -, hn, -, -, -, -, -, hL⟩ := fine_all h
  unfold linesB at hL
  simp only [Bool.and_eq_true, List.all_eq_true, decide_eq_true_eq, Bool.not_eq_true', decide_eq_false_iff_not] at hL
  have hb : ∀ e ∈ l.es, 0 ≤ e ∧ e < P.es.length := fun e he => by
    have := (hL.2 l hl).1.2 e he
    unfold kindP at this
    split at this
    · assumption
    · omega
  have hd : l.es.Nodup := by
    have := hL.1
    obtain ⟨A, B, e⟩ := List.append_of_mem hl
    rw [e, List.flatMap_append, List.flatMap_cons] at this
    exact (List.nodup_append.1 (List.nodup_append.1 this).2.1).1
  have := nodup_len P.es.length l.es hd hb
  refine ⟨hn l hl, fun e => (hL.2 l hl).1.1 (by rw [e]; rfl), by omega, hb⟩
theorem wordsN_word {P : Pln} (h : chk P = 0) {l : Ln} (hl : l ∈ P.ls) : ∀ x ∈ wordsN P l, wordB x := by
  obtain ⟨hn, -, -, hb⟩ := line_parts h hl
  intro x hx
  unfold wordsN at hx
  simp only [List.mem_cons, List.mem_map] at hx
  rcases hx with rfl | rfl | ⟨e, he, rfl⟩
  · exact wordB_of (by decide) (by decide)
  · exact nm_word hn
  · exact nm_word (ele_self h (hb e he).1 (hb e he).2).2
theorem take_l {P : Pln} (h : chk P = 0) {l : Ln} (hl : l ∈ P.ls) (Q : Pln) (hq : Q.es = P.es) : takeT (some Q) (jnW (wordsN P l)) = .inr (some { Q with ls := Q.ls ++ [l] }) := by
  obtain ⟨hn, hne, h40, hb⟩ := line_parts h hl
  have hw := wordsN_word h hl
  have he : ∀ e ∈ l.es, eleN Q (P.es.getD e.toNat default).n = e ∧ nmB (P.es.getD e.toNat default).n = true := fun e he => by
    have := ele_self h (hb e he).1 (hb e he).2
    unfold eleN at *
    rw [hq]; exact this
  unfold wordsN at hw ⊢
  rw [take_words (by decide) (by decide) hw]
  unfold takeW rowW
  dsimp only
  rw [if_neg (by decide), if_neg (by decide), if_neg (by decide), if_pos rfl]
  unfold lineWd
  dsimp only
  have hm : (l.es.map fun e => (P.es.getD e.toNat default).n).map (eleN Q) = l.es := by
    rw [List.map_map]
    conv => rhs; rw [← List.map_id l.es]
    exact List.map_congr_left fun e hx => (he e hx).1
  rw [if_neg, if_neg, hm]
  · simp only [List.any_eq_true, List.mem_map, decide_eq_true_eq]
    rintro ⟨x, ⟨e, hx, rfl⟩, hlt⟩
    rw [(he e hx).1] at hlt
    have := (hb e hx).1
    omega
  · rintro (e | e | e)
    · exact hne (by simpa using e)
    · rw [List.length_map] at e; omega
    · have : ((l.n :: l.es.map fun e => (P.es.getD e.toNat default).n).all nmB) = true := by
        rw [List.all_eq_true]
        intro x hx
        simp only [List.mem_cons, List.mem_map] at hx
        rcases hx with rfl | ⟨e, hx, rfl⟩
        · exact hn
        · exact (he e hx).2
      rw [this] at e; cases e
theorem nums_in {P : Pln} (h : chk P = 0) : (1 ≤ P.top ∧ P.top ≤ 60) ∧ (1 ≤ P.brake ∧ P.brake ≤ 10) ∧ (1 ≤ P.margin ∧ P.margin ≤ 4000) ∧ (1 ≤ P.throw ∧ P.throw ≤ 20) := by
  have := (fine_all h).2.1
  unfold numsB inB at this
  simp only [Bool.and_eq_true, decide_eq_true_eq] at this
  exact ⟨this.1.1.1.1, this.1.1.1.2, this.1.1.2, this.1.2⟩
theorem hard_word (b : Bool) : wordB (if b = true then bHard else bSoft) ∧ (if b = true then bHard else bSoft).size ≤ 4 := by
  cases b <;> exact ⟨wordB_of (by decide) (by decide), by decide⟩
theorem wordsH_word {P : Pln} (h : chk P = 0) : ∀ x ∈ wordsH P, wordB x := by
  obtain ⟨h1, h2, h3, h4⟩ := nums_in h
  intro x hx
  unfold wordsH at hx
  simp only [List.mem_cons, List.not_mem_nil, or_false] at hx
  rcases hx with rfl | rfl | rfl | rfl | rfl | rfl
  · exact wordB_of (by decide) (by decide)
  · exact dgs_word _ (by omega) (by omega)
  · exact dgs_word _ (by omega) (by omega)
  · exact dgs_word _ (by omega) (by omega)
  · exact dgs_word _ (by omega) (by omega)
  · exact (hard_word _).1
def plnH (P : Pln) : Pln := { pln0 with top := P.top, brake := P.brake, margin := P.margin, throw := P.throw, hard := P.hard }
theorem take_h {P : Pln} (h : chk P = 0) : takeT none (jnW (wordsH P)) = .inr (some (plnH P)) := by
  obtain ⟨h1, h2, h3, h4⟩ := nums_in h
  have hw := wordsH_word h
  have a1 := num5 (n := P.top) (by omega) (by omega)
  have a2 := num5 (n := P.brake) (by omega) (by omega)
  have a3 := num5 (n := P.margin) (by omega) (by omega)
  have a4 := num5 (n := P.throw) (by omega) (by omega)
  unfold wordsH at hw ⊢
  rw [take_words (by decide) (by decide) hw]
  unfold takeW headW
  dsimp only
  rw [if_pos ⟨rfl, by cases P.hard <;> simp, a1.1, a2.1, a3.1, a4.1⟩, a1.2, a2.2, a3.2, a4.2]
  have : decide ((if P.hard = true then bHard else bSoft) = bHard) = P.hard := by cases P.hard <;> decide
  rw [this]
  rfl
theorem prg_print {P : Pln} (h : chk P = 0) : prgT (rowsT P) 0 none = .inr (some P) := by
  unfold rowsT
  rw [prgT_cons, take_h h]
  dsimp only
  rw [prgT_append, prgT_append, prgT_append]
  have e1 := prg_fold (fun e => jnW (wordsE e)) (fun A => { plnH P with es := A }) P.es [] (0 + 1) fun x hx A => take_e h hx _
  have e2 := fun i => prg_fold (fun j => jnW (wordsJ P j)) (fun A => { plnH P with es := P.es, js := A }) P.js [] i fun x hx A => take_j h hx _ rfl
  have e3 := fun i => prg_fold (fun j => jnW (wordsG P j)) (fun A => { plnH P with es := P.es, js := P.js, ss := A }) P.ss [] i fun x hx A => take_s h hx _ rfl
  have e4 := fun i => prg_fold (fun j => jnW (wordsN P j)) (fun A => { plnH P with es := P.es, js := P.js, ss := P.ss, ls := A }) P.ls [] i fun x hx A => take_l h hx _ rfl
  have e1' : prgT (P.es.map fun e => jnW (wordsE e)) (0 + 1) (some (plnH P)) = .inr (some { plnH P with es := P.es }) := e1
  rw [e1']
  dsimp only
  have e2' : ∀ i, prgT (P.js.map fun e => jnW (wordsJ P e)) i (some { plnH P with es := P.es }) = .inr (some { plnH P with es := P.es, js := P.js }) := e2
  rw [e2']
  dsimp only
  have e3' : ∀ i, prgT (P.ss.map fun e => jnW (wordsG P e)) i (some { plnH P with es := P.es, js := P.js }) = .inr (some { plnH P with es := P.es, js := P.js, ss := P.ss }) := e3
  rw [e3']
  dsimp only
  have e4' : ∀ i, prgT (P.ls.map fun e => jnW (wordsN P e)) i (some { plnH P with es := P.es, js := P.js, ss := P.ss }) = .inr (some { plnH P with es := P.es, js := P.js, ss := P.ss, ls := P.ls }) := e4
  rw [e4']
  rfl
end Go.Proofs.YtjblplflgiibdaaGreatDoor
namespace Go.Proofs.YtjblplflgiibdaaGreatDoor
open Go.ChangeShapes Go.WideShapes Go.ChangeAt Go.RowKit Go.Maps
set_option linter.unusedVariables false
set_option linter.unusedSimpArgs false
theorem jnW_lone (b : ByteArray) : jnW [b] = b := by
  show (⟨(Lib.join [b.data.toList] [32]).toArray⟩ : ByteArray) = b
  rw [Lib.join_one]
theorem jnW_szm (m : Nat) : ∀ (L : List ByteArray), (∀ x ∈ L, x.size ≤ m) → (jnW L).size ≤ (m + 1) * L.length
  | [], _ => by rw [List.length_nil, Nat.mul_zero]; decide
  | [b], h => by
    have := h b (by simp)
    rw [jnW_lone]
    simp only [List.length_cons, List.length_nil]
    omega
  | b :: a :: t, h => by
    have h0 := h b (by simp)
    have ih := jnW_szm m (a :: t) fun x hx => h x (List.mem_cons_of_mem _ hx)
    have h1 : (⟨#[32]⟩ : ByteArray).size = 1 := rfl
    rw [jnW_cons]
    simp only [size_app, h1, List.length_cons] at ih ⊢
    rw [Nat.mul_add] at ih ⊢
    rw [Nat.mul_add]
    omega
theorem unl_szm : ∀ (L : List ByteArray) (m : Nat), (∀ x ∈ L, x.size ≤ m) → (unl L).size ≤ (m + 1) * L.length
  | [], m, _ => by show (0 : Nat) ≤ _; omega
  | x :: t, m, h => by
    have h0 := h x (by simp)
    have ih := unl_szm t m fun y hy => h y (List.mem_cons_of_mem _ hy)
    have h1 : (⟨#[10]⟩ : ByteArray).size = 1 := rfl
    unfold unl
    simp only [size_app, h1, List.length_cons]
    rw [Nat.mul_add]
    omega
theorem unl_join : ∀ (A B : List ByteArray), unl (A ++ B) = unl A ++ unl B
  | [], B => by
    show unl B = (⟨#[]⟩ : ByteArray) ++ unl B
    apply ByteArray.ext; simp [ByteArray.data_append]
  | x :: t, B => by
    show x ++ ⟨#[10]⟩ ++ unl (t ++ B) = x ++ ⟨#[10]⟩ ++ unl t ++ unl B
    rw [unl_join t B]
    apply ByteArray.ext; simp [ByteArray.data_append]
theorem dgs5_size {n : Int} (h0 : 0 ≤ n) (h1 : n < 100000) : (dgs n).size ≤ 5 := by
  have h := (dgs_spec 4 n h0 (by simpa using h1)).2.1
  omega
theorem wordsE_word {P : Pln} (h : chk P = 0) {e : Ele} (he : e ∈ P.es) : ∀ x ∈ wordsE e, wordB x ∧ x.size ≤ 10 := by
  obtain ⟨hn, hk, h0, h1, h2, h3⟩ := fine_ele h e he
  have hz := nm_size hn
  have kk := kind_word e.k
  have d5 := dgs5_size h0 (by omega)
  intro x hx
  unfold wordsE at hx
  split at hx <;> simp only [List.mem_cons, List.not_mem_nil, or_false] at hx
  · rcases hx with rfl | rfl
    · exact ⟨wordB_of (by decide) (by decide), by decide⟩
    · exact ⟨nm_word hn, by omega⟩
  · rcases hx with rfl | rfl | rfl
    · exact ⟨kk.1, by omega⟩
    · exact ⟨nm_word hn, by omega⟩
    · exact ⟨dgs_word _ h0 (by omega), by omega⟩
theorem wordsJ_word {P : Pln} (h : chk P = 0) {j : Jn} (hj : j ∈ P.js) : ∀ x ∈ wordsJ P j, wordB x ∧ x.size ≤ 10 := by
  obtain ⟨pa, pb⟩ := (ports_ok h).1 j hj
  intro x hx
  simp only [wordsJ, List.mem_cons, List.not_mem_nil, or_false] at hx
  rcases hx with rfl | rfl | rfl
  · exact ⟨wordB_of (by decide) (by decide), by decide⟩
  · exact told_word h pa
  · exact told_word h pb
theorem wordsG_word {P : Pln} (h : chk P = 0) {s : Sg} (hs : s ∈ P.ss) : ∀ x ∈ wordsG P s, wordB x ∧ x.size ≤ 10 := by
  have pa := (ports_ok h).2 s hs
  have hn := (fine_all h).2.2.2.1 s hs
  have hz := nm_size hn
  intro x hx
  unfold wordsG at hx
  rcases List.mem_append.1 hx with hx | hx
  · simp only [List.mem_cons, List.not_mem_nil, or_false] at hx
    rcases hx with rfl | rfl | rfl
    · exact ⟨wordB_of (by decide) (by decide), by decide⟩
    · exact ⟨nm_word hn, by omega⟩
    · exact told_word h pa
  · split at hx
    · simp only [List.mem_cons, List.not_mem_nil, or_false] at hx
      subst hx
      exact ⟨wordB_of (by decide) (by decide), by decide⟩
    · cases hx
theorem wordsN_size {P : Pln} (h : chk P = 0) {l : Ln} (hl : l ∈ P.ls) : ∀ x ∈ wordsN P l, x.size ≤ 10 := by
  obtain ⟨hn, -, -, hb⟩ := line_parts h hl
  intro x hx
  unfold wordsN at hx
  simp only [List.mem_cons, List.mem_map] at hx
  rcases hx with rfl | rfl | ⟨e, he, rfl⟩
  · decide
  · have := nm_size hn; omega
  · have := nm_size (ele_self h (hb e he).1 (hb e he).2).2; omega
theorem wordsH_size {P : Pln} (h : chk P = 0) : ∀ x ∈ wordsH P, x.size ≤ 10 := by
  obtain ⟨h1, h2, h3, h4⟩ := nums_in h
  have a1 := dgs5_size (n := P.top) (by omega) (by omega)
  have a2 := dgs5_size (n := P.brake) (by omega) (by omega)
  have a3 := dgs5_size (n := P.margin) (by omega) (by omega)
  have a4 := dgs5_size (n := P.throw) (by omega) (by omega)
  have a5 := (hard_word P.hard).2
  intro x hx
  unfold wordsH at hx
  simp only [List.mem_cons, List.not_mem_nil, or_false] at hx
  rcases hx with rfl | rfl | rfl | rfl | rfl | rfl
  · decide
  all_goals omega
theorem rows_line {P : Pln} (h : chk P = 0) : ∀ x ∈ rowsT P, lineB x ∧ x.size ≤ 500 := by
  have key : ∀ L : List ByteArray, L.length ≤ 42 → (∀ x ∈ L, wordB x ∧ x.size ≤ 10) → lineB (jnW L) ∧ (jnW L).size ≤ 500 := fun L hl hw => by
    have := jnW_szm 10 L fun x hx => (hw x hx).2
    exact ⟨jnW_line _ fun y hy => word_line (hw y hy).1, by omega⟩
  intro x hx
  unfold rowsT at hx
  simp only [List.mem_cons, List.mem_append, List.mem_map] at hx
  rcases hx with rfl | ((⟨e, he, rfl⟩ | ⟨e, he, rfl⟩) | ⟨e, he, rfl⟩) | ⟨e, he, rfl⟩
  · exact key _ (by simp [wordsH]) fun x hx => ⟨wordsH_word h x hx, wordsH_size h x hx⟩
  · exact key _ (by unfold wordsE; split <;> simp) (wordsE_word h he)
  · exact key _ (by simp [wordsJ]) (wordsJ_word h he)
  · exact key _ (by unfold wordsG; split <;> simp) (wordsG_word h he)
  · obtain ⟨-, -, h40, -⟩ := line_parts h he
    exact key _ (by simp [wordsN]; omega) fun x hx => ⟨wordsN_word h he x hx, wordsN_size h he x hx⟩
theorem rows_len (P : Pln) : (rowsT P).length = 1 + P.es.length + P.js.length + P.ss.length + P.ls.length := by
  unfold rowsT
  simp only [List.length_cons, List.length_append, List.length_map]
  omega
theorem map_szm {α : Type} (m : Nat) (f : α → List ByteArray) (c : Nat) (L : List α) (hc : ∀ a ∈ L, (f a).length ≤ c ∧ ∀ x ∈ f a, x.size ≤ m) : (unl (L.map fun a => jnW (f a))).size ≤ ((m + 1) * c + 1) * L.length := by
  have := unl_szm (L.map fun a => jnW (f a)) ((m + 1) * c) fun x hx => by
    obtain ⟨a, ha, rfl⟩ := List.mem_map.1 hx
    have := jnW_szm m (f a) (hc a ha).2
    exact Nat.le_trans this (Nat.mul_le_mul_left _ (hc a ha).1)
  rwa [List.length_map] at this
theorem print_size {P : Pln} (h : chk P = 0) : (printT P).size ≤ 10000 := by
  obtain ⟨⟨b1, b2, b3, b4⟩, -⟩ := fine_all h
  unfold printT rowsT
  have h0 : (unl [jnW (wordsH P)]).size ≤ 67 := by
    have a := jnW_szm 10 (wordsH P) (wordsH_size h)
    have b := unl_szm [jnW (wordsH P)] 66 fun x hx => by
      rw [List.mem_singleton] at hx; subst hx
      simpa [wordsH] using a
    simpa using b
  have h1 := map_szm 10 wordsE 3 P.es fun e he => ⟨by unfold wordsE; split <;> simp, fun x hx => (wordsE_word h he x hx).2⟩
  have h2 := map_szm 10 (wordsJ P) 3 P.js fun e he => ⟨by simp [wordsJ], fun x hx => (wordsJ_word h he x hx).2⟩
  have h3 := map_szm 10 (wordsG P) 4 P.ss fun e he => ⟨by unfold wordsG; split <;> simp, fun x hx => (wordsG_word h he x hx).2⟩
  have h4 := map_szm 10 (wordsN P) 42 P.ls fun e he => ⟨by have := (line_parts h he).2.2.1; simp [wordsN]; omega, fun x hx => wordsN_size h he x hx⟩
  rw [show ∀ (a : ByteArray) (L : List ByteArray), a :: L = [a] ++ L from fun a L => rfl, unl_join, unl_join, unl_join, unl_join]
  simp only [size_app]
  omega
theorem lnB_printT {P : Pln} (h : chk P = 0) : lnB (printT P) = rowsT P := lnB_unl _ fun x hx => (rows_line h x hx).1
theorem parT_print {P : Pln} (h : chk P = 0) : parT (printT P) = (P, (1 + P.es.length + P.js.length + P.ss.length + P.ls.length : Int), 0) := by
  have hs := print_size h
  rw [parT_good (P := P) (by omega) (by rw [lnB_printT h]; exact prg_print h), if_pos h, lnB_printT h, rows_len]
  push_cast
  rfl
end Go.Proofs.YtjblplflgiibdaaGreatDoor
