/- Util: Small lemmas of no program: endings, bytes of a string, two-byte conversions.
OpnP: Opening a struct of five fields by value (out of the guide's page on structs). No program.
NamP: Names: plain. No program.
PlnP: Plans as data; what a slice of structs holds. No walk.
MapP: A map as a function of its keys, whatever its elements: over the kit's ownsMap with the element itself as the reading. No program.
PacP: Pace: the plain functions of speeds. No program.
Grw: Regions that draw their order and whose callees may make memory: one walk of the text's order, over the class of all worlds in which nothing old has turned. No program.
Pln1: The plan's small readers of the document's answer: kind, Length, has, Ends.
Pln2: The plan's readers of the document's answer that loop: Next, Reads.
Pln3: Reads of the document's answer. -/
import Derived.WalkKit
import Derived.ProofKit
import Derived.OpenShut
import Derived.ShutString
import Derived.IntWalk
import Derived.Outline
import Derived.WalkSpells
import Derived.WalkLawsBesides
import Derived.Deep.QuietTactic
import Derived.BigQuiet
import Derived.Laws.IdiomStrings
import Derived.Lib.Hide
import Derived.Below
import Derived.WalkSmall
import Derived.Lib.SmallJoins
import Derived.Deep.Slices
import Derived.Deep.Fields
import Derived.ChangeSame
import Derived.Maps.OwnSet
import Derived.DeepKeys4
import Derived.Laws.AppendOwn
import Derived.Laws.OwnMore
import Derived.Test.YtaanepadgoefhaaGreatDoorRows
import Derived.Deep.MidRow
namespace Go.Proofs.YtaanepadgoefhaaGreatDoor
open Go.ChangeShapes Go.WideShapes Go.ChangeAt Go.RowKit
set_option linter.unusedVariables false
set_option linter.unusedSimpArgs false

theorem ret_int {k : IntKind} {a b : Int} (h : a = b) : Ending.returned (.int k a) = .returned (.int k b) := by rw [h]
theorem ret_bool {a b : Bool} (h : a = b) : Ending.returned (.bool a) = .returned (.bool b) := by rw [h]
theorem ret_str {a b : ByteArray} (h : a = b) : Ending.returned (.string a) = .returned (.string b) := by rw [h]
theorem ret_ib {k : IntKind} {a b : Int} {p q : Bool} (h : a = b) (g : p = q) : Ending.returned (.tuple #[.int k a, .bool p]) = .returned (.tuple #[.int k b, .bool q]) := by rw [h, g]

/-- of what was there nothing has turned -/
def Gr (w w' : World) : Prop := Below w.heap.size w w'
theorem Gr.refl (w : World) : Gr w w := Below.refl _ _
theorem Gr.trans {a b c : World} (h : Gr a b) (k : Gr b c) : Gr a c := Below.trans h (Below.mono k h.size)
theorem Gr.alloc {a w : World} (h : Gr a w) (o : Obj) : Gr a (w.alloc o) := Below.alloc h h.size o
theorem Gr.drew {a w : World} (h : Gr a w) : Gr a w.drew := Below.drew h
theorem Gr.drewN {a w : World} (h : Gr a w) (n : Nat) : Gr a (w.drewN n) := below_drewN h n
theorem Gr.setCell {a w : World} (h : Gr a w) {p : Addr} (hp : a.heap.size ≤ p.block) (u : Value) : Gr a (w.setCell p u) := Below.setCell h hp u
theorem Gr.cell {a w : World} (h : Gr a w) (b o : Nat) (hb : b < a.heap.size) : w.cell? ⟨b, o, none⟩ = a.cell? ⟨b, o, none⟩ := Below.cell (p := ⟨b, o, none⟩) h hb
theorem Gr.frozen {a w : World} (h : Gr a w) (b o : Nat) (hb : b < a.heap.size) : w.frozen? ⟨b, o, none⟩ = a.frozen? ⟨b, o, none⟩ := Below.frozen (p := ⟨b, o, none⟩) h hb

/-- byte i of a string, as a number; 0 behind its end -/
def bt (s : ByteArray) (i : Nat) : Int := ((s.data.toList.getD i 0).toNat : Int)

theorem bt_nonneg (s : ByteArray) (i : Nat) : 0 ≤ bt s i := by unfold bt; omega
theorem bt_le (s : ByteArray) (i : Nat) : bt s i ≤ 255 := by
  unfold bt
  have := (s.data.toList.getD i 0).toNat_lt
  omega

theorem bt_get (s : ByteArray) (i : Nat) (h : i < s.size) : bt s i = ((s[i]).toNat : Int) := by
  unfold bt
  have h' : i < s.data.toList.length := by simpa using h
  rw [List.getD_eq_getElem?_getD, List.getElem?_eq_getElem h']
  rfl

theorem bt_extract (s : ByteArray) (a b i : Nat) (h : a + i < b) (hb : b ≤ s.size) : bt (s.extract a b) i = bt s (a + i) := by
  unfold bt
  congr 2
  have e : (s.extract a b).data.toList = (s.data.toList.drop a).take (b - a) := by
    simp [ByteArray.data_extract]
  rw [e, List.getD_eq_getElem?_getD, List.getD_eq_getElem?_getD, List.getElem?_take, if_pos (by omega), List.getElem?_drop]

theorem conv2 {P : Program} (src dst e : TypeId) (hs : P.underlying src = some (.slice e)) (he : P.underlying e = some (.int .u8)) (hd : P.underlying dst = some .string) (a b : Int) (ha : 0 ≤ a ∧ a ≤ 255) (hb : 0 ≤ b ∧ b ≤ 255) (w : World) (t : TypeId) :
    (convert src dst (.slice (some ⟨w.heap.size, 0, none⟩) 2 2)).run P (w.alloc (.cells #[.int .u8 a, .int .u8 b] t)) = .ok (.string ⟨#[UInt8.ofNat a.toNat, UInt8.ofNat b.toNat]⟩) (w.alloc (.cells #[.int .u8 a, .int .u8 b] t)) := by
  have := run_convert_bytes_back (P := P) (w.alloc (.cells #[.int .u8 a, .int .u8 b] t)) src dst e ⟨w.heap.size, 0, none⟩ 2 [UInt8.ofNat a.toNat, UInt8.ofNat b.toNat] hs he hd (by
    intro j hj
    match j, hj with
    | 0, _ => rw [show (⟨w.heap.size, 0, none⟩ : Addr).add 0 = ⟨w.heap.size, 0, none⟩ from rfl, World.cell?_alloc_mark]; simp; omega
    | 1, _ => rw [show (⟨w.heap.size, 0, none⟩ : Addr).add 1 = ⟨w.heap.size, 1, none⟩ from rfl, World.cell?_alloc_mark]; simp; omega)
  simpa using this
theorem conv2_at {P : Program} (src dst e : TypeId) (hs : P.underlying src = some (.slice e)) (he : P.underlying e = some (.int .u8)) (hd : P.underlying dst = some .string) (a b : Int) (ha : 0 ≤ a ∧ a ≤ 255) (hb : 0 ≤ b ∧ b ≤ 255) (w : World) (t : TypeId) (g : Nat) (hg : g = w.heap.size) :
    (convert src dst (.slice (some ⟨g, 0, none⟩) 2 2)).run P (w.alloc (.cells #[.int .u8 a, .int .u8 b] t)) = .ok (.string ⟨#[UInt8.ofNat a.toNat, UInt8.ofNat b.toNat]⟩) (w.alloc (.cells #[.int .u8 a, .int .u8 b] t)) := by
  subst hg; exact conv2 src dst e hs he hd a b ha hb w t
theorem conv1_at {P : Program} (src dst e : TypeId) (hs : P.underlying src = some (.slice e)) (he : P.underlying e = some (.int .u8)) (hd : P.underlying dst = some .string) (a : Int) (ha : 0 ≤ a ∧ a ≤ 255) (w : World) (t : TypeId) (g : Nat) (hg : g = w.heap.size) :
    (convert src dst (.slice (some ⟨g, 0, none⟩) 1 1)).run P (w.alloc (.cells #[.int .u8 a] t)) = .ok (.string ⟨#[UInt8.ofNat a.toNat]⟩) (w.alloc (.cells #[.int .u8 a] t)) := by
  subst hg
  have := run_convert_bytes_back (P := P) (w.alloc (.cells #[.int .u8 a] t)) src dst e ⟨w.heap.size, 0, none⟩ 1 [UInt8.ofNat a.toNat] hs he hd (by
    intro j hj
    match j, hj with
    | 0, _ => rw [show (⟨w.heap.size, 0, none⟩ : Addr).add 0 = ⟨w.heap.size, 0, none⟩ from rfl, World.cell?_alloc_mark]; simp; omega)
  simpa using this
theorem conv1_cell {P : Program} (src dst e : TypeId) (hs : P.underlying src = some (.slice e)) (he : P.underlying e = some (.int .u8)) (hd : P.underlying dst = some .string) (a : Int) (ha : 0 ≤ a ∧ a ≤ 255) (w : World) (g : Nat) (hc : w.cell? ⟨g, 0, none⟩ = some (.int .u8 a)) :
    (convert src dst (.slice (some ⟨g, 0, none⟩) 1 1)).run P w = .ok (.string ⟨#[UInt8.ofNat a.toNat]⟩) w := by
  have := run_convert_bytes_back (P := P) w src dst e ⟨g, 0, none⟩ 1 [UInt8.ofNat a.toNat] hs he hd (by
    intro j hj
    match j, hj with
    | 0, _ => rw [show (⟨g, 0, none⟩ : Addr).add 0 = ⟨g, 0, none⟩ from rfl, hc]; simp; omega)
  simpa using this
end Go.Proofs.YtaanepadgoefhaaGreatDoor
namespace Go.Proofs.YtaanepadgoefhaaGreatDoor
open Go.Joins Go.ChangeShapes Go.WideShapes Go.RowKit Go.Deep
set_option linter.unusedVariables false
set_option linter.unusedSimpArgs false
section
variable {H : Type} {enc : TypeId × Value → H} {P : Program} {w : World} {base : Nat} {spare : Nat → Bool} {held : Bool}
theorem open_agg5 {r : Reach} {b0 : Nat} {t : TypeId} {f0 f1 f2 f3 f4 : Field} {v : Value} {d : DataW H} {p : List MemPlace} (hs : P.underlying t = some (.struct #[f0, f1, f2, f3, f4])) (hone : oneCellFields P #[f0, f1, f2, f3, f4] = true) (hC : P.cellsOf t = 5)
    (hv : Value.okWide P w r b0 t v) (h : DataW.Trod enc P w base spare held t v d p) :
    ∃ (v0 v1 v2 v3 v4 : Value) (y0 y1 y2 y3 y4 : DataW H × List MemPlace) (n : Nat), v = .agg #[v0, v1, v2, v3, v4] ∧ d = .agg [y0.1, y1.1, y2.1, y3.1, y4.1] ∧ p = y0.2 ++ (y1.2 ++ (y2.2 ++ (y3.2 ++ y4.2))) ∧
      DataW.trod enc P w base spare held n f0.type [v0] = some y0 ∧ DataW.trod enc P w base spare held n f1.type [v1] = some y1 ∧ DataW.trod enc P w base spare held n f2.type [v2] = some y2 ∧ DataW.trod enc P w base spare held n f3.type [v3] = some y3 ∧ DataW.trod enc P w base spare held n f4.type [v4] = some y4 := by
  obtain ⟨cs, rfl, hsz⟩ := okWide_struct hs hv
  obtain ⟨l⟩ := cs
  match l, hsz.trans hC with
  | [c0, c1, c2, c3, c4], _ =>
    obtain ⟨fuel, hf⟩ := h
    obtain ⟨xs, n, _, hx, _, hlen, hg⟩ := DataW.trod_struct hs hf
    obtain ⟨o0, k0⟩ := hone_of hone 0 f0 rfl
    obtain ⟨o1, k1⟩ := hone_of hone 1 f1 rfl
    obtain ⟨o2, k2⟩ := hone_of hone 2 f2 rfl
    obtain ⟨o3, k3⟩ := hone_of hone 3 f3 rfl
    obtain ⟨o4, k4⟩ := hone_of hone 4 f4 rfl
    match xs, hlen with
    | [y0, y1, y2, y3, y4], _ =>
      simp only [Prod.mk.injEq] at hx
      exact ⟨c0, c1, c2, c3, c4, y0, y1, y2, y3, y4, n, rfl, by simpa using hx.1, by simpa using hx.2, by simpa [Value.cells, o0, k0] using hg 0 f0 rfl, by simpa [Value.cells, o1, k1] using hg 1 f1 rfl, by simpa [Value.cells, o2, k2] using hg 2 f2 rfl, by simpa [Value.cells, o3, k3] using hg 3 f3 rfl, by simpa [Value.cells, o4, k4] using hg 4 f4 rfl⟩
end

/-- a kind of trains, as data -/
structure Stk where
  nm : ByteArray
  l : Int
  t : Int
  a : Int
  b : Int
/-- the value v is this kind -/
def IsStk (v : Value) (s : Stk) : Prop :=
  v = .agg #[.string s.nm, .int .i64 s.l, .int .i64 s.t, .int .i64 s.a, .int .i64 s.b] ∧ s.nm.size ≤ maxLen ∧
  (Lit.int .i64 s.l).wf = true ∧ (Lit.int .i64 s.t).wf = true ∧ (Lit.int .i64 s.a).wf = true ∧ (Lit.int .i64 s.b).wf = true

theorem cell_lt {w : World} {b o : Nat} {v : Value} (h : w.cell? ⟨b, o, none⟩ = some v) : b < w.heap.size := by
  unfold World.cell? at h
  rcases Nat.lt_or_ge b w.heap.size with hl | hl
  · exact hl
  · rw [Array.getElem?_eq_none hl] at h
    cases h

/-- the value v is a slice whose elements, of one cell each, read xs -/
def IsVals (w : World) (v : Value) (xs : List Value) : Prop :=
  ∃ (a : Option Addr) (cap : Nat), v = .slice a xs.length cap ∧ xs.length ≤ maxLen ∧
  (xs = [] ∨ ∃ b off, a = some ⟨b, off, none⟩ ∧ b < w.heap.size ∧ ∀ i x, xs[i]? = some x → w.cell? ⟨b, off + i, none⟩ = some x)
theorem IsVals.gr {w w' : World} {v : Value} {xs : List Value} (h : IsVals w v xs) (g : Gr w w') : IsVals w' v xs := by
  obtain ⟨a, cap, hv, hl, hx⟩ := h
  refine ⟨a, cap, hv, hl, ?_⟩
  rcases hx with hx | ⟨b, off, ha, hb, hc⟩
  · exact .inl hx
  · exact .inr ⟨b, off, ha, Nat.lt_of_lt_of_le hb g.size, fun i x h => (g.cell _ _ hb).trans (hc i x h)⟩

theorem vals_of {w : World} {a : Addr} {xs : List Value} (hc : ∀ i x, xs[i]? = some x → w.cell? (a.add i) = some x) :
    xs = [] ∨ ∃ b off, some a = some (⟨b, off, none⟩ : Addr) ∧ b < w.heap.size ∧ ∀ i x, xs[i]? = some x → w.cell? ⟨b, off + i, none⟩ = some x := by
  cases xs with
  | nil => exact .inl rfl
  | cons y ys =>
    right
    obtain ⟨b, off, spot⟩ := a
    have h0 := hc 0 y rfl
    have hspot : spot = none := by simpa [Addr.add] using World.cell?_spot h0
    subst hspot
    have hp : ∀ j, (⟨b, off, none⟩ : Addr).add j = ⟨b, off + j, none⟩ := fun j => Go.WideShapes.add_plain _ _ _
    have h0' : w.cell? ⟨b, off + 0, none⟩ = some y := by rw [← hp]; exact h0
    exact ⟨b, off, rfl, cell_lt h0', fun i x h => by rw [← hp]; exact hc i x h⟩
end Go.Proofs.YtaanepadgoefhaaGreatDoor
namespace Go.Proofs.YtaanepadgoefhaaGreatDoor
open Go.ChangeShapes Go.WideShapes Go.ChangeAt Go.RowKit
set_option linter.unusedVariables false
set_option linter.unusedSimpArgs false

/-- a letter -/
def letB (c : Int) : Bool := (decide (97 ≤ c) && decide (c ≤ 122)) || (decide (65 ≤ c) && decide (c ≤ 90))
/-- a digit -/
def digB (c : Int) : Bool := decide (48 ≤ c) && decide (c ≤ 57)
/-- may byte c stand at place i of a name -/
def okc (i : Nat) (c : Int) : Bool := letB c || (decide (i ≠ 0) && digB c)
/-- is it a name -/
def nmB (s : ByteArray) : Bool := decide (1 ≤ s.size) && decide (s.size ≤ 8) && (List.range s.size).all fun i => okc i (bt s i)

theorem nmB_bad (s : ByteArray) (k : Nat) (hk : k < s.size) (h : okc k (bt s k) = false) : nmB s = false := by
  cases hq : nmB s with
  | false => rfl
  | true =>
    unfold nmB at hq
    rw [Bool.and_eq_true, List.all_eq_true] at hq
    rw [hq.2 k (List.mem_range.2 hk)] at h
    cases h
theorem nmB_good (s : ByteArray) (h : ∀ i, i < s.size → okc i (bt s i) = true) : nmB s = (decide (1 ≤ s.size) && decide (s.size ≤ 8)) := by
  unfold nmB
  have : ((List.range s.size).all fun i => okc i (bt s i)) = true := by
    rw [List.all_eq_true]; intro i hi; exact h i (List.mem_range.1 hi)
  rw [this, Bool.and_true]
theorem okc_mk (i : Nat) (c : Int) (h : (97 ≤ c ∧ c ≤ 122) ∨ (65 ≤ c ∧ c ≤ 90) ∨ (i ≠ 0 ∧ 48 ≤ c ∧ c ≤ 57)) : okc i c = true := by
  unfold okc letB digB; simp; omega
theorem okc_no (i : Nat) (c : Int) (h : ¬ ((97 ≤ c ∧ c ≤ 122) ∨ (65 ≤ c ∧ c ≤ 90) ∨ (i ≠ 0 ∧ 48 ≤ c ∧ c ≤ 57))) : okc i c = false := by
  unfold okc letB digB; simp; omega
theorem okc_iff (i : Nat) (c : Int) : okc i c = true ↔ (97 ≤ c ∧ c ≤ 122) ∨ (65 ≤ c ∧ c ≤ 90) ∨ (i ≠ 0 ∧ 48 ≤ c ∧ c ≤ 57) := by
  unfold okc letB digB; simp; omega
end Go.Proofs.YtaanepadgoefhaaGreatDoor
namespace Go.Proofs.YtaanepadgoefhaaGreatDoor
open Go.ChangeShapes Go.WideShapes Go.ChangeAt Go.RowKit
set_option linter.unusedVariables false
set_option linter.unusedSimpArgs false

structure Prt where
  e : Int
  x : Int
deriving DecidableEq
structure Ele where
  n : ByteArray
  k : Int
  l : Int
structure Jn where
  a : Prt
  b : Prt
structure Sg where
  n : ByteArray
  at_ : Prt
  auto : Bool
structure Ln where
  n : ByteArray
  es : List Int
structure Pln where
  es : List Ele
  js : List Jn
  ss : List Sg
  ls : List Ln
  top : Int
  brake : Int
  margin : Int
  throw : Int
  hard : Bool

def Prt.v (x : Prt) : Value := .agg #[.int .i64 x.e, .int .i64 x.x]

/-- v is a slice of n structs of sz cells; cell j of struct i is C i j -/
def IsRow (w : World) (v : Value) (sz n : Nat) (C : Nat → Nat → Value) : Prop :=
  ∃ a c, v = .slice a n c ∧ n ≤ maxLen ∧ (n = 0 ∨ ∃ b o, a = some ⟨b, o, none⟩ ∧ b < w.heap.size ∧ ∀ i j, i < n → j < sz → w.cell? ⟨b, o + i * sz + j, none⟩ = some (C i j))
theorem IsRow.gr {w w' : World} {v : Value} {sz n : Nat} {C : Nat → Nat → Value} (h : IsRow w v sz n C) (g : Gr w w') : IsRow w' v sz n C := by
  obtain ⟨a, c, rfl, hm, h0 | ⟨b, o, rfl, hb, hc⟩⟩ := h
  · exact ⟨a, c, rfl, hm, .inl h0⟩
  · exact ⟨_, c, rfl, hm, .inr ⟨b, o, rfl, Nat.lt_of_lt_of_le hb g.size, fun i j hi hj => by rw [g.cell _ _ hb]; exact hc i j hi hj⟩⟩
theorem IsRow.at {w : World} {a : Option Addr} {c sz n m : Nat} {C : Nat → Nat → Value} (h : IsRow w (.slice a m c) sz n C) (i : Nat) (hi : i < n) :
    ∃ b o, a = some ⟨b, o, none⟩ ∧ b < w.heap.size ∧ ∀ j, j < sz → w.cell? ⟨b, o + i * sz + j, none⟩ = some (C i j) := by
  obtain ⟨a', c', e, _, hx⟩ := h
  simp only [Value.slice.injEq] at e
  obtain ⟨rfl, -, -⟩ := e
  rcases hx with hx | ⟨b, o, rfl, hb, hc⟩
  · omega
  · exact ⟨b, o, rfl, hb, fun j hj => hc i j hi hj⟩

def Ele.c (e : Ele) (j : Nat) : Value := if j = 0 then .string e.n else if j = 1 then .int .i64 e.k else .int .i64 e.l
def Jn.c (q : Jn) (j : Nat) : Value := if j = 0 then .int .i64 q.a.e else if j = 1 then .int .i64 q.a.x else if j = 2 then .int .i64 q.b.e else .int .i64 q.b.x
def Sg.c (s : Sg) (j : Nat) : Value := if j = 0 then .string s.n else if j = 1 then .int .i64 s.at_.e else if j = 2 then .int .i64 s.at_.x else .bool s.auto
instance : Inhabited Ele := ⟨⟨ByteArray.empty, 0, 0⟩⟩
instance : Inhabited Prt := ⟨⟨0, 0⟩⟩
instance : Inhabited Jn := ⟨⟨default, default⟩⟩
instance : Inhabited Sg := ⟨⟨ByteArray.empty, default, false⟩⟩
instance : Inhabited Ln := ⟨⟨ByteArray.empty, []⟩⟩
def IsEles (w : World) (v : Value) (l : List Ele) : Prop := IsRow w v 3 l.length (fun i j => (l.getD i default).c j)
def IsJns (w : World) (v : Value) (l : List Jn) : Prop := IsRow w v 4 l.length (fun i j => (l.getD i default).c j)
def IsSgs (w : World) (v : Value) (l : List Sg) : Prop := IsRow w v 4 l.length (fun i j => (l.getD i default).c j)
/-- the lines: each with its own slice -/
def IsLns (w : World) (v : Value) (l : List Ln) : Prop :=
  ∃ S : Nat → Value, IsRow w v 2 l.length (fun i j => if j = 0 then .string (l.getD i default).n else S i) ∧ ∀ i, i < l.length → IsVals w (S i) ((l.getD i default).es.map (Value.int .i64))
theorem IsEles.gr {w w' : World} {v : Value} {l : List Ele} (h : IsEles w v l) (g : Gr w w') : IsEles w' v l := IsRow.gr h g
theorem IsJns.gr {w w' : World} {v : Value} {l : List Jn} (h : IsJns w v l) (g : Gr w w') : IsJns w' v l := IsRow.gr h g
theorem IsSgs.gr {w w' : World} {v : Value} {l : List Sg} (h : IsSgs w v l) (g : Gr w w') : IsSgs w' v l := IsRow.gr h g
theorem IsLns.gr {w w' : World} {v : Value} {l : List Ln} (h : IsLns w v l) (g : Gr w w') : IsLns w' v l := by
  obtain ⟨S, h1, h2⟩ := h
  exact ⟨S, h1.gr g, fun i hi => (h2 i hi).gr g⟩
theorem getD_at {α : Type} [Inhabited α] (l : List α) (i : Nat) (hi : i < l.length) : l.getD i default = l[i] := by
  rw [List.getD_eq_getElem?_getD, List.getElem?_eq_getElem hi]; rfl
theorem IsEles.at {w : World} {a : Option Addr} {c m : Nat} {l : List Ele} (h : IsEles w (.slice a m c) l) (i : Nat) (hi : i < l.length) :
    ∃ b o, a = some ⟨b, o, none⟩ ∧ b < w.heap.size ∧ w.cell? ⟨b, o + i * 3, none⟩ = some (.string l[i].n) ∧ w.cell? ⟨b, o + i * 3 + 1, none⟩ = some (.int .i64 l[i].k) ∧ w.cell? ⟨b, o + i * 3 + 2, none⟩ = some (.int .i64 l[i].l) := by
  obtain ⟨b, o, rfl, hb, hc⟩ := IsRow.at h i hi
  simp only [getD_at l i hi] at hc
  exact ⟨b, o, rfl, hb, hc 0 (by omega), hc 1 (by omega), hc 2 (by omega)⟩
theorem IsJns.at {w : World} {a : Option Addr} {c m : Nat} {l : List Jn} (h : IsJns w (.slice a m c) l) (i : Nat) (hi : i < l.length) :
    ∃ b o, a = some ⟨b, o, none⟩ ∧ b < w.heap.size ∧ w.cell? ⟨b, o + i * 4, none⟩ = some (.int .i64 l[i].a.e) ∧ w.cell? ⟨b, o + i * 4 + 1, none⟩ = some (.int .i64 l[i].a.x) ∧ w.cell? ⟨b, o + i * 4 + 2, none⟩ = some (.int .i64 l[i].b.e) ∧ w.cell? ⟨b, o + i * 4 + 3, none⟩ = some (.int .i64 l[i].b.x) := by
  obtain ⟨b, o, rfl, hb, hc⟩ := IsRow.at h i hi
  simp only [getD_at l i hi] at hc
  exact ⟨b, o, rfl, hb, hc 0 (by omega), hc 1 (by omega), hc 2 (by omega), hc 3 (by omega)⟩
theorem IsSgs.at {w : World} {a : Option Addr} {c m : Nat} {l : List Sg} (h : IsSgs w (.slice a m c) l) (i : Nat) (hi : i < l.length) :
    ∃ b o, a = some ⟨b, o, none⟩ ∧ b < w.heap.size ∧ w.cell? ⟨b, o + i * 4, none⟩ = some (.string l[i].n) ∧ w.cell? ⟨b, o + i * 4 + 1, none⟩ = some (.int .i64 l[i].at_.e) ∧ w.cell? ⟨b, o + i * 4 + 2, none⟩ = some (.int .i64 l[i].at_.x) ∧ w.cell? ⟨b, o + i * 4 + 3, none⟩ = some (.bool l[i].auto) := by
  obtain ⟨b, o, rfl, hb, hc⟩ := IsRow.at h i hi
  simp only [getD_at l i hi] at hc
  exact ⟨b, o, rfl, hb, hc 0 (by omega), hc 1 (by omega), hc 2 (by omega), hc 3 (by omega)⟩
theorem IsLns.at {w : World} {a : Option Addr} {c m : Nat} {l : List Ln} (h : IsLns w (.slice a m c) l) (i : Nat) (hi : i < l.length) :
    ∃ b o u, a = some ⟨b, o, none⟩ ∧ b < w.heap.size ∧ w.cell? ⟨b, o + i * 2, none⟩ = some (.string l[i].n) ∧ w.cell? ⟨b, o + i * 2 + 1, none⟩ = some u ∧ IsVals w u (l[i].es.map (Value.int .i64)) := by
  obtain ⟨S, h1, h2⟩ := h
  obtain ⟨b, o, rfl, hb, hc⟩ := IsRow.at h1 i hi
  have h3 := h2 i hi
  simp only [getD_at l i hi] at hc h3
  exact ⟨b, o, S i, rfl, hb, hc 0 (by omega), hc 1 (by omega), h3⟩

/-- the value of a plan -/
def plnV (P : Pln) (e j s l : Value) : Value := .agg #[e, j, s, l, .int .i64 P.top, .int .i64 P.brake, .int .i64 P.margin, .int .i64 P.throw, .bool P.hard]
/-- v is the plan P -/
def IsPln (w : World) (v : Value) (P : Pln) : Prop :=
  ∃ a1 c1 a2 c2 a3 c3 a4 c4, v = plnV P (.slice a1 P.es.length c1) (.slice a2 P.js.length c2) (.slice a3 P.ss.length c3) (.slice a4 P.ls.length c4) ∧
    IsEles w (.slice a1 P.es.length c1) P.es ∧ IsJns w (.slice a2 P.js.length c2) P.js ∧ IsSgs w (.slice a3 P.ss.length c3) P.ss ∧ IsLns w (.slice a4 P.ls.length c4) P.ls
theorem IsPln.gr {w w' : World} {v : Value} {P : Pln} (h : IsPln w v P) (g : Gr w w') : IsPln w' v P := by
  obtain ⟨a1, c1, a2, c2, a3, c3, a4, c4, rfl, h1, h2, h3, h4⟩ := h
  exact ⟨a1, c1, a2, c2, a3, c3, a4, c4, rfl, h1.gr g, h2.gr g, h3.gr g, h4.gr g⟩
theorem IsRow.len {w : World} {v : Value} {sz n : Nat} {C : Nat → Nat → Value} (h : IsRow w v sz n C) : n ≤ maxLen := by
  obtain ⟨a, c, rfl, hm, _⟩ := h; exact hm
end Go.Proofs.YtaanepadgoefhaaGreatDoor
namespace Go.Proofs.YtaanepadgoefhaaGreatDoor
open Go.ChangeShapes Go.WideShapes Go.ChangeAt Go.RowKit Go.Maps
set_option linter.unusedVariables false
set_option linter.unusedSimpArgs false

/-- each value reads as itself -/
def heldR (v : Value) : Option (DataW Value × List MemPlace) := some (.held v, [])
open Classical in
/-- block b is a map of n entries at most; f: what it has at a key -/
def MapIs (P : Program) (k : TypeId) (w : World) (b n : Nat) (f : Value → Option Value) : Prop :=
  ∃ D : DataW Value, w.ownsMap P k heldR b n D ∧ Maps.IsMap D ∧ ∀ key kl, keyOf P k key = some kl →
    Maps.has D kl = (f key).isSome ∧ ∀ z : Value, D.atKey kl (.held z) = .held ((f key).getD z)
open Classical in
noncomputable def put (f : Value → Option Value) (key val : Value) : Value → Option Value := fun x => if x = key then some val else f x

variable {P : Program} {k e t : TypeId} {w : World} {b n : Nat} {f : Value → Option Value}
theorem MapIs.made (w : World) (P : Program) (k : TypeId) : MapIs P k (w.alloc (.map #[] 0)) w.heap.size 0 (fun _ => none) :=
  ⟨_, World.ownsMap_made w P k heldR, Maps.isMap_empty, fun key kl _ => ⟨rfl, fun _ => rfl⟩⟩
theorem MapIs.lt (h : MapIs P k w b n f) : b < w.heap.size := by obtain ⟨D, ho, _⟩ := h; exact ho.lt
theorem MapIs.lookup (h : MapIs P k w b n f) (K : Keyed P k) (ht : P.underlying t = some (.map k e)) {z : Value} (hz : (zeroValue e).run P w = .ok z w) {key : Value} {kl : Lit} (hkey : keyOf P k key = some kl) :
    (Instr.lookup t (.map (some b)) key false).run P w = .ok ((f key).getD z) w := by
  obtain ⟨D, ho, hm, hf⟩ := h
  obtain ⟨v, ps, hrun, hv⟩ := ho.lookup K ht hz (zd := .held z) (zp := []) rfl hkey
  rw [(hf key kl hkey).2 z] at hv
  simp only [heldR, Option.some.injEq, Prod.mk.injEq, DataW.held.injEq] at hv
  rw [hrun, hv.1]
theorem MapIs.lookup_ok (h : MapIs P k w b n f) (K : Keyed P k) (ht : P.underlying t = some (.map k e)) {z : Value} (hz : (zeroValue e).run P w = .ok z w) {key : Value} {kl : Lit} (hkey : keyOf P k key = some kl) :
    (Instr.lookup t (.map (some b)) key true).run P w = .ok (.tuple #[(f key).getD z, .bool (f key).isSome]) w := by
  obtain ⟨D, ho, hm, hf⟩ := h
  obtain ⟨v, ps, hrun, hv⟩ := ho.look_ok K ht hz (zd := .held z) (zp := []) rfl hkey
  rw [(hf key kl hkey).2 z] at hv
  simp only [heldR, Option.some.injEq, Prod.mk.injEq, DataW.held.injEq] at hv
  rw [hrun, hv.1, (hf key kl hkey).1]
theorem MapIs.update (h : MapIs P k w b n f) (K : Keyed P k) (ht : P.underlying t = some (.map k e)) (hn : n < maxLen) {key val : Value} {kl : Lit} (hkey : keyOf P k key = some kl) :
    ∃ w', (Instr.mapUpdate t (.map (some b)) key val).run P w = .ok () w' ∧ MapIs P k w' b (n + 1) (put f key val) ∧ w.grownBy w' (some b) := by
  obtain ⟨D, ho, hm, hf⟩ := h
  obtain ⟨w', hrun, ho', hg⟩ := ho.update K ht hn hkey (val := val) (d := .held val) (ps := []) rfl
  refine ⟨w', hrun, ⟨_, ho', hm.put _ _, fun x xl hx => ?_⟩, hg⟩
  unfold put
  by_cases hxk : x = key
  · subst hxk
    obtain rfl : xl = kl := Option.some.inj (hx.symm.trans hkey)
    rw [if_pos rfl]
    exact ⟨Maps.has_put_same hm (K.key hx) _, fun z => Maps.atKey_put_same hm (K.key hx) _ _⟩
  · have hne : xl ≠ kl := fun e => hxk (by subst e; exact K.inj hx hkey)
    rw [if_neg hxk]
    exact ⟨by rw [Maps.has_put_other hne]; exact (hf x xl hx).1, fun z => by rw [Maps.atKey_put_other hne]; exact (hf x xl hx).2 z⟩
theorem MapIs.block {w' : World} (h : MapIs P k w b n f) (hb : w'.heap[b]? = w.heap[b]?) : MapIs P k w' b n f := by
  obtain ⟨D, ⟨es, clock, h1, h2⟩, hm, hf⟩ := h
  exact ⟨D, ⟨es, clock, hb.trans h1, h2⟩, hm, hf⟩
theorem MapIs.gr {w' : World} (h : MapIs P k w b n f) (g : Gr w w') : MapIs P k w' b n f := h.block (g.block b h.lt)
theorem Gr.grownM {a w' : World} (g : Gr a w) (hg : w.grownBy w' (some b)) (hb : a.heap.size ≤ b) : Gr a w' :=
  Below.grown g hg g.size (fun j hj => by cases hj; exact hb)
/-- 'm[k] = v' at the operation: after at_mapUpdate -/
theorem wpList_put (w : World) {ops : Array Oper} {rest : List Oper} {o : Oper} {a : Act} {Q : Exit → Act → World → Prop}
    (hg : o.guard = none) (m x v : Operand) (t : TypeId) (hop : o.op = Op.mapUpdate t m x v) (K : Keyed P k) (ht : P.underlying t = some (.map k e))
    (hm : a.eval m = .map (some b)) (h : MapIs P k w b n f) (hn : n < maxLen) (key val : Value) (kl : Lit) (hx : a.eval x = key) (hv : a.eval v = val) (hkey : keyOf P k key = some kl)
    (hK : ∀ w', MapIs P k w' b (n + 1) (put f key val) → w.grownBy w' (some b) → wpList P ops Q rest (a.put o.dst undef) w') :
    wpList P ops Q (o :: rest) a w := by
  refine wpList_plain hg fun K' hK' => ?_
  obtain ⟨w', hrun, h1, h2⟩ := h.update K ht hn (val := val) hkey
  unfold Oper.wp
  simp [execOp, hop, hm, hx, hv, hrun, Result.andThen]
  exact hK' _ _ (hK w' h1 h2)
end Go.Proofs.YtaanepadgoefhaaGreatDoor
namespace Go.Proofs.YtaanepadgoefhaaGreatDoor
open Go.ChangeShapes Go.WideShapes Go.ChangeAt Go.RowKit
set_option linter.unusedVariables false
set_option linter.unusedSimpArgs false

/-- a number held between two -/
def hld (n lo hi : Int) : Int := max lo (min n hi)
theorem hld_bd (n lo hi : Int) (h : lo ≤ hi) : lo ≤ hld n lo hi ∧ hld n lo hi ≤ hi := by unfold hld; omega
theorem hld_id (n lo hi : Int) (h0 : lo ≤ n) (h1 : n ≤ hi) : hld n lo hi = n := by unfold hld; omega

/-- what a driver's want comes to -/
def wnt (a b want : Int) (f : Bool) : Int := if f then -b else hld want (-b) a
/-- the speed of the next tick -/
def nxt (t a b v want : Int) (f : Bool) : Int := hld (hld v 0 t + wnt a b want f) 0 t
theorem wnt_bd (a b want : Int) (f : Bool) (ha : 1 ≤ a) (hb : 1 ≤ b) : -b ≤ wnt a b want f ∧ wnt a b want f ≤ a := by
  unfold wnt
  split
  · omega
  · exact hld_bd _ _ _ (by omega)
theorem nxt_bd (t a b v want : Int) (f : Bool) (ht : 1 ≤ t) : 0 ≤ nxt t a b v want f ∧ nxt t a b v want f ≤ t := by
  unfold nxt; exact hld_bd _ _ _ (by omega)

/-- V, V - b, V - 2b .. as long as they are positive -/
def tailS (b : Int) : Nat → Int → Int
  | 0, _ => 0
  | k + 1, V => if 0 < V then V + tailS b k (V - b) else 0
/-- the braking distance -/
def stp (b v : Int) : Int := tailS b 60 (v - b)

theorem tailS_bd (b : Int) (hb : 1 ≤ b) : ∀ (k : Nat) (V : Int), V ≤ 60 → 0 ≤ tailS b k V ∧ tailS b k V ≤ 60 * k
  | 0, V, h => by simp [tailS]
  | k + 1, V, h => by
    unfold tailS
    split
    · have := tailS_bd b hb k (V - b) (by omega)
      omega
    · omega
theorem stp_bd (b v : Int) (hb : 1 ≤ b) (hv : v ≤ 60) : 0 ≤ stp b v ∧ stp b v ≤ 3600 := by
  have := tailS_bd b hb 60 (v - b) (by omega)
  unfold stp; omega
theorem tailS_pos (b : Int) (k : Nat) (V : Int) (h : 0 < V) (hk : V ≤ k) : ∃ j : Nat, k = j + 1 ∧ tailS b k V = V + tailS b j (V - b) := by
  match k, hk with
  | 0, hk => omega
  | j + 1, _ => exact ⟨j, rfl, by simp [tailS, h]⟩
theorem tailS_no (b : Int) (k : Nat) (V : Int) (h : ¬ 0 < V) : tailS b k V = 0 := by
  match k with
  | 0 => rfl
  | j + 1 => simp [tailS, h]

/-- how many ticks -/
def tck (t b v : Int) : Int := (hld v 0 t + b - 1) / b
theorem tck_zero (b : Int) (hb : 1 ≤ b) : (0 + b - 1) / b = 0 := Int.ediv_eq_zero_of_lt (by omega) (by omega)
theorem tck_step (t a b v : Int) (hb : 1 ≤ b) (h0 : 0 < v) (h1 : v ≤ t) : (v + b - 1) / b = 1 + (nxt t a b v 0 true + b - 1) / b := by
  have hw : wnt a b 0 true = -b := rfl
  unfold nxt
  rw [hw, hld_id v 0 t (by omega) h1]
  by_cases h : b ≤ v
  · rw [hld_id (v + -b) 0 t (by omega) (by omega)]
    have e : v + b - 1 = (v + -b + b - 1) + 1 * b := by omega
    rw [e, Int.add_mul_ediv_right _ _ (by omega)]
    omega
  · have e : hld (v + -b) 0 t = 0 := by unfold hld; omega
    rw [e, tck_zero b hb]
    have e2 : v + b - 1 = (v - 1) + 1 * b := by omega
    rw [e2, Int.add_mul_ediv_right _ _ (by omega), Int.ediv_eq_zero_of_lt (by omega) (by omega)]
    rfl
theorem tck_bd (b v : Int) (hb : 1 ≤ b) (h0 : 0 ≤ v) : 0 ≤ (v + b - 1) / b ∧ (v + b - 1) / b ≤ v := by
  refine ⟨Int.ediv_nonneg (by omega) (by omega), ?_⟩
  have h1 : v + b - 1 < (v + 1) * b := by
    have : v * 1 ≤ v * b := Int.mul_le_mul_of_nonneg_left hb h0
    have e : (v + 1) * b = v * b + b := by rw [Int.add_mul, Int.one_mul]
    omega
  have := Int.ediv_lt_of_lt_mul (by omega : 0 < b) h1
  omega
/-- forced, one stands or is slower -/
theorem nxt_forced (t a b v : Int) (hb : 1 ≤ b) (h0 : 0 < v) (h1 : v ≤ t) : 0 ≤ nxt t a b v 0 true ∧ nxt t a b v 0 true < v := by
  have hw : wnt a b 0 true = -b := rfl
  unfold nxt
  rw [hw, hld_id v 0 t (by omega) h1]
  unfold hld; omega

/-- the braking distance of a stock, at whatever speed -/
def stopD (t b v : Int) : Int := stp b (hld v 0 t)
theorem stopD_bd (t b v : Int) (ht : 1 ≤ t ∧ t ≤ 60) (hb : 1 ≤ b) : 0 ≤ stopD t b v ∧ stopD t b v ≤ 3600 := by
  have := hld_bd v 0 t (by omega)
  exact stp_bd _ _ hb (by omega)

/-- from x down: the first speed that keeps within the room -/
def kpF (t b room : Int) : Nat → Int → Int
  | 0, x => x
  | k + 1, x => if x + stopD t b x ≤ room then x else kpF t b room k (x - 1)
def kps (t a b v room : Int) : Int := kpF t b room (nxt t a b v a false - nxt t a b v (-b) false).toNat (nxt t a b v a false)
theorem kpF_end (t b room L X : Int) (h : X ≤ L) : kpF t b room (X - L).toNat X = X := by
  have e : (X - L).toNat = 0 := by omega
  rw [e]; rfl
theorem kpF_yes (t b room L X : Int) (h : X + stopD t b X ≤ room) : kpF t b room (X - L).toNat X = X := by
  cases hk : (X - L).toNat with
  | zero => rfl
  | succ k => simp [kpF, h]
theorem kpF_no (t b room L X : Int) (hL : L < X) (h : ¬ X + stopD t b X ≤ room) : kpF t b room (X - L).toNat X = kpF t b room (X - 1 - L).toNat (X - 1) := by
  have e : (X - L).toNat = (X - 1 - L).toNat + 1 := by omega
  rw [e]; simp [kpF, h]
theorem nxt_least (t a b v : Int) (ha : 1 ≤ a) (hb : 1 ≤ b) (ht : 1 ≤ t) : nxt t a b v (-b) false ≤ nxt t a b v a false := by
  have h1 : wnt a b (-b) false = -b := by unfold wnt hld; simp; omega
  have h2 : wnt a b a false = a := by unfold wnt hld; simp; omega
  unfold nxt
  rw [h1, h2]
  unfold hld; omega

/-- under full acceleration -/
def acc (t a b v : Int) : Int := nxt t a b v a false
theorem acc_bd (t a b v : Int) (ht : 1 ≤ t) (ha : 1 ≤ a) (hb : 1 ≤ b) : 1 ≤ acc t a b v ∧ acc t a b v ≤ t := by
  have h2 : wnt a b a false = a := by unfold wnt hld; simp; omega
  unfold acc nxt
  rw [h2]
  unfold hld; omega
/-- how far in so many ticks -/
def rch (t a b : Int) : Nat → Int → Int
  | 0, _ => 0
  | k + 1, v => acc t a b v + rch t a b k (acc t a b v)
theorem rch_step (t a b v N : Int) (h : 0 < N) : rch t a b N.toNat v = acc t a b v + rch t a b (N - 1).toNat (acc t a b v) := by
  have e : N.toNat = (N - 1).toNat + 1 := by omega
  rw [e]; rfl
/-- in how few ticks so far: from v, with so much gone already -/
def lstF (t a b tgt : Int) : Nat → Int → Int → Int
  | 0, _, _ => 0
  | k + 1, v, w => if tgt ≤ w then 0 else 1 + lstF t a b tgt k (acc t a b v) (w + acc t a b v)
def lst (t a b v metres : Int) : Int := lstF t a b (hld metres 0 65536) 65536 v 0
theorem lstF_end (t a b tgt v w : Int) (k : Nat) (h : tgt ≤ w) : lstF t a b tgt k v w = 0 := by
  cases k with
  | zero => rfl
  | succ k => simp [lstF, h]
theorem lstF_step (t a b tgt v w : Int) (k : Nat) (h : ¬ tgt ≤ w) (hk : tgt - w ≤ k) : ∃ j : Nat, k = j + 1 ∧ lstF t a b tgt k v w = 1 + lstF t a b tgt j (acc t a b v) (w + acc t a b v) := by
  cases k with
  | zero => omega
  | succ j => exact ⟨j, rfl, by simp [lstF, h]⟩
end Go.Proofs.YtaanepadgoefhaaGreatDoor
namespace Go.Proofs.YtaanepadgoefhaaGreatDoor
open Go.ChangeShapes Go.WideShapes Go.ChangeAt Go.RowKit
set_option linter.unusedVariables false
set_option linter.unusedSimpArgs false

/-- a world in which nothing of w has turned -/
structure GrW (w : World) where
  wd : World
  gr : Gr w wd
instance (w : World) : Nonempty (GrW w) := ⟨⟨w, Gr.refl w⟩⟩
theorem GrW.cell {w : World} {b : Nat} (hb : b < w.heap.size) (i : GrW w) (o : Nat) : i.wd.cell? ⟨b, o, none⟩ = w.cell? ⟨b, o, none⟩ := i.gr.cell b o hb
theorem GrW.frozen {w : World} {b : Nat} (hb : b < w.heap.size) (i : GrW w) (o : Nat) : i.wd.frozen? ⟨b, o, none⟩ = w.frozen? ⟨b, o, none⟩ := i.gr.frozen b o hb
theorem wp_region_gr {P : Program} {id : Nat} {Q : Exit → Act → World → Prop} {a : Act} {w : World} {l : List Oper} (hm : P.follows .mixedOrders = true) (hB : Region.lexB .any l.toArray = true)
    (h : wpQuiet P l.toArray (fun w' => ∃ i : GrW w, w' = i.wd) (fun a' => ∀ w', (∃ i : GrW w, w' = i.wd) → Q .normal a' w') l a) : (Code.region id l.toArray true).wp P Q a w :=
  wp_region_quiet (C := fun w' => ∃ i : GrW w, w' = i.wd) hm hB ⟨⟨w.drew, (Gr.refl w).drew⟩, rfl⟩ (by simpa using h)
theorem Calls.gr_of {P : Program} {f : FuncId} {args : Array Value} {w : World} {i : GrW w} {v : Value}
    (h : Calls P f args i.wd fun e w' => e = .returned v ∧ Gr i.wd w') : Calls P f args i.wd fun e w'' => e = .returned v ∧ ∃ j : GrW w, w'' = j.wd :=
  h.mono fun _ w' ⟨he, hg⟩ => ⟨he, ⟨w', i.gr.trans hg⟩, rfl⟩
theorem Calls.gr_same {P : Program} {f : FuncId} {args : Array Value} {w : World} {i : GrW w} {v : Value}
    (h : Calls P f args i.wd fun e w' => e = .returned v ∧ w' = i.wd) : Calls P f args i.wd fun e w'' => e = .returned v ∧ ∃ j : GrW w, w'' = j.wd :=
  h.mono fun _ w' ⟨he, hg⟩ => ⟨he, i, hg⟩
theorem new2 {wr w5 : World} {t : TypeId} {x y : Value} (h : Gr ((wr.alloc (.cells #[x, y] t)).drew) w5) : w5.cell? ⟨wr.heap.size, 0, none⟩ = some x ∧ w5.cell? ⟨wr.heap.size, 1, none⟩ = some y ∧ w5.frozen? ⟨wr.heap.size, 0, none⟩ = false ∧ w5.frozen? ⟨wr.heap.size, 1, none⟩ = false ∧ wr.heap.size < w5.heap.size := by
  have hz : wr.heap.size < ((wr.alloc (.cells #[x, y] t)).drew).heap.size := by simp
  exact ⟨(h.cell _ _ hz).trans (by simp), (h.cell _ _ hz).trans (by simp), (h.frozen _ _ hz).trans (by simp), (h.frozen _ _ hz).trans (by simp), Nat.lt_of_lt_of_le hz h.size⟩
/-- a new block of two cells has been laid and filled -/
def NewAt (wr wz : World) (g : Nat) (x y : Value) : Prop := Gr wr wz ∧ wr.heap.size ≤ g ∧ g < wz.heap.size ∧ wz.cell? ⟨g, 0, none⟩ = some x ∧ wz.cell? ⟨g, 1, none⟩ = some y
theorem newAt_alloc {wr w5 : World} {t : TypeId} {x y : Value} (g : Gr wr w5) : NewAt wr (w5.alloc (.cells #[x, y] t)) w5.heap.size x y :=
  ⟨g.alloc _, g.size, by simp, by simp, by simp⟩
theorem newAt_set {wr w5 : World} {t : TypeId} {a b x y : Value} (h : Gr ((wr.alloc (.cells #[a, b] t)).drew) w5) : NewAt wr ((w5.setCell ⟨wr.heap.size, 0, none⟩ x).setCell ⟨wr.heap.size, 1, none⟩ y) wr.heap.size x y := by
  obtain ⟨k0, k1, f0, f1, z⟩ := new2 h
  refine ⟨((((Gr.refl wr).alloc _).drew.trans h).setCell (Nat.le_refl _) _).setCell (Nat.le_refl _) _, Nat.le_refl _, by simpa using z, ?_, ?_⟩
  · exact (World.cell?_setCell_other _ _ _ _ (by simp)).trans (World.cell?_setCell_same _ _ _ k0)
  · exact World.cell?_setCell_same _ _ _ ((World.cell?_setCell_other _ _ _ _ (by simp)).trans k1)
theorem own_gr {w w' : World} {B : Nat} {e : TypeId} {sz n : Nat} {v : Value} {xs : List Value} (h : w.ownsRow B e sz v n xs) (g : Gr w w') : w'.ownsRow B e sz v n xs := by
  refine ⟨h.1, ?_⟩
  rcases h.2 with h | ⟨b, cap, cur, hv, hb, hh, rest⟩
  · exact .inl h
  · refine .inr ⟨b, cap, cur, hv, hb, ?_, rest⟩
    have hlt : b < w.heap.size := by
      rcases Nat.lt_or_ge b w.heap.size with hl | hl
      · exact hl
      · rw [Array.getElem?_eq_none hl] at hh; cases hh
    rw [g.block b hlt]; exact hh
theorem own_lt {w : World} {B : Nat} {e : TypeId} {sz n : Nat} {v : Value} {xs : List Value} (h : w.ownsRow B e sz v n xs) : ∀ b, v.ownBlock = some b → b < w.heap.size := by
  intro b hb
  rcases h.2 with ⟨rfl, _⟩ | ⟨g, cap, cur, rfl, hg, hh, rest⟩
  · cases hb
  · simp [Value.ownBlock] at hb
    subst hb
    rcases Nat.lt_or_ge g w.heap.size with hl | hl
    · exact hl
    · rw [Array.getElem?_eq_none hl] at hh; cases hh
theorem beqF {a b : Int} (h : a ≠ b) : (a == b) = false := by simpa using h
theorem beqT {a b : Int} (h : a = b) : (a == b) = true := by simpa using h
theorem bneF {a b : Int} (h : a = b) : (a != b) = false := by simpa using h
theorem bneT {a b : Int} (h : a ≠ b) : (a != b) = true := by simpa using h
end Go.Proofs.YtaanepadgoefhaaGreatDoor
namespace Go.Proofs.YtaanepadgoefhaaGreatDoor
open Go.ChangeShapes Go.WideShapes Go.ChangeAt Go.RowKit
set_option linter.unusedVariables false
set_option linter.unusedSimpArgs false

def kindP (P : Pln) (i : Int) : Int := if 0 ≤ i ∧ i < P.es.length then (P.es.getD i.toNat default).k else 0
def lenP (P : Pln) (i : Int) : Int := if 0 ≤ i ∧ i < P.es.length then (P.es.getD i.toNat default).l else 0
theorem kindP_in (P : Pln) (k : Nat) (h : k < P.es.length) : kindP P k = P.es[k].k := by
  unfold kindP; rw [if_pos (by omega), Int.toNat_natCast, getD_at _ _ h]
theorem lenP_in (P : Pln) (k : Nat) (h : k < P.es.length) : lenP P k = P.es[k].l := by
  unfold lenP; rw [if_pos (by omega), Int.toNat_natCast, getD_at _ _ h]
theorem kindP_out (P : Pln) (i : Int) (h : ¬ (0 ≤ i ∧ i < P.es.length)) : kindP P i = 0 := by unfold kindP; rw [if_neg h]
theorem lenP_out (P : Pln) (i : Int) (h : ¬ (0 ≤ i ∧ i < P.es.length)) : lenP P i = 0 := by unfold lenP; rw [if_neg h]

theorem kind_any (v : Value) (P : Pln) (i : Int) (w : World) (hP : IsPln w v P) :
    Calls Tryz.prog 86 #[v, .int .i64 i] w fun e w' => e = .returned (.int .i64 (kindP P i)) ∧ Gr w w' := by
  obtain ⟨a1, c1, a2, c2, a3, c3, a4, c4, rfl, h1, -, -, -⟩ := hP
  unfold plnV
  have hm := IsRow.len h1
  unfold maxLen at hm
  by_cases hi : 0 ≤ i ∧ i < P.es.length
  · obtain ⟨k, rfl⟩ := Int.eq_ofNat_of_zero_le hi.1
    have hk : k < P.es.length := by omega
    have HN := Lib.hid (kindP_in P k hk)
    obtain ⟨b, o, rfl, hb, -, x1, -⟩ := h1.at k hk
    clear hi h1
    go_enter Tryz.func86, Tryz.ntmps86
    go_wp2
    go_ret
    exact ⟨ret_int HN.out.symm, (Gr.refl _).alloc _⟩
  · have HN := Lib.hid (kindP_out P i hi)
    have hi' : i < 0 ∨ (P.es.length : Int) ≤ i := by omega
    clear hi h1
    rcases hi' with hi | hi
    all_goals
      go_enter Tryz.func86, Tryz.ntmps86
      go_wp2
      go_ret
      exact ⟨ret_int HN.out.symm, (Gr.refl _).alloc _⟩
theorem length_any (v : Value) (P : Pln) (i : Int) (w : World) (hP : IsPln w v P) :
    Calls Tryz.prog 43 #[v, .int .i64 i] w fun e w' => e = .returned (.int .i64 (lenP P i)) ∧ Gr w w' := by
  obtain ⟨a1, c1, a2, c2, a3, c3, a4, c4, rfl, h1, -, -, -⟩ := hP
  unfold plnV
  have hm := IsRow.len h1
  unfold maxLen at hm
  by_cases hi : 0 ≤ i ∧ i < P.es.length
  · obtain ⟨k, rfl⟩ := Int.eq_ofNat_of_zero_le hi.1
    have hk : k < P.es.length := by omega
    have HN := Lib.hid (lenP_in P k hk)
    obtain ⟨b, o, rfl, hb, -, -, x1⟩ := h1.at k hk
    clear hi h1
    go_enter Tryz.func43, Tryz.ntmps43
    go_wp2
    go_ret
    exact ⟨ret_int HN.out.symm, (Gr.refl _).alloc _⟩
  · have HN := Lib.hid (lenP_out P i hi)
    have hi' : i < 0 ∨ (P.es.length : Int) ≤ i := by omega
    clear hi h1
    rcases hi' with hi | hi
    all_goals
      go_enter Tryz.func43, Tryz.ntmps43
      go_wp2
      go_ret
      exact ⟨ret_int HN.out.symm, (Gr.refl _).alloc _⟩

/-- the ends of a kind -/
def endsK (k : Int) : Int := if k = 1 then 2 else if k = 2 then 3 else if k = 3 then 4 else if k = 4 then 1 else 0
theorem endsR_any (k : Int) (w : World) : Calls Tryz.prog 87 #[.int .i64 k] w fun e w' => e = .returned (.int .i64 (endsK k)) ∧ w' = w := by
  by_cases e1 : k = 1
  · subst e1
    go_enter Tryz.func87, Tryz.ntmps87
    go_wp2
    go_ret
    exact ⟨rfl, rfl⟩
  by_cases e2 : k = 2
  · subst e2
    go_enter Tryz.func87, Tryz.ntmps87
    go_wp2
    go_ret
    exact ⟨rfl, rfl⟩
  by_cases e3 : k = 3
  · subst e3
    go_enter Tryz.func87, Tryz.ntmps87
    go_wp2
    go_ret
    exact ⟨rfl, rfl⟩
  by_cases e4 : k = 4
  · subst e4
    go_enter Tryz.func87, Tryz.ntmps87
    go_wp2
    go_ret
    exact ⟨rfl, rfl⟩
  have t1 : (k == 1) = false := by simpa using e1
  have t2 : (k == 2) = false := by simpa using e2
  have t3 : (k == 3) = false := by simpa using e3
  have t4 : (k == 4) = false := by simpa using e4
  have HN : Hid (endsK k = 0) := by unfold Hid endsK; rw [if_neg e1, if_neg e2, if_neg e3, if_neg e4]
  clear e1 e2 e3 e4
  go_enter Tryz.func87, Tryz.ntmps87
  go_wp2
  go_ret
  exact ⟨ret_int HN.out.symm, rfl⟩
theorem ends_any (k : Int) (w : World) : Calls Tryz.prog 142 #[.int .i64 k] w fun e w' => e = .returned (.int .i64 (endsK k)) ∧ w' = w := by
  by_cases e1 : k = 1
  · subst e1
    go_enter Tryz.func142, Tryz.ntmps142
    go_wp2
    go_ret
    exact ⟨rfl, rfl⟩
  by_cases e2 : k = 2
  · subst e2
    go_enter Tryz.func142, Tryz.ntmps142
    go_wp2
    go_ret
    exact ⟨rfl, rfl⟩
  by_cases e3 : k = 3
  · subst e3
    go_enter Tryz.func142, Tryz.ntmps142
    go_wp2
    go_ret
    exact ⟨rfl, rfl⟩
  by_cases e4 : k = 4
  · subst e4
    go_enter Tryz.func142, Tryz.ntmps142
    go_wp2
    go_ret
    exact ⟨rfl, rfl⟩
  have t1 : (k == 1) = false := by simpa using e1
  have t2 : (k == 2) = false := by simpa using e2
  have t3 : (k == 3) = false := by simpa using e3
  have t4 : (k == 4) = false := by simpa using e4
  have HN : Hid (endsK k = 0) := by unfold Hid endsK; rw [if_neg e1, if_neg e2, if_neg e3, if_neg e4]
  clear e1 e2 e3 e4
  go_enter Tryz.func142, Tryz.ntmps142
  go_wp2
  go_ret
  exact ⟨ret_int HN.out.symm, rfl⟩

/-- is it a port of the plan -/
def hasP (P : Pln) (x : Prt) : Bool := decide (0 ≤ x.e) && decide (x.e < P.es.length) && decide (0 ≤ x.x) && decide (x.x < endsK (kindP P x.e))
theorem has_any (v : Value) (P : Pln) (x : Prt) (w : World) (hP : IsPln w v P) :
    Calls Tryz.prog 113 #[v, x.v] w fun e w' => e = .returned (.bool (hasP P x)) ∧ Gr w w' := by
  obtain ⟨a1, c1, a2, c2, a3, c3, a4, c4, rfl, h1, -, -, -⟩ := hP
  obtain ⟨xe, xx⟩ := x
  unfold plnV Prt.v
  have hm := IsRow.len h1
  unfold maxLen at hm
  by_cases hi : 0 ≤ xe ∧ xe < P.es.length
  · obtain ⟨k, rfl⟩ := Int.eq_ofNat_of_zero_le hi.1
    have hk : k < P.es.length := by omega
    have HK := kindP_in P k hk
    obtain ⟨b, o, rfl, hb, -, y1, -⟩ := h1.at k hk
    have HN : Hid (hasP P ⟨k, xx⟩ = (decide (0 ≤ xx) && decide (xx < endsK P.es[k].k))) := by
      unfold Hid hasP
      rw [HK]
      simp [hk]
    clear hi h1 HK
    by_cases hx : ¬ 0 ≤ xx
    · have HN' : Hid (hasP P ⟨k, xx⟩ = false) := by unfold Hid; rw [HN.out]; simp; omega
      clear HN
      go_enter Tryz.func113, Tryz.ntmps113
      go_wp2_with fail
      have tx : ¬ 0 ≤ xx := by omega
      go_quiet (fail)
      go_wp2
      go_ret
      exact ⟨ret_bool HN'.out.symm, by first | exact ((Gr.refl _).alloc _).alloc _ | exact (((Gr.refl _).alloc _).alloc _).drewN _⟩
    have HN' : Hid (hasP P ⟨k, xx⟩ = decide (xx < endsK P.es[k].k)) := by unfold Hid; rw [HN.out]; simp; omega
    clear HN
    generalize P.es[k].k = kk at *
    go_enter Tryz.func113, Tryz.ntmps113
    go_wp2_with fail
    go_quiet ((go_at_call 87; exact Calls.quiet_of_same (endsR_any _ _)))
    go_wp2
    go_ret
    exact ⟨ret_bool HN'.out.symm, by first | exact ((Gr.refl _).alloc _).alloc _ | exact (((Gr.refl _).alloc _).alloc _).drewN _⟩
  · have HN : Hid (hasP P ⟨xe, xx⟩ = false) := by unfold Hid hasP; simp; omega
    have hi' : ¬ 0 ≤ xe ∨ (0 ≤ xe ∧ ¬ xe < (P.es.length : Int)) := by omega
    clear hi h1
    rcases hi' with hi | ⟨hi2, hi⟩
    · go_enter Tryz.func113, Tryz.ntmps113
      go_wp2_with fail
      have tx : ¬ 0 ≤ xe := by omega
      go_quiet (fail)
      go_wp2
      go_ret
      exact ⟨ret_bool HN.out.symm, by first | exact ((Gr.refl _).alloc _).alloc _ | exact (((Gr.refl _).alloc _).alloc _).drewN _⟩
    ·
      go_enter Tryz.func113, Tryz.ntmps113
      go_wp2_with fail
      have tx : ¬ xe < (P.es.length : Int) := by omega
      go_quiet (fail)
      go_wp2
      go_ret
      exact ⟨ret_bool HN.out.symm, by first | exact ((Gr.refl _).alloc _).alloc _ | exact (((Gr.refl _).alloc _).alloc _).drewN _⟩
theorem port_any (v : Value) (P : Pln) (x : Prt) (w : World) (hP : IsPln w v P) :
    Calls Tryz.prog 143 #[v, x.v] w fun e w' => e = .returned (.bool (hasP P x)) ∧ Gr w w' := by
  obtain ⟨a1, c1, a2, c2, a3, c3, a4, c4, rfl, h1, -, -, -⟩ := hP
  obtain ⟨xe, xx⟩ := x
  unfold plnV Prt.v
  have hm := IsRow.len h1
  unfold maxLen at hm
  by_cases hi : 0 ≤ xe ∧ xe < P.es.length
  · obtain ⟨k, rfl⟩ := Int.eq_ofNat_of_zero_le hi.1
    have hk : k < P.es.length := by omega
    have HK := kindP_in P k hk
    obtain ⟨b, o, rfl, hb, -, y1, -⟩ := h1.at k hk
    have HN : Hid (hasP P ⟨k, xx⟩ = (decide (0 ≤ xx) && decide (xx < endsK P.es[k].k))) := by
      unfold Hid hasP
      rw [HK]
      simp [hk]
    clear hi h1 HK
    by_cases hx : ¬ 0 ≤ xx
    · have HN' : Hid (hasP P ⟨k, xx⟩ = false) := by unfold Hid; rw [HN.out]; simp; omega
      clear HN
      go_enter Tryz.func143, Tryz.ntmps143
      go_wp2_with fail
      have tx : ¬ 0 ≤ xx := by omega
      go_quiet (fail)
      go_wp2
      go_ret
      exact ⟨ret_bool HN'.out.symm, by first | exact ((Gr.refl _).alloc _).alloc _ | exact (((Gr.refl _).alloc _).alloc _).drewN _⟩
    have HN' : Hid (hasP P ⟨k, xx⟩ = decide (xx < endsK P.es[k].k)) := by unfold Hid; rw [HN.out]; simp; omega
    clear HN
    generalize P.es[k].k = kk at *
    go_enter Tryz.func143, Tryz.ntmps143
    go_wp2_with fail
    go_quiet ((go_at_call 142; exact Calls.quiet_of_same (ends_any _ _)))
    go_wp2
    go_ret
    exact ⟨ret_bool HN'.out.symm, by first | exact ((Gr.refl _).alloc _).alloc _ | exact (((Gr.refl _).alloc _).alloc _).drewN _⟩
  · have HN : Hid (hasP P ⟨xe, xx⟩ = false) := by unfold Hid hasP; simp; omega
    have hi' : ¬ 0 ≤ xe ∨ (0 ≤ xe ∧ ¬ xe < (P.es.length : Int)) := by omega
    clear hi h1
    rcases hi' with hi | ⟨hi2, hi⟩
    · go_enter Tryz.func143, Tryz.ntmps143
      go_wp2_with fail
      have tx : ¬ 0 ≤ xe := by omega
      go_quiet (fail)
      go_wp2
      go_ret
      exact ⟨ret_bool HN.out.symm, by first | exact ((Gr.refl _).alloc _).alloc _ | exact (((Gr.refl _).alloc _).alloc _).drewN _⟩
    ·
      go_enter Tryz.func143, Tryz.ntmps143
      go_wp2_with fail
      have tx : ¬ xe < (P.es.length : Int) := by omega
      go_quiet (fail)
      go_wp2
      go_ret
      exact ⟨ret_bool HN.out.symm, by first | exact ((Gr.refl _).alloc _).alloc _ | exact (((Gr.refl _).alloc _).alloc _).drewN _⟩
end Go.Proofs.YtaanepadgoefhaaGreatDoor
namespace Go.Proofs.YtaanepadgoefhaaGreatDoor
open Go.ChangeShapes Go.WideShapes Go.ChangeAt Go.RowKit
set_option linter.unusedVariables false
set_option linter.unusedSimpArgs false

/-- the port that x is joined to: the first join that has it -/
def nextL : List Jn → Prt → Option Prt
  | [], _ => none
  | j :: t, x => if j.a = x then some j.b else if j.b = x then some j.a else nextL t x
/-- the first signal at x -/
def readsL : List Sg → Prt → Option Nat
  | [], _ => none
  | s :: t, x => if s.at_ = x then some 0 else (readsL t x).map (· + 1)
theorem nextL_drop (l : List Jn) (k : Nat) (hk : k < l.length) (x : Prt) : nextL (l.drop k) x = if l[k].a = x then some l[k].b else if l[k].b = x then some l[k].a else nextL (l.drop (k + 1)) x := by
  rw [List.drop_eq_getElem_cons hk]; rfl
theorem prt_eqg : Tryz.prog.eqGuardType Tryz.prog.depth 68 = false := by kernel_rfl
theorem prt_stood : Tryz.prog.stoodInHeld 68 = false := by kernel_rfl
theorem prt_fields : Tryz.prog.underlying 68 = some (.struct (Tryz.prog.fieldsOf 68)) := by kernel_rfl
set_option maxRecDepth 100000 in
theorem prt_eql (a b c d : Int) (w : World) : (binOp .eql 68 (.agg #[.int .i64 a, .int .i64 b]) (.agg #[.int .i64 c, .int .i64 d])).run Tryz.prog w = .ok (.bool (decide ((⟨a, b⟩ : Prt) = ⟨c, d⟩))) w := by
  have hu := Tryz.underlying68
  have hf := prt_fields
  rw [hu] at hf
  simp only [Option.some.injEq, TypeDesc.struct.injEq] at hf
  rw [run_eql_struct, run_equalIn_agg w 9999 _ _ _ prt_fields prt_stood, ← hf]
  have hd : decide ((⟨a, b⟩ : Prt) = ⟨c, d⟩) = ((a == c) && (b == d)) := by
    rw [Bool.eq_iff_iff]; simp
  rw [hd]
  simp [Op.eqFields, go_sem, Tryz.underlying3]
  by_cases h1 : a = c <;> by_cases h2 : b = d <;> simp [h1, h2]
theorem prt_guard (op : BinOp) (x y : Operand) (xs ys : Array Value) (w : World) : (eqGuard op 68 x y (.agg xs) (.agg ys)).run Tryz.prog w = .ok () w := run_eqGuard_agg w op _ x y xs ys prt_eqg
def prtR (o : Option Prt) : Value := .tuple #[(o.getD default).v, .bool o.isSome]
set_option maxRecDepth 100000 in
theorem refNextP_any (v : Value) (P : Pln) (x : Prt) (w : World) (hP : IsPln w v P) :
    Calls Tryz.prog 44 #[v, x.v] w fun e w' => e = .returned (prtR (nextL P.js x)) ∧ Gr w w' := by
  obtain ⟨a1, c1, a2, c2, a3, c3, a4, c4, rfl, -, h2, -, -⟩ := hP
  obtain ⟨xe, xx⟩ := x
  unfold plnV Prt.v
  have hm := IsRow.len h2
  unfold maxLen at hm
  have HV := Lib.hid h2
  clear h2
  go_enter Tryz.func44, Tryz.ntmps44
  go_wp2_with fail
  go_loopw [6] (fun i wr => ∃ k : Nat, i = .int .i64 k ∧ k ≤ P.js.length ∧ Hid (nextL (P.js.drop k) ⟨xe, xx⟩ = nextL P.js ⟨xe, xx⟩) ∧ Gr w wr ∧ wr.cell? ⟨w.heap.size, 1, none⟩ = some (.slice a2 P.js.length c2) ∧
      wr.cell? ⟨w.heap.size + 1, 0, none⟩ = some (.int .i64 xe) ∧ wr.cell? ⟨w.heap.size + 1, 1, none⟩ = some (.int .i64 xx) ∧ wr.cell? ⟨w.heap.size + 1 + 1, 0, none⟩ = some (.int .i64 0) ∧ wr.cell? ⟨w.heap.size + 1 + 1, 1, none⟩ = some (.int .i64 0) ∧
      wr.frozen? ⟨w.heap.size + 1 + 1, 0, none⟩ = false ∧ wr.frozen? ⟨w.heap.size + 1 + 1, 1, none⟩ = false ∧ w.heap.size + 1 + 1 < wr.heap.size) (fun i _ => P.js.length - (intOf i).toNat)
  case atStart => refine ⟨0, rfl, Nat.zero_le _, rfl, (((Gr.refl _).alloc _).alloc _).alloc _, ?_, ?_, ?_, ?_, ?_, ?_, ?_, ?_⟩ <;> go_simp
  case round =>
    obtain ⟨k, rfl, hk, HN, g, p1, x0, x1, r0, r1, f0, f1, hsz⟩ := hrel
    have LX : (Instr.loadAt 68 (.pointer (some ⟨w.heap.size + 1, 0, none⟩))).run Tryz.prog wr = .ok (.agg #[.int .i64 xe, .int .i64 xx]) wr :=
      run_loadAt_mid wr (w.heap.size + 1) 0 68 [.int .i64 xe, .int .i64 xx] _ (fun j v h => by
        match j, h with
        | 0, h => cases h; exact x0
        | 1, h => cases h; exact x1) Tryz.underlying68 rfl (by kernel_rfl)
    by_cases hlt : k < P.js.length
    · obtain ⟨b, o, rfl, zb, y0, y1, y2, y3⟩ := (HV.out.gr g).at k hlt
      have HD := nextL_drop P.js k hlt ⟨xe, xx⟩
      rw [HN.out] at HD
      generalize P.js[k] = q at *
      obtain ⟨⟨ae, ax⟩, ⟨be, bx⟩⟩ := q
      have HD' := Lib.hid HD
      clear HD HN
      have LA : (Instr.loadAt 68 (.pointer (some ⟨b, o + k * 4, none⟩))).run Tryz.prog wr = .ok (.agg #[.int .i64 ae, .int .i64 ax]) wr :=
        run_loadAt_mid wr b (o + k * 4) 68 [.int .i64 ae, .int .i64 ax] _ (fun j v h => by
          match j, h with
          | 0, h => cases h; exact y0
          | 1, h => cases h; exact y1) Tryz.underlying68 rfl (by kernel_rfl)
      have LB : (Instr.loadAt 68 (.pointer (some ⟨b, o + k * 4 + 2, none⟩))).run Tryz.prog wr = .ok (.agg #[.int .i64 be, .int .i64 bx]) wr :=
        run_loadAt_mid wr b (o + k * 4 + 2) 68 [.int .i64 be, .int .i64 bx] _ (fun j v h => by
          match j, h with
          | 0, h => cases h; exact y2
          | 1, h => cases h; exact y3) Tryz.underlying68 rfl (by kernel_rfl)
      have G1 := prt_guard .eql
      have k1 : (k : Int) < (P.js.length : Int) := by omega
      by_cases hA : (⟨ae, ax⟩ : Prt) = ⟨xe, xx⟩
      · have E1 : ∀ w, (binOp .eql 68 (.agg #[.int .i64 ae, .int .i64 ax]) (.agg #[.int .i64 xe, .int .i64 xx])).run Tryz.prog w = .ok (.bool true) w := fun w => by rw [prt_eql, decide_eq_true hA]
        have HR : Hid (nextL P.js ⟨xe, xx⟩ = some ⟨be, bx⟩) := by unfold Hid; rw [HD'.out, if_pos hA]
        clear hA HD'
        go_wp2_with fail
        go_quiet (fail)
        go_wp2
        refine bodyPost_ret (v := .tuple #[.agg #[.int .i64 be, .int .i64 bx], .bool true]) (by simp [results, Tryz.results44, go_sem, r0, r1, hsz, f0, f1]) rfl ⟨by rw [HR.out]; rfl, by
          have hb : w.heap.size ≤ w.heap.size + 1 + 1 := by omega
          first
            | exact (g.setCell hb _).setCell hb _
            | exact ((g.drewN _).setCell hb _).setCell hb _
            | exact (((g.drewN _).drewN _).setCell hb _).setCell hb _⟩
      · have E1 : ∀ w, (binOp .eql 68 (.agg #[.int .i64 ae, .int .i64 ax]) (.agg #[.int .i64 xe, .int .i64 xx])).run Tryz.prog w = .ok (.bool false) w := fun w => by rw [prt_eql, decide_eq_false hA]
        have HD2 := Lib.hid (HD'.out.trans (if_neg hA))
        clear hA HD'
        by_cases hB : (⟨be, bx⟩ : Prt) = ⟨xe, xx⟩
        · have E2 : ∀ w, (binOp .eql 68 (.agg #[.int .i64 be, .int .i64 bx]) (.agg #[.int .i64 xe, .int .i64 xx])).run Tryz.prog w = .ok (.bool true) w := fun w => by rw [prt_eql, decide_eq_true hB]
          have HR : Hid (nextL P.js ⟨xe, xx⟩ = some ⟨ae, ax⟩) := by unfold Hid; rw [HD2.out, if_pos hB]
          clear hB HD2
          go_wp2_with fail
          go_quiet (fail)
          go_wp2_with fail
          go_quiet (fail)
          go_wp2
          refine bodyPost_ret (v := .tuple #[.agg #[.int .i64 ae, .int .i64 ax], .bool true]) (by simp [results, Tryz.results44, go_sem, r0, r1, hsz, f0, f1]) rfl ⟨by rw [HR.out]; rfl, by
            have hb : w.heap.size ≤ w.heap.size + 1 + 1 := by omega
            first
              | exact (g.setCell hb _).setCell hb _
              | exact ((g.drewN _).setCell hb _).setCell hb _
              | exact (((g.drewN _).drewN _).setCell hb _).setCell hb _⟩
        · have E2 : ∀ w, (binOp .eql 68 (.agg #[.int .i64 be, .int .i64 bx]) (.agg #[.int .i64 xe, .int .i64 xx])).run Tryz.prog w = .ok (.bool false) w := fun w => by rw [prt_eql, decide_eq_false hB]
          have HR := Lib.hid (HD2.out.trans (if_neg hB)).symm
          clear hB HD2
          go_wp2_with fail
          go_quiet (fail)
          go_wp2_with fail
          go_quiet (fail)
          go_wp2
          go_roundw
          case rel => exact ⟨k + 1, by go_num, by omega, HR.out, by first | exact (g.drewN _).drewN _ | exact g.drewN _, by simpa using p1, by simpa using x0, by simpa using x1, by simpa using r0, by simpa using r1, by simpa using f0, by simpa using f1, by simpa using hsz⟩
          case measure => simp [intOf]; omega
    · have HR : Hid (nextL P.js ⟨xe, xx⟩ = none) := by
        have := HN.out
        rw [List.drop_of_length_le (by omega)] at this
        exact this.symm
      clear HN
      go_wp2
      refine bodyPost_ret (v := .tuple #[.agg #[.int .i64 0, .int .i64 0], .bool false]) (by simp [results, Tryz.results44, go_sem, r0, r1, hsz, f0, f1]) rfl ⟨by rw [HR.out]; rfl, by
        have hb : w.heap.size ≤ w.heap.size + 1 + 1 := by omega
        first
          | exact (g.setCell hb _).setCell hb _
          | exact ((g.drewN _).setCell hb _).setCell hb _
          | exact (((g.drewN _).drewN _).setCell hb _).setCell hb _⟩
end Go.Proofs.YtaanepadgoefhaaGreatDoor
namespace Go.Proofs.YtaanepadgoefhaaGreatDoor
open Go.ChangeShapes Go.WideShapes Go.ChangeAt Go.RowKit
set_option linter.unusedVariables false
set_option linter.unusedSimpArgs false

theorem readsL_go (l : List Sg) (x : Prt) (k : Nat) (hk : k < l.length) (h : l[k].at_ = x) (hn : ∀ i (hi : i < l.length), i < k → l[i].at_ ≠ x) : readsL l x = some k := by
  induction l generalizing k with
  | nil => simp at hk
  | cons s t ih =>
    unfold readsL
    cases k with
    | zero => rw [if_pos (by simpa using h)]
    | succ k =>
      have h0 : s.at_ ≠ x := hn 0 (by simp) (by omega)
      rw [if_neg h0, ih k (by simpa using hk) (by simpa using h) fun i hi hik => hn (i + 1) (by simpa using hi) (by omega)]
      rfl
theorem readsL_no (l : List Sg) (x : Prt) (hn : ∀ i (hi : i < l.length), l[i].at_ ≠ x) : readsL l x = none := by
  induction l with
  | nil => rfl
  | cons s t ih =>
    have h0 : s.at_ ≠ x := hn 0 (by simp)
    unfold readsL
    rw [if_neg h0, ih fun i hi => hn (i + 1) (by simpa using hi)]
    rfl
/-- as the program says it: -1 if there is none -/
def readsN (l : List Sg) (x : Prt) : Int := match readsL l x with | some k => k | none => -1

set_option maxRecDepth 100000 in
theorem refReads_any (v : Value) (P : Pln) (x : Prt) (w : World) (hP : IsPln w v P) :
    Calls Tryz.prog 51 #[v, x.v] w fun e w' => e = .returned (.int .i64 (readsN P.ss x)) ∧ Gr w w' := by
  obtain ⟨a1, c1, a2, c2, a3, c3, a4, c4, rfl, -, -, h3, -⟩ := hP
  obtain ⟨xe, xx⟩ := x
  unfold plnV Prt.v
  have hm := IsRow.len h3
  unfold maxLen at hm
  have HV := Lib.hid h3
  clear h3
  go_enter Tryz.func51, Tryz.ntmps51
  go_wp2_with fail
  go_loopw [5] (fun i wr => ∃ k : Nat, i = .int .i64 k ∧ k ≤ P.ss.length ∧ Hid (∀ i (hi : i < P.ss.length), i < k → P.ss[i].at_ ≠ ⟨xe, xx⟩) ∧ Gr w wr ∧ wr.cell? ⟨w.heap.size, 2, none⟩ = some (.slice a3 P.ss.length c3) ∧
      wr.cell? ⟨w.heap.size + 1, 0, none⟩ = some (.int .i64 xe) ∧ wr.cell? ⟨w.heap.size + 1, 1, none⟩ = some (.int .i64 xx)) (fun i _ => P.ss.length - (intOf i).toNat)
  case atStart => refine ⟨0, rfl, Nat.zero_le _, fun _ _ h => by omega, ((Gr.refl _).alloc _).alloc _, ?_, ?_, ?_⟩ <;> go_simp
  case round =>
    obtain ⟨k, rfl, hk, HN, g, p1, x0, x1⟩ := hrel
    have LX : (Instr.loadAt 68 (.pointer (some ⟨w.heap.size + 1, 0, none⟩))).run Tryz.prog wr = .ok (.agg #[.int .i64 xe, .int .i64 xx]) wr :=
      run_loadAt_mid wr (w.heap.size + 1) 0 68 [.int .i64 xe, .int .i64 xx] _ (fun j v h => by
        match j, h with
        | 0, h => cases h; exact x0
        | 1, h => cases h; exact x1) Tryz.underlying68 rfl (by kernel_rfl)
    by_cases hlt : k < P.ss.length
    · obtain ⟨b, o, rfl, zb, -, y1, y2, -⟩ := (HV.out.gr g).at k hlt
      have HN2 : Hid (P.ss[k].at_ ≠ ⟨xe, xx⟩ → ∀ i (hi : i < P.ss.length), i < k + 1 → P.ss[i].at_ ≠ ⟨xe, xx⟩) := by
        intro h i hi hik
        by_cases e : i = k
        · subst e; exact h
        · exact HN.out i hi (by omega)
      have HN3 : Hid (P.ss[k].at_ = ⟨xe, xx⟩ → readsN P.ss ⟨xe, xx⟩ = k) := fun h => by unfold readsN; rw [readsL_go P.ss _ k hlt h HN.out]
      generalize P.ss[k].at_ = q at *
      obtain ⟨ae, ax⟩ := q
      clear HN
      have LA : (Instr.loadAt 68 (.pointer (some ⟨b, o + k * 4 + 1, none⟩))).run Tryz.prog wr = .ok (.agg #[.int .i64 ae, .int .i64 ax]) wr :=
        run_loadAt_mid wr b (o + k * 4 + 1) 68 [.int .i64 ae, .int .i64 ax] _ (fun j v h => by
          match j, h with
          | 0, h => cases h; exact y1
          | 1, h => cases h; exact y2) Tryz.underlying68 rfl (by kernel_rfl)
      have G1 := prt_guard .eql
      have k1 : (k : Int) < (P.ss.length : Int) := by omega
      by_cases hA : (⟨ae, ax⟩ : Prt) = ⟨xe, xx⟩
      · have E1 : ∀ w, (binOp .eql 68 (.agg #[.int .i64 ae, .int .i64 ax]) (.agg #[.int .i64 xe, .int .i64 xx])).run Tryz.prog w = .ok (.bool true) w := fun w => by rw [prt_eql, decide_eq_true hA]
        have HR := Lib.hid (HN3.out hA)
        clear hA HN2 HN3
        go_wp2_with fail
        go_quiet (fail)
        go_wp2
        go_ret
        exact ⟨ret_int HR.out.symm, by first | exact g.drewN _ | exact g⟩
      · have E1 : ∀ w, (binOp .eql 68 (.agg #[.int .i64 ae, .int .i64 ax]) (.agg #[.int .i64 xe, .int .i64 xx])).run Tryz.prog w = .ok (.bool false) w := fun w => by rw [prt_eql, decide_eq_false hA]
        have HR := Lib.hid (HN2.out hA)
        clear hA HN2 HN3
        go_wp2_with fail
        go_quiet (fail)
        go_wp2
        go_roundw
        case rel => exact ⟨k + 1, by go_num, by omega, HR.out, by first | exact g.drewN _ | exact g, by simpa using p1, by simpa using x0, by simpa using x1⟩
        case measure => simp [intOf]; omega
    · have HR : Hid (readsN P.ss ⟨xe, xx⟩ = -1) := by
        unfold Hid readsN
        rw [readsL_no P.ss _ fun i hi => HN.out i hi (by omega)]
      clear HN
      go_wp2
      go_ret
      exact ⟨ret_int HR.out.symm, g⟩
end Go.Proofs.YtaanepadgoefhaaGreatDoor
