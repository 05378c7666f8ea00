/- MapN: The map that a port is joined by: look-ups.
Chk1: The document's answer: twice.
Chk2: The document's answer: within, In.
Chk3: A plan in its box.
NewP: net.New: what its walk carries; what a net is.
Nam1: The reference's Name.
Chk5: The document's answer: names, args. Printed by wip/gen_chk5.py.
Chk6: The document's answer: args.
Chk7: The document's answer: joined.
Chk8: The document's answer: signals. -/
import Derived.Test.YtjblplflgiibdaaDoorRows
import Derived.Test.YtjblplflgiibdaaDoorB2
import Derived.Test.YtjblplflgiibdaaDoorB1
import Derived.Maps.OwnOps
import Derived.Deep.LoopGhost
import Derived.Deep.MidRow
import Derived.Deep.RegionHeld3
import Derived.Deep.AppendLies
namespace Go.Proofs.YtjblplflgiibdaaDoor
open Go.ChangeShapes Go.WideShapes Go.ChangeAt Go.RowKit Go.Maps
set_option linter.unusedVariables false
set_option linter.unusedSimpArgs false

theorem prt_zero (w : World) : (zeroValue 29).run Tryd.prog w = .ok (.agg #[.int .i64 0, .int .i64 0]) w := by kernel_rfl
def PrtOk (x : Prt) : Prop := I64 x.e ∧ I64 x.x
theorem next_look_some {w : World} {b n : Nat} {f : Value → Option Value} {l : List Jn} {x y : Prt} (h : MapIs Tryd.prog 29 w b n f) (hf : FnL l f) (hx : PrtOk x) (hn : nextL l x = some y) :
    (Instr.lookup 74 (.map (some b)) (.agg #[.int .i64 x.e, .int .i64 x.x]) true).run Tryd.prog w = .ok (.tuple #[.agg #[.int .i64 y.e, .int .i64 y.x], .bool true]) w := by
  obtain ⟨kl, hk⟩ := prt_key x hx.1 hx.2
  have := h.lookup_ok prt_keyed Tryd.underlying74 (prt_zero w) hk
  rw [hf x, hn] at this
  exact this
theorem next_look_none {w : World} {b n : Nat} {f : Value → Option Value} {l : List Jn} {x : Prt} (h : MapIs Tryd.prog 29 w b n f) (hf : FnL l f) (hx : PrtOk x) (hn : nextL l x = none) :
    (Instr.lookup 74 (.map (some b)) (.agg #[.int .i64 x.e, .int .i64 x.x]) true).run Tryd.prog w = .ok (.tuple #[.agg #[.int .i64 0, .int .i64 0], .bool false]) w := by
  obtain ⟨kl, hk⟩ := prt_key x hx.1 hx.2
  have := h.lookup_ok prt_keyed Tryd.underlying74 (prt_zero w) hk
  rw [hf x, hn] at this
  exact this
theorem put_self (f : Value → Option Value) (k v : Value) : put f k v k = some v := by unfold put; rw [if_pos rfl]
theorem put_else (f : Value → Option Value) {k v x : Value} (h : x ≠ k) : put f k v x = f x := by unfold put; rw [if_neg h]
theorem FnL.two {l : List Jn} {f : Value → Option Value} (h : FnL l f) (j : Jn) (ha : j.a ∉ portsL l) (hb : j.b ∉ portsL l) (hab : j.a ≠ j.b) : FnL (l ++ [j]) (put (put f j.a.v j.b.v) j.b.v j.a.v) := by
  intro x
  rw [nextL_snoc]
  by_cases e2 : x = j.b
  · subst e2
    rw [put_self, nextL_none l _ hb, if_neg hab]; simp
  · rw [put_else _ (fun e => e2 (prtv_inj e))]
    by_cases e1 : x = j.a
    · subst e1
      rw [put_self, nextL_none l _ ha]; simp
    · rw [put_else _ (fun e => e1 (prtv_inj e)), h x, if_neg (fun e => e1 e.symm), if_neg (fun e => e2 e.symm)]
      cases nextL l x <;> rfl
end Go.Proofs.YtjblplflgiibdaaDoor
namespace Go.Proofs.YtjblplflgiibdaaDoor
open Go.ChangeShapes Go.WideShapes Go.ChangeAt Go.RowKit
set_option linter.unusedVariables false
set_option linter.unusedSimpArgs false
theorem twice_yes {l : List ByteArray} {i k : Nat} (hi : i < l.length) (hk : k < i) (h : l[i] = l[k]'(by omega)) : twiceB l = true := by
  unfold twiceB
  simp only [Bool.not_eq_true', decide_eq_false_iff_not]
  intro hn
  have := List.pairwise_iff_getElem.1 hn k i (by omega) hi hk
  exact this h.symm
theorem twice_no {l : List ByteArray} (h : ∀ i k (hi : i < l.length) (hk : k < i), l[i] ≠ l[k]'(by omega)) : twiceB l = false := by
  unfold twiceB
  simp only [Bool.not_eq_false', decide_eq_true_eq]
  exact List.pairwise_iff_getElem.2 fun i j hi hj hij e => h j i hj hij e.symm
end Go.Proofs.YtjblplflgiibdaaDoor
namespace Go.Proofs.YtjblplflgiibdaaDoor
open Go.ChangeShapes Go.WideShapes Go.ChangeAt Go.RowKit
set_option linter.unusedVariables false
set_option linter.unusedSimpArgs false
theorem ints_at {w : World} {A : List Int} {a : Option Addr} {c : Nat} (h : IsVals w (.slice a A.length c) (A.map (Value.int .i64))) (k : Nat) (hk : k < A.length) :
    ∃ b o, a = some ⟨b, o, none⟩ ∧ b < w.heap.size ∧ w.cell? ⟨b, o + k, none⟩ = some (.int .i64 A[k]) := by
  obtain ⟨a', c', e, _, hx⟩ := h
  simp only [Value.slice.injEq] at e
  obtain ⟨rfl, -, rfl⟩ := e
  rcases hx with hx | ⟨b, o, rfl, hb, hc⟩
  · exfalso
    have := congrArg List.length hx
    simp at this
    rw [this] at hk
    simp at hk
  · exact ⟨b, o, rfl, hb, hc k _ (by rw [List.getElem?_map, List.getElem?_eq_getElem hk]; rfl)⟩
end Go.Proofs.YtjblplflgiibdaaDoor
namespace Go.Proofs.YtjblplflgiibdaaDoor
open Go.ChangeShapes Go.WideShapes Go.ChangeAt Go.RowKit
set_option linter.unusedVariables false
set_option linter.unusedSimpArgs false
def PBox (w : World) (b : Nat) (P : Pln) (e j s l : Value) : Prop :=
  b < w.heap.size ∧ w.cell? ⟨b, 0, none⟩ = some e ∧ w.cell? ⟨b, 1, none⟩ = some j ∧ w.cell? ⟨b, 2, none⟩ = some s ∧ w.cell? ⟨b, 3, none⟩ = some l ∧ w.cell? ⟨b, 4, none⟩ = some (.int .i64 P.top) ∧
    w.cell? ⟨b, 5, none⟩ = some (.int .i64 P.brake) ∧ w.cell? ⟨b, 6, none⟩ = some (.int .i64 P.margin) ∧ w.cell? ⟨b, 7, none⟩ = some (.int .i64 P.throw) ∧ w.cell? ⟨b, 8, none⟩ = some (.bool P.hard)
theorem PBox.gr {w w' : World} {b : Nat} {P : Pln} {e j s l : Value} (h : PBox w b P e j s l) (g : Gr w w') : PBox w' b P e j s l := by
  obtain ⟨hb, c0, c1, c2, c3, c4, c5, c6, c7, c8⟩ := h
  refine ⟨Nat.lt_of_lt_of_le hb g.size, ?_, ?_, ?_, ?_, ?_, ?_, ?_, ?_, ?_⟩ <;> (rw [g.cell _ _ hb]; assumption)
theorem PBox.drewN {w : World} {b : Nat} {P : Pln} {e j s l : Value} (h : PBox w b P e j s l) (n : Nat) : PBox (w.drewN n) b P e j s l := h.gr ((Gr.refl w).drewN n)
theorem PBox.drew {w : World} {b : Nat} {P : Pln} {e j s l : Value} (h : PBox w b P e j s l) : PBox w.drew b P e j s l := h.gr ((Gr.refl w).drew)
theorem PBox.load {w : World} {b : Nat} {P : Pln} {e j s l : Value} (h : PBox w b P e j s l) : (Instr.loadAt 27 (.pointer (some ⟨b, 0, none⟩))).run Tryd.prog w = .ok (plnV P e j s l) w := by
  obtain ⟨hb, c0, c1, c2, c3, c4, c5, c6, c7, c8⟩ := h
  exact run_loadAt_mid w b 0 27 [e, j, s, l, .int .i64 P.top, .int .i64 P.brake, .int .i64 P.margin, .int .i64 P.throw, .bool P.hard] _ (fun i v h => by
    match i, h with
    | 0, h => cases h; exact c0
    | 1, h => cases h; exact c1
    | 2, h => cases h; exact c2
    | 3, h => cases h; exact c3
    | 4, h => cases h; exact c4
    | 5, h => cases h; exact c5
    | 6, h => cases h; exact c6
    | 7, h => cases h; exact c7
    | 8, h => cases h; exact c8) Tryd.underlying27 rfl (by kernel_rfl)
theorem PBox.new (w : World) (P : Pln) (e j s l : Value) : PBox (w.alloc (.cells #[e, j, s, l, .int .i64 P.top, .int .i64 P.brake, .int .i64 P.margin, .int .i64 P.throw, .bool P.hard] 27)) w.heap.size P e j s l := by
  refine ⟨by simp, ?_, ?_, ?_, ?_, ?_, ?_, ?_, ?_, ?_⟩ <;> (rw [World.cell?_alloc_mark]; rfl)
def PS (w : World) (b : Nat) (P : Pln) (e j s l : Value) (w' : World) : Prop :=
  Gr w w' ∧ PBox w' b P e j s l ∧ (Instr.loadAt 27 (.pointer (some ⟨b, 0, none⟩))).run Tryd.prog w' = .ok (plnV P e j s l) w'
theorem PS.of {w w' : World} {b : Nat} {P : Pln} {e j s l : Value} (g : Gr w w') (h : PBox w' b P e j s l) : PS w b P e j s l w' := ⟨g, h, h.load⟩
theorem PS.gr {w w1 w2 : World} {b : Nat} {P : Pln} {e j s l : Value} (h : PS w b P e j s l w1) (g : Gr w1 w2) : PS w b P e j s l w2 := PS.of (h.1.trans g) (h.2.1.gr g)
theorem PS.drew {w w1 : World} {b : Nat} {P : Pln} {e j s l : Value} (h : PS w b P e j s l w1) : PS w b P e j s l w1.drew := h.gr ((Gr.refl _).drew)
theorem PBox.ps {w w' : World} {b : Nat} {P : Pln} {e j s l : Value} (h : PBox w' b P e j s l) (g : Gr w w') : PS w b P e j s l w' := PS.of g h
theorem IsPln.mk {w w' : World} {P : Pln} {a1 a2 a3 a4 : Option Addr} {c1 c2 c3 c4 : Nat} (h1 : IsEles w (.slice a1 P.es.length c1) P.es) (h2 : IsJns w (.slice a2 P.js.length c2) P.js) (h3 : IsSgs w (.slice a3 P.ss.length c3) P.ss) (h4 : IsLns w (.slice a4 P.ls.length c4) P.ls) (g : Gr w w') :
    IsPln w' (.agg #[.slice a1 P.es.length c1, .slice a2 P.js.length c2, .slice a3 P.ss.length c3, .slice a4 P.ls.length c4, .int .i64 P.top, .int .i64 P.brake, .int .i64 P.margin, .int .i64 P.throw, .bool P.hard]) P :=
  ⟨a1, c1, a2, c2, a3, c3, a4, c4, rfl, h1.gr g, h2.gr g, h3.gr g, h4.gr g⟩
end Go.Proofs.YtjblplflgiibdaaDoor
namespace Go.Proofs.YtjblplflgiibdaaDoor
open Go.ChangeShapes Go.WideShapes Go.ChangeAt Go.RowKit Go.Maps
set_option linter.unusedVariables false
set_option linter.unusedSimpArgs false
structure NetW (w2 : World) (P : Pln) (v1 v2 v3 v4 : Value) (n1 : Nat) (f1 : Value → Option Value) (n2 : Nat) (f2 : Value → Option Value) (n3 : Nat) (f3 : Value → Option Value) (n4 : Nat) (f4 : Value → Option Value) (wr : World) : Prop where
  gr : Gr w2 wr
  net : PBox wr (w2.heap.size + 4) P v1 v2 v3 v4
  c9 : wr.cell? ⟨w2.heap.size + 4, 9, none⟩ = some (.map (some w2.heap.size))
  c10 : wr.cell? ⟨w2.heap.size + 4, 10, none⟩ = some (.map (some (w2.heap.size + 1)))
  c11 : wr.cell? ⟨w2.heap.size + 4, 11, none⟩ = some (.map (some (w2.heap.size + 2)))
  c12 : wr.cell? ⟨w2.heap.size + 4, 12, none⟩ = some (.map (some (w2.heap.size + 3)))
  nx : MapIs Tryd.prog 29 wr w2.heap.size n1 f1
  rd : MapIs Tryd.prog 29 wr (w2.heap.size + 1) n2 f2
  ln : MapIs Tryd.prog 3 wr (w2.heap.size + 2) n3 f3
  ld : MapIs Tryd.prog 3 wr (w2.heap.size + 3) n4 f4
variable {w2 : World} {P : Pln} {v1 v2 v3 v4 : Value} {n1 n2 n3 n4 : Nat} {f1 f2 f3 f4 : Value → Option Value} {wr w' : World}
theorem NetW.grow (h : NetW w2 P v1 v2 v3 v4 n1 f1 n2 f2 n3 f3 n4 f4 wr) (g : Gr wr w') : NetW w2 P v1 v2 v3 v4 n1 f1 n2 f2 n3 f3 n4 f4 w' :=
  have z := h.net.1
  ⟨h.gr.trans g, h.net.gr g, (g.cell _ _ z).trans h.c9, (g.cell _ _ z).trans h.c10, (g.cell _ _ z).trans h.c11, (g.cell _ _ z).trans h.c12, h.nx.gr g, h.rd.gr g, h.ln.gr g, h.ld.gr g⟩
def FnR (l : List Sg) (f : Value → Option Value) : Prop := ∀ x : Prt, f x.v = (readsL l x).map fun i => .int .i64 (i : Int)
def NetIs (w : World) (b : Nat) (P : Pln) : Prop :=
  ∃ v1 v2 v3 v4 bn n1 f1 br n2 f2 bl n3 f3 bd n4 f4, PBox w b P v1 v2 v3 v4 ∧ IsPln w (plnV P v1 v2 v3 v4) P ∧ w.cell? ⟨b, 9, none⟩ = some (.map (some bn)) ∧ w.cell? ⟨b, 10, none⟩ = some (.map (some br)) ∧ w.cell? ⟨b, 11, none⟩ = some (.map (some bl)) ∧ w.cell? ⟨b, 12, none⟩ = some (.map (some bd)) ∧
    MapIs Tryd.prog 29 w bn n1 f1 ∧ FnL P.js f1 ∧ MapIs Tryd.prog 29 w br n2 f2 ∧ FnR P.ss f2 ∧ MapIs Tryd.prog 3 w bl n3 f3 ∧ MapIs Tryd.prog 3 w bd n4 f4
theorem NetIs.gr {w w' : World} {b : Nat} {P : Pln} (h : NetIs w b P) (g : Gr w w') : NetIs w' b P := by
  obtain ⟨v1, v2, v3, v4, bn, n1, f1, br, n2, f2, bl, n3, f3, bd, n4, f4, a, b', c, d, e, f, i, j, k, l, m, n⟩ := h
  have z := a.1
  exact ⟨v1, v2, v3, v4, bn, n1, f1, br, n2, f2, bl, n3, f3, bd, n4, f4, a.gr g, b'.gr g, (g.cell _ _ z).trans c, (g.cell _ _ z).trans d, (g.cell _ _ z).trans e, (g.cell _ _ z).trans f, i.gr g, j, k.gr g, l, m.gr g, n.gr g⟩
theorem FnR.nil : FnR [] (fun _ => none) := fun _ => rfl
theorem readsL_snoc (l : List Sg) (s : Sg) (x : Prt) : readsL (l ++ [s]) x = match readsL l x with | some i => some i | none => if s.at_ = x then some l.length else none := by
  induction l with
  | nil => simp [readsL]
  | cons a t ih =>
    simp only [List.cons_append, readsL]
    split
    · rfl
    · rw [ih]
      cases readsL t x with
      | some i => rfl
      | none =>
        by_cases h : s.at_ = x
        · simp [h]
        · simp [h]
theorem FnR.one {l : List Sg} {f : Value → Option Value} (h : FnR l f) (s : Sg) (hn : readsL l s.at_ = none) : FnR (l ++ [s]) (put f s.at_.v (.int .i64 (l.length : Int))) := by
  intro x
  rw [readsL_snoc]
  by_cases e : x = s.at_
  · subst e
    rw [put_self, hn, if_pos rfl]; rfl
  · rw [put_else _ (fun e' => e (prtv_inj e')), h x, if_neg (fun e' => e e'.symm)]
    cases readsL l x <;> rfl
end Go.Proofs.YtjblplflgiibdaaDoor
namespace Go.Proofs.YtjblplflgiibdaaDoor
open Go.ChangeShapes Go.WideShapes Go.ChangeAt Go.RowKit
set_option linter.unusedVariables false
set_option linter.unusedSimpArgs false

set_option maxHeartbeats 400000 in
theorem refName_any (s : ByteArray) (hs : s.size ≤ maxLen) (w : World) :
    Calls Tryd.prog 32 #[.string s] w fun e w' => e = .returned (.bool (nmB s)) ∧ w' = w := by
  unfold maxLen at hs
  go_enter Tryd.func32, Tryd.ntmps32
  go_wp2
  go_loop [3, 4, 5] (fun i _ _ => ∃ k : Nat, i = .int .i64 k ∧ k ≤ s.size ∧ Hid (∀ j, j < k → okc j (bt s j) = true)) (fun i _ _ => s.size - (intOf i).toNat)
  case atStart => exact ⟨0, rfl, Nat.zero_le _, fun j hj => by omega⟩
  case round =>
    obtain ⟨k, rfl, hk, HA⟩ := hrel
    by_cases hlt : k < s.size
    · have HG := Lib.hid (bt_get s k hlt)
      have hk0 : ((k : Int) == 0) = true ∨ ((k : Int) == 0) = false := by cases h : ((k : Int) == 0) <;> simp
      by_cases hok : okc k (bt s k) = true
      · have HN : Hid (∀ j, j < k + 1 → okc j (bt s j) = true) := by
          intro j hj
          by_cases e : j = k
          · rw [e]; exact hok
          · exact HA.out j (by omega)
        have ho := (okc_iff k (bt s k)).1 hok
        rw [HG.out] at ho
        rw [show (k ≠ 0) = ¬ ((k : Int) == 0) = true from by simp] at ho
        clear hok HA HG
        rcases hk0 with hk0 | hk0
        all_goals go_wp2
        all_goals (first | (exfalso; simp_all; done) | (exfalso; simp_all; omega) | skip)
        all_goals go_round
        all_goals try (case rel => exact ⟨k + 1, by go_num, by omega, HN⟩)
        all_goals try (case measure => simp [intOf]; omega)
      · have HB := Lib.hid (nmB_bad s k hlt (by simpa using hok))
        have ho : ¬ ((97 ≤ bt s k ∧ bt s k ≤ 122) ∨ (65 ≤ bt s k ∧ bt s k ≤ 90) ∨ (k ≠ 0 ∧ 48 ≤ bt s k ∧ bt s k ≤ 57)) := fun h => hok ((okc_iff k (bt s k)).2 h)
        rw [HG.out] at ho
        rw [show (k ≠ 0) = ¬ ((k : Int) == 0) = true from by simp] at ho
        clear hok HA HG
        rcases hk0 with hk0 | hk0
        all_goals go_wp2
        all_goals (first | (exfalso; simp_all; done) | (exfalso; simp_all; omega) | skip)
        all_goals go_ret
        all_goals exact ⟨ret_bool HB.out.symm, rfl⟩
    · have HB := Lib.hid (nmB_good s fun i hi => HA.out i (by omega))
      clear HA
      go_wp2
      all_goals go_ret
      all_goals (refine ⟨ret_bool ?_, rfl⟩; rw [HB.out]; by_cases a1 : 1 ≤ s.size <;> by_cases a2 : s.size ≤ 8 <;> simp [a1, a2] <;> omega)
end Go.Proofs.YtjblplflgiibdaaDoor
namespace Go.Proofs.YtjblplflgiibdaaDoor
open Go.ChangeShapes Go.WideShapes Go.ChangeAt Go.RowKit
set_option linter.unusedVariables false
set_option linter.unusedSimpArgs false

def bxW (w : World) (P : Pln) (e j s l : Value) : World := w.alloc (.cells #[e, j, s, l, .int .i64 P.top, .int .i64 P.brake, .int .i64 P.margin, .int .i64 P.throw, .bool P.hard] 27)
theorem bxW_gr (w : World) (P : Pln) (e j s l : Value) : Gr w (bxW w P e j s l) := (Gr.refl _).alloc _
theorem bxW_box (w : World) (P : Pln) (e j s l : Value) : PBox (bxW w P e j s l) w.heap.size P e j s l := PBox.new w P e j s l
theorem map_take_snoc {α β : Type} (l : List α) (f : α → β) (k : Nat) (h : k < l.length) : (l.take k).map f ++ [f l[k]] = (l.take (k + 1)).map f := by
  rw [List.take_succ_eq_append_getElem h, List.map_append]; rfl
end Go.Proofs.YtjblplflgiibdaaDoor
namespace Go.Proofs.YtjblplflgiibdaaDoor
open Go.ChangeShapes Go.WideShapes Go.ChangeAt Go.RowKit
set_option linter.unusedVariables false
set_option linter.unusedSimpArgs false

theorem all_false_of {α : Type} (l : List α) (f : α → Bool) (k : Nat) (h : k < l.length) (hf : f l[k] = false) : l.all f = false := by
  rw [List.all_eq_false]
  exact ⟨l[k], List.getElem_mem h, by simp [hf]⟩
theorem all_true_of {α : Type} (l : List α) (f : α → Bool) (h : ∀ k (hk : k < l.length), f l[k] = true) : l.all f = true := by
  rw [List.all_eq_true]
  intro x hx
  obtain ⟨k, hk, rfl⟩ := List.mem_iff_getElem.1 hx
  exact h k hk
def numsB (P : Pln) : Bool := inB P.top 1 60 && inB P.brake 1 10 && inB P.margin 1 4000 && inB P.throw 1 20 && !decide (P.es.length = 0)
theorem argsB_eq (P : Pln) : argsB P = (numsB P && P.es.all eleB && P.ss.all (fun s => nmB s.n) && P.ls.all (fun l => nmB l.n)) := rfl
theorem argsB_num {P : Pln} (h : numsB P = false) : argsB P = false := by rw [argsB_eq, h]; rfl
theorem argsB_es {P : Pln} {k : Nat} (hk : k < P.es.length) (h : eleB P.es[k] = false) : argsB P = false := by rw [argsB_eq, all_false_of _ _ k hk h]; simp
theorem argsB_ss {P : Pln} {k : Nat} (hk : k < P.ss.length) (h : nmB P.ss[k].n = false) : argsB P = false := by rw [argsB_eq, all_false_of P.ss (fun s => nmB s.n) k hk h]; simp
theorem argsB_ls {P : Pln} {k : Nat} (hk : k < P.ls.length) (h : nmB P.ls[k].n = false) : argsB P = false := by rw [argsB_eq, all_false_of P.ls (fun s => nmB s.n) k hk h]; simp
theorem argsB_yes {P : Pln} (h0 : numsB P = true) (h1 : ∀ k (hk : k < P.es.length), eleB P.es[k] = true) (h2 : ∀ k (hk : k < P.ss.length), nmB P.ss[k].n = true) (h3 : ∀ k (hk : k < P.ls.length), nmB P.ls[k].n = true) : argsB P = true := by
  rw [argsB_eq, h0, all_true_of _ _ h1, all_true_of P.ss (fun s => nmB s.n) h2, all_true_of P.ls (fun s => nmB s.n) h3]; rfl
end Go.Proofs.YtjblplflgiibdaaDoor
namespace Go.Proofs.YtjblplflgiibdaaDoor
open Go.ChangeShapes Go.WideShapes Go.ChangeAt Go.RowKit
set_option linter.unusedVariables false
set_option linter.unusedSimpArgs false
theorem gatesB_no {P : Pln} {k : Nat} (hk : k < P.es.length) (h1 : P.es[k].k = 4) (h2 : offGate P ⟨k, 0⟩ = false) : gatesB P = false := by
  unfold gatesB
  rw [List.all_eq_false]
  refine ⟨k, by simpa using hk, ?_⟩
  rw [kindP_in P k hk, h1, h2]; simp
theorem gatesB_yes {P : Pln} (h : ∀ k (hk : k < P.es.length), P.es[k].k = 4 → offGate P ⟨k, 0⟩ = true) : gatesB P = true := by
  unfold gatesB
  rw [List.all_eq_true]
  intro k hk
  have hk' : k < P.es.length := by simpa using hk
  rw [kindP_in P k hk']
  by_cases e : P.es[k].k = 4
  · rw [h k hk' e]; simp
  · simp [e]
theorem offGate_none {P : Pln} {x : Prt} (h : nextL P.js x = none) : offGate P x = false := by unfold offGate; rw [h]
theorem offGate_some {P : Pln} {x y : Prt} (h : nextL P.js x = some y) : offGate P x = !decide (kindP P y.e = 4) := by unfold offGate; rw [h]
end Go.Proofs.YtjblplflgiibdaaDoor
namespace Go.Proofs.YtjblplflgiibdaaDoor
open Go.ChangeShapes Go.WideShapes Go.ChangeAt Go.RowKit
set_option linter.unusedVariables false
set_option linter.unusedSimpArgs false
theorem reads_dec (l : List Sg) (x : Prt) (k : Nat) : decide (readsL l x = some k) = decide (readsN l x = k) := by
  unfold readsN
  cases readsL l x with
  | none => simp
  | some j => simp; omega
theorem sigB_at (P : Pln) (k : Nat) (hk : k < P.ss.length) : sigB P k = (hasP P P.ss[k].at_ && (decide (kindP P P.ss[k].at_.e = 1) || decide (kindP P P.ss[k].at_.e = 4)) && offGate P P.ss[k].at_ && decide (readsN P.ss P.ss[k].at_ = k)) := by
  unfold sigB
  rw [getD_at _ _ hk]
  simp only [reads_dec]
theorem signalsB_no {P : Pln} {k : Nat} (hk : k < P.ss.length) (h : sigB P k = false) : signalsB P = false := by
  unfold signalsB
  have : (List.range P.ss.length).all (sigB P) = false := by
    rw [List.all_eq_false]; exact ⟨k, by simpa using hk, by simp [h]⟩
  rw [this]; rfl
theorem signalsB_gate {P : Pln} {k : Nat} (hk : k < P.es.length) (h1 : P.es[k].k = 4) (h : readsN P.ss ⟨k, 0⟩ < 0) : signalsB P = false := by
  unfold signalsB
  have : ((List.range P.es.length).all fun i => !decide (kindP P i = 4) || (readsL P.ss ⟨i, 0⟩).isSome) = false := by
    rw [List.all_eq_false]
    refine ⟨k, by simpa using hk, ?_⟩
    rw [kindP_in P k hk, h1]
    unfold readsN at h
    cases hr : readsL P.ss ⟨k, 0⟩ with
    | none => simp
    | some j => rw [hr] at h; simp at h; omega
  rw [this]; simp
theorem signalsB_yes {P : Pln} (h1 : ∀ k (hk : k < P.ss.length), sigB P k = true) (h2 : ∀ k (hk : k < P.es.length), P.es[k].k = 4 → 0 ≤ readsN P.ss ⟨k, 0⟩) : signalsB P = true := by
  unfold signalsB
  have a : (List.range P.ss.length).all (sigB P) = true := by
    rw [List.all_eq_true]; intro k hk; exact h1 k (by simpa using hk)
  have b : ((List.range P.es.length).all fun i => !decide (kindP P i = 4) || (readsL P.ss ⟨i, 0⟩).isSome) = true := by
    rw [List.all_eq_true]
    intro k hk
    have hk' : k < P.es.length := by simpa using hk
    rw [kindP_in P k hk']
    by_cases e : P.es[k].k = 4
    · have := h2 k hk' e
      unfold readsN at this
      cases hr : readsL P.ss ⟨k, 0⟩ with
      | none => rw [hr] at this; simp at this
      | some j => simp
    · simp [e]
  rw [a, b]; rfl
end Go.Proofs.YtjblplflgiibdaaDoor
