/- Grw: Regions that draw their order and whose callees may make memory: one walk of the text's order, over the class of all worlds in which nothing old has turned. No program.
MapN: The map that a port is joined by: look-ups.
Chk1: The document's answer: twice.
Chk2: The document's answer: within, In.
Chk3: A plan in its box.
NewP: net.New: what its walk carries; what a net is.
Nam1: The reference's Name. -/
import Derived.Test.YtknmngejjoohdaaGreatDoorB1
import Derived.Laws.AppendOwn
import Derived.Laws.OwnMore
import Derived.Test.YtknmngejjoohdaaGreatDoorRows
import Derived.Test.YtknmngejjoohdaaGreatDoorB2
import Derived.Maps.OwnOps
import Derived.Deep.LoopGhost
import Derived.Deep.MidRow
namespace Go.Proofs.YtknmngejjoohdaaGreatDoor
open Go.ChangeShapes Go.WideShapes Go.ChangeAt Go.RowKit
set_option linter.unusedVariables false
set_option linter.unusedSimpArgs false

structure GrW (w : World) where
  wd : World
  gr : Gr w wd
instance (w : World) : Nonempty (GrW w) := ⟨⟨w, Gr.refl w⟩⟩
theorem GrW.cell {w : World} {b : Nat} (hb : b < w.heap.size) (i : GrW w) (o : Nat) : i.wd.cell? ⟨b, o, none⟩ = w.cell? ⟨b, o, none⟩ := i.gr.cell b o hb
theorem GrW.frozen {w : World} {b : Nat} (hb : b < w.heap.size) (i : GrW w) (o : Nat) : i.wd.frozen? ⟨b, o, none⟩ = w.frozen? ⟨b, o, none⟩ := i.gr.frozen b o hb
theorem wp_region_gr {P : Program} {id : Nat} {Q : Exit → Act → World → Prop} {a : Act} {w : World} {l : List Oper} (hm : P.follows .mixedOrders = true) (hB : Region.lexB .any l.toArray = true)
    (h : wpQuiet P l.toArray (fun w' => ∃ i : GrW w, w' = i.wd) (fun a' => ∀ w', (∃ i : GrW w, w' = i.wd) → Q .normal a' w') l a) : (Code.region id l.toArray true).wp P Q a w :=
  wp_region_quiet (C := fun w' => ∃ i : GrW w, w' = i.wd) hm hB ⟨⟨w.drew, (Gr.refl w).drew⟩, rfl⟩ (by simpa using h)
theorem Calls.gr_of {P : Program} {f : FuncId} {args : Array Value} {w : World} {i : GrW w} {v : Value}
    (h : Calls P f args i.wd fun e w' => e = .returned v ∧ Gr i.wd w') : Calls P f args i.wd fun e w'' => e = .returned v ∧ ∃ j : GrW w, w'' = j.wd :=
  h.mono fun _ w' ⟨he, hg⟩ => ⟨he, ⟨w', i.gr.trans hg⟩, rfl⟩
theorem new2 {wr w5 : World} {t : TypeId} {x y : Value} (h : Gr ((wr.alloc (.cells #[x, y] t)).drew) w5) : w5.cell? ⟨wr.heap.size, 0, none⟩ = some x ∧ w5.cell? ⟨wr.heap.size, 1, none⟩ = some y ∧ w5.frozen? ⟨wr.heap.size, 0, none⟩ = false ∧ w5.frozen? ⟨wr.heap.size, 1, none⟩ = false ∧ wr.heap.size < w5.heap.size := by
  have hz : wr.heap.size < ((wr.alloc (.cells #[x, y] t)).drew).heap.size := by simp
  exact ⟨(h.cell _ _ hz).trans (by simp), (h.cell _ _ hz).trans (by simp), (h.frozen _ _ hz).trans (by simp), (h.frozen _ _ hz).trans (by simp), Nat.lt_of_lt_of_le hz h.size⟩
def NewAt (wr wz : World) (g : Nat) (x y : Value) : Prop := Gr wr wz ∧ wr.heap.size ≤ g ∧ g < wz.heap.size ∧ wz.cell? ⟨g, 0, none⟩ = some x ∧ wz.cell? ⟨g, 1, none⟩ = some y
theorem newAt_alloc {wr w5 : World} {t : TypeId} {x y : Value} (g : Gr wr w5) : NewAt wr (w5.alloc (.cells #[x, y] t)) w5.heap.size x y :=
  ⟨g.alloc _, g.size, by simp, by simp, by simp⟩
theorem newAt_set {wr w5 : World} {t : TypeId} {a b x y : Value} (h : Gr ((wr.alloc (.cells #[a, b] t)).drew) w5) : NewAt wr ((w5.setCell ⟨wr.heap.size, 0, none⟩ x).setCell ⟨wr.heap.size, 1, none⟩ y) wr.heap.size x y := by
  obtain ⟨k0, k1, f0, f1, z⟩ := new2 h
  refine ⟨((((Gr.refl wr).alloc _).drew.trans h).setCell (Nat.le_refl _) _).setCell (Nat.le_refl _) _, Nat.le_refl _, by simpa using z, ?_, ?_⟩
  · exact (World.cell?_setCell_other _ _ _ _ (by simp)).trans (World.cell?_setCell_same _ _ _ k0)
  · exact World.cell?_setCell_same _ _ _ ((World.cell?_setCell_other _ _ _ _ (by simp)).trans k1)
theorem own_gr {w w' : World} {B : Nat} {e : TypeId} {sz n : Nat} {v : Value} {xs : List Value} (h : w.ownsRow B e sz v n xs) (g : Gr w w') : w'.ownsRow B e sz v n xs := by
  refine ⟨h.1, ?_⟩
  rcases h.2 with h | ⟨b, cap, cur, hv, hb, hh, rest⟩
  · exact .inl h
  · refine .inr ⟨b, cap, cur, hv, hb, ?_, rest⟩
    have hlt : b < w.heap.size := by
      rcases Nat.lt_or_ge b w.heap.size with hl | hl
      · exact hl
      · rw [Array.getElem?_eq_none hl] at hh; cases hh
    rw [g.block b hlt]; exact hh
theorem own_lt {w : World} {B : Nat} {e : TypeId} {sz n : Nat} {v : Value} {xs : List Value} (h : w.ownsRow B e sz v n xs) : ∀ b, v.ownBlock = some b → b < w.heap.size := by
  intro b hb
  rcases h.2 with ⟨rfl, _⟩ | ⟨g, cap, cur, rfl, hg, hh, rest⟩
  · cases hb
  · simp [Value.ownBlock] at hb
    subst hb
    rcases Nat.lt_or_ge g w.heap.size with hl | hl
    · exact hl
    · rw [Array.getElem?_eq_none hl] at hh; cases hh
theorem beqF {a b : Int} (h : a ≠ b) : (a == b) = false := by simpa using h
theorem beqT {a b : Int} (h : a = b) : (a == b) = true := by simpa using h
theorem bneF {a b : Int} (h : a = b) : (a != b) = false := by simpa using h
theorem bneT {a b : Int} (h : a ≠ b) : (a != b) = true := by simpa using h
end Go.Proofs.YtknmngejjoohdaaGreatDoor
namespace Go.Proofs.YtknmngejjoohdaaGreatDoor
open Go.ChangeShapes Go.WideShapes Go.ChangeAt Go.RowKit Go.Maps
set_option linter.unusedVariables false
set_option linter.unusedSimpArgs false

theorem prt_zero (w : World) : (zeroValue 67).run Tryz.prog w = .ok (.agg #[.int .i64 0, .int .i64 0]) w := by kernel_rfl
def PrtOk (x : Prt) : Prop := I64 x.e ∧ I64 x.x
theorem next_look_some {w : World} {b n : Nat} {f : Value → Option Value} {l : List Jn} {x y : Prt} (h : MapIs Tryz.prog 67 w b n f) (hf : FnL l f) (hx : PrtOk x) (hn : nextL l x = some y) :
    (Instr.lookup 130 (.map (some b)) (.agg #[.int .i64 x.e, .int .i64 x.x]) true).run Tryz.prog w = .ok (.tuple #[.agg #[.int .i64 y.e, .int .i64 y.x], .bool true]) w := by
  obtain ⟨kl, hk⟩ := prt_key x hx.1 hx.2
  have := h.lookup_ok prt_keyed Tryz.underlying130 (prt_zero w) hk
  rw [hf x, hn] at this
  exact this
theorem next_look_none {w : World} {b n : Nat} {f : Value → Option Value} {l : List Jn} {x : Prt} (h : MapIs Tryz.prog 67 w b n f) (hf : FnL l f) (hx : PrtOk x) (hn : nextL l x = none) :
    (Instr.lookup 130 (.map (some b)) (.agg #[.int .i64 x.e, .int .i64 x.x]) true).run Tryz.prog w = .ok (.tuple #[.agg #[.int .i64 0, .int .i64 0], .bool false]) w := by
  obtain ⟨kl, hk⟩ := prt_key x hx.1 hx.2
  have := h.lookup_ok prt_keyed Tryz.underlying130 (prt_zero w) hk
  rw [hf x, hn] at this
  exact this
theorem put_self (f : Value → Option Value) (k v : Value) : put f k v k = some v := by unfold put; rw [if_pos rfl]
theorem put_else (f : Value → Option Value) {k v x : Value} (h : x ≠ k) : put f k v x = f x := by unfold put; rw [if_neg h]
theorem FnL.two {l : List Jn} {f : Value → Option Value} (h : FnL l f) (j : Jn) (ha : j.a ∉ portsL l) (hb : j.b ∉ portsL l) (hab : j.a ≠ j.b) : FnL (l ++ [j]) (put (put f j.a.v j.b.v) j.b.v j.a.v) := by
  intro x
  rw [nextL_snoc]
  by_cases e2 : x = j.b
  · subst e2
    rw [put_self, nextL_none l _ hb, if_neg hab]; simp
  · rw [put_else _ (fun e => e2 (prtv_inj e))]
    by_cases e1 : x = j.a
    · subst e1
      rw [put_self, nextL_none l _ ha]; simp
    · rw [put_else _ (fun e => e1 (prtv_inj e)), h x, if_neg (fun e => e1 e.symm), if_neg (fun e => e2 e.symm)]
      cases nextL l x <;> rfl
end Go.Proofs.YtknmngejjoohdaaGreatDoor
namespace Go.Proofs.YtknmngejjoohdaaGreatDoor
open Go.ChangeShapes Go.WideShapes Go.ChangeAt Go.RowKit
set_option linter.unusedVariables false
set_option linter.unusedSimpArgs false
theorem strs_at {w : World} {A : List ByteArray} {a : Option Addr} {c : Nat} (h : IsVals w (.slice a A.length c) (A.map Value.string)) (k : Nat) (hk : k < A.length) :
    ∃ b o, a = some ⟨b, o, none⟩ ∧ b < w.heap.size ∧ w.cell? ⟨b, o + k, none⟩ = some (.string A[k]) := by
  obtain ⟨a', c', e, _, hx⟩ := h
  simp only [Value.slice.injEq] at e
  obtain ⟨rfl, -, rfl⟩ := e
  rcases hx with hx | ⟨b, o, rfl, hb, hc⟩
  · exfalso
    have := congrArg List.length hx
    simp at this
    rw [this] at hk
    simp at hk
  · exact ⟨b, o, rfl, hb, hc k _ (by rw [List.getElem?_map, List.getElem?_eq_getElem hk]; rfl)⟩
theorem bytes_eq {a b : ByteArray} (h : ¬ a = b) : (a.toList == b.toList) = false := by
  rw [beq_eq_false_iff_ne]
  intro e
  rw [ByteArray.toList_eq, ByteArray.toList_eq] at e
  exact h (ByteArray.ext (Array.toList_inj.1 e))
theorem twice_yes {l : List ByteArray} {i k : Nat} (hi : i < l.length) (hk : k < i) (h : l[i] = l[k]'(by omega)) : twiceB l = true := by
  unfold twiceB
  simp only [Bool.not_eq_true', decide_eq_false_iff_not]
  intro hn
  have := List.pairwise_iff_getElem.1 hn k i (by omega) hi hk
  exact this h.symm
theorem twice_no {l : List ByteArray} (h : ∀ i k (hi : i < l.length) (hk : k < i), l[i] ≠ l[k]'(by omega)) : twiceB l = false := by
  unfold twiceB
  simp only [Bool.not_eq_false', decide_eq_true_eq]
  exact List.pairwise_iff_getElem.2 fun i j hi hj hij e => h j i hj hij e.symm
set_option maxRecDepth 100000 in
theorem refTwice_any (v : Value) (L : List ByteArray) (w : World) (hv : IsVals w v (L.map Value.string)) :
    Calls Tryz.prog 94 #[v] w fun e w' => e = .returned (.bool (twiceB L)) ∧ Gr w w' := by
  have hv' := hv
  obtain ⟨a, c, rfl, hm, -⟩ := hv
  simp only [List.length_map] at hv' hm ⊢
  unfold maxLen at hm
  have HV := Lib.hid hv'
  clear hv'
  go_enter Tryz.func94, Tryz.ntmps94
  go_wp2_with fail
  go_loopg [2, 3, 4] L.length (fun gh _ x2 _ wr => ∃ i : Nat, i + gh = L.length ∧ x2 = .int .i64 i ∧ Hid (∀ p q (hp : p < L.length) (hq : q < p), p < i → L[p] ≠ L[q]'(by omega)) ∧ Gr w wr)
  case atStart => exact ⟨0, by omega, rfl, fun p q _ _ h => by omega, Gr.refl _⟩
  case round =>
    obtain ⟨i, hig, rfl, HA, g⟩ := hrel
    have HIG := Lib.hid hig
    clear hig
    by_cases hlt : i < L.length
    · have i1 : (i : Int) < (L.length : Int) := by omega
      go_wp2_with fail
      go_loopg [4] i (fun g2 x3 wy => ∃ k : Nat, k + g2 = i ∧ x3 = .int .i64 k ∧ Hid (∀ q (hq : q < i), q < k → L[i] ≠ L[q]'(by omega)) ∧ Gr w wy)
      case atStart => exact ⟨0, by omega, rfl, fun q _ h => by omega, g⟩
      case round =>
        obtain ⟨k, hkg, rfl, HB, g3⟩ := hrel
        have HKG := Lib.hid hkg
        clear hkg
        by_cases hk : k < i
        · have k1 : (k : Int) < (i : Int) := by omega
          obtain ⟨b1, o1, rfl, z1, c1⟩ := strs_at (HV.out.gr g3) i hlt
          obtain ⟨b2, o2, e2, z2, c2⟩ := strs_at (HV.out.gr g3) k (by omega)
          simp only [Option.some.injEq, Addr.mk.injEq, and_true] at e2
          obtain ⟨rfl, rfl⟩ := e2
          by_cases he : L[i] = L[k]
          · have HR := Lib.hid (twice_yes hlt hk he)
            rw [he] at c1
            clear he HA HB
            generalize L[k] = y at *
            go_wp2_with fail
            go_quiet (fail)
            go_wp2
            try rw [Exit.noGoto_ret]
            go_ret
            exact ⟨ret_bool HR.out.symm, by first | exact g3.drewN _ | exact g3⟩
          · have hs := bytes_eq he
            have HB' : Hid (∀ q (hq : q < i), q < k + 1 → L[i] ≠ L[q]'(by omega)) := by
              intro q hq h
              by_cases e : q = k
              · subst e; exact he
              · exact HB.out q hq (by omega)
            clear he HB
            obtain ⟨x, hx⟩ : ∃ x, x = L[i] := ⟨_, rfl⟩
            obtain ⟨y, hy⟩ : ∃ y, y = L[k] := ⟨_, rfl⟩
            rw [← hx] at c1 hs
            rw [← hy] at c2 hs
            clear hx hy
            go_wp2_with fail
            go_quiet (fail)
            go_wp2
            go_roundg (i - (k + 1))
            case measure => have := HKG.out; omega
            case rel => exact ⟨k + 1, by have := HKG.out; omega, by go_num, HB'.out, by first | exact g3.drewN _ | exact g3⟩
        · have HA' : Hid (∀ p q (hp : p < L.length) (hq : q < p), p < i + 1 → L[p] ≠ L[q]'(by omega)) := by
            intro p q hp hq h
            by_cases e : p = i
            · subst e; exact HB.out q hq (by omega)
            · exact HA.out p q hp hq (by omega)
          clear HA HB
          go_wp2
          go_roundg (L.length - (i + 1))
          case measure => have := HIG.out; omega
          case rel => exact ⟨i + 1, by have := HIG.out; omega, by go_num, HA'.out, g3⟩
    · have HR := Lib.hid (twice_no fun p q hp hq => HA.out p q hp hq (by omega))
      clear HA
      go_wp2
      go_ret
      exact ⟨ret_bool HR.out.symm, g⟩
end Go.Proofs.YtknmngejjoohdaaGreatDoor
namespace Go.Proofs.YtknmngejjoohdaaGreatDoor
open Go.ChangeShapes Go.WideShapes Go.ChangeAt Go.RowKit
set_option linter.unusedVariables false
set_option linter.unusedSimpArgs false
theorem ints_at {w : World} {A : List Int} {a : Option Addr} {c : Nat} (h : IsVals w (.slice a A.length c) (A.map (Value.int .i64))) (k : Nat) (hk : k < A.length) :
    ∃ b o, a = some ⟨b, o, none⟩ ∧ b < w.heap.size ∧ w.cell? ⟨b, o + k, none⟩ = some (.int .i64 A[k]) := by
  obtain ⟨a', c', e, _, hx⟩ := h
  simp only [Value.slice.injEq] at e
  obtain ⟨rfl, -, rfl⟩ := e
  rcases hx with hx | ⟨b, o, rfl, hb, hc⟩
  · exfalso
    have := congrArg List.length hx
    simp at this
    rw [this] at hk
    simp at hk
  · exact ⟨b, o, rfl, hb, hc k _ (by rw [List.getElem?_map, List.getElem?_eq_getElem hk]; rfl)⟩
theorem refWithin_any (n lo hi : Int) (w : World) : Calls Tryz.prog 144 #[.int .i64 n, .int .i64 lo, .int .i64 hi] w fun e w' => e = .returned (.bool (inB n lo hi)) ∧ w' = w := by
  by_cases h : lo ≤ n
  · have HN : Hid (inB n lo hi = decide (n ≤ hi)) := by unfold Hid inB; simp [h]
    go_enter Tryz.func144, Tryz.ntmps144
    go_wp2
    go_ret
    exact ⟨ret_bool (by rw [HN.out]), rfl⟩
  · have HN : Hid (inB n lo hi = false) := by unfold Hid inB; simp [h]
    go_enter Tryz.func144, Tryz.ntmps144
    go_wp2
    go_ret
    exact ⟨ret_bool (by rw [HN.out]), rfl⟩
theorem refIn_any (v : Value) (L : List Int) (n : Int) (w : World) (hv : IsVals w v (L.map (Value.int .i64))) :
    Calls Tryz.prog 150 #[v, .int .i64 n] w fun e w' => e = .returned (.bool (decide (n ∈ L))) ∧ Gr w w' := by
  have hv' := hv
  obtain ⟨a, c, rfl, hm, -⟩ := hv
  simp only [List.length_map] at hv' hm ⊢
  unfold maxLen at hm
  have HV := Lib.hid hv'
  clear hv'
  go_enter Tryz.func150, Tryz.ntmps150
  go_wp2_with fail
  go_loopg [4, 5] L.length (fun gh _ x wr => ∃ i : Nat, i + gh = L.length ∧ x = .int .i64 i ∧ Hid (∀ p (hp : p < L.length), p < i → L[p] ≠ n) ∧ Gr w wr)
  case atStart => exact ⟨0, by omega, rfl, fun p _ h => by omega, Gr.refl _⟩
  case round =>
    obtain ⟨i, hig, rfl, HA, g⟩ := hrel
    have HIG := Lib.hid hig
    clear hig
    by_cases hlt : i < L.length
    · have i1 : (i : Int) < (L.length : Int) := by omega
      obtain ⟨b, o, rfl, z, cx⟩ := ints_at (HV.out.gr g) i hlt
      by_cases he : L[i] = n
      · have HR : Hid (decide (n ∈ L) = true) := by unfold Hid; simp only [decide_eq_true_eq]; rw [← he]; exact List.getElem_mem hlt
        have t1 : (L[i] == n) = true := by simpa using he
        clear he HA
        go_wp2
        go_ret
        exact ⟨ret_bool HR.out.symm, g⟩
      · have t1 : (L[i] == n) = false := by simpa using he
        have HA' : Hid (∀ p (hp : p < L.length), p < i + 1 → L[p] ≠ n) := by
          intro p hp h
          by_cases e : p = i
          · subst e; exact he
          · exact HA.out p hp (by omega)
        clear he HA
        go_wp2
        go_roundg (L.length - (i + 1))
        case measure => have := HIG.out; omega
        case rel => exact ⟨i + 1, by have := HIG.out; omega, by go_num, HA'.out, g⟩
    · have HR : Hid (decide (n ∈ L) = false) := by
        unfold Hid
        simp only [decide_eq_false_iff_not]
        intro hm
        obtain ⟨p, hp, e⟩ := List.mem_iff_getElem.1 hm
        exact HA.out p hp (by omega) e
      clear HA
      go_wp2
      go_ret
      exact ⟨ret_bool HR.out.symm, g⟩
end Go.Proofs.YtknmngejjoohdaaGreatDoor
namespace Go.Proofs.YtknmngejjoohdaaGreatDoor
open Go.ChangeShapes Go.WideShapes Go.ChangeAt Go.RowKit
set_option linter.unusedVariables false
set_option linter.unusedSimpArgs false
def PBox (w : World) (b : Nat) (P : Pln) (e j s l : Value) : Prop :=
  b < w.heap.size ∧ w.cell? ⟨b, 0, none⟩ = some e ∧ w.cell? ⟨b, 1, none⟩ = some j ∧ w.cell? ⟨b, 2, none⟩ = some s ∧ w.cell? ⟨b, 3, none⟩ = some l ∧ w.cell? ⟨b, 4, none⟩ = some (.int .i64 P.top) ∧
    w.cell? ⟨b, 5, none⟩ = some (.int .i64 P.brake) ∧ w.cell? ⟨b, 6, none⟩ = some (.int .i64 P.margin) ∧ w.cell? ⟨b, 7, none⟩ = some (.int .i64 P.throw) ∧ w.cell? ⟨b, 8, none⟩ = some (.bool P.hard)
theorem PBox.gr {w w' : World} {b : Nat} {P : Pln} {e j s l : Value} (h : PBox w b P e j s l) (g : Gr w w') : PBox w' b P e j s l := by
  obtain ⟨hb, c0, c1, c2, c3, c4, c5, c6, c7, c8⟩ := h
  refine ⟨Nat.lt_of_lt_of_le hb g.size, ?_, ?_, ?_, ?_, ?_, ?_, ?_, ?_, ?_⟩ <;> (rw [g.cell _ _ hb]; assumption)
theorem PBox.drewN {w : World} {b : Nat} {P : Pln} {e j s l : Value} (h : PBox w b P e j s l) (n : Nat) : PBox (w.drewN n) b P e j s l := h.gr ((Gr.refl w).drewN n)
theorem PBox.drew {w : World} {b : Nat} {P : Pln} {e j s l : Value} (h : PBox w b P e j s l) : PBox w.drew b P e j s l := h.gr ((Gr.refl w).drew)
theorem PBox.load {w : World} {b : Nat} {P : Pln} {e j s l : Value} (h : PBox w b P e j s l) : (Instr.loadAt 28 (.pointer (some ⟨b, 0, none⟩))).run Tryz.prog w = .ok (plnV P e j s l) w := by
  obtain ⟨hb, c0, c1, c2, c3, c4, c5, c6, c7, c8⟩ := h
  exact run_loadAt_mid w b 0 28 [e, j, s, l, .int .i64 P.top, .int .i64 P.brake, .int .i64 P.margin, .int .i64 P.throw, .bool P.hard] _ (fun i v h => by
    match i, h with
    | 0, h => cases h; exact c0
    | 1, h => cases h; exact c1
    | 2, h => cases h; exact c2
    | 3, h => cases h; exact c3
    | 4, h => cases h; exact c4
    | 5, h => cases h; exact c5
    | 6, h => cases h; exact c6
    | 7, h => cases h; exact c7
    | 8, h => cases h; exact c8) Tryz.underlying28 rfl (by kernel_rfl)
theorem PBox.new (w : World) (P : Pln) (e j s l : Value) : PBox (w.alloc (.cells #[e, j, s, l, .int .i64 P.top, .int .i64 P.brake, .int .i64 P.margin, .int .i64 P.throw, .bool P.hard] 28)) w.heap.size P e j s l := by
  refine ⟨by simp, ?_, ?_, ?_, ?_, ?_, ?_, ?_, ?_, ?_⟩ <;> (rw [World.cell?_alloc_mark]; rfl)
def PS (w : World) (b : Nat) (P : Pln) (e j s l : Value) (w' : World) : Prop :=
  Gr w w' ∧ PBox w' b P e j s l ∧ (Instr.loadAt 28 (.pointer (some ⟨b, 0, none⟩))).run Tryz.prog w' = .ok (plnV P e j s l) w'
theorem PS.of {w w' : World} {b : Nat} {P : Pln} {e j s l : Value} (g : Gr w w') (h : PBox w' b P e j s l) : PS w b P e j s l w' := ⟨g, h, h.load⟩
theorem PS.gr {w w1 w2 : World} {b : Nat} {P : Pln} {e j s l : Value} (h : PS w b P e j s l w1) (g : Gr w1 w2) : PS w b P e j s l w2 := PS.of (h.1.trans g) (h.2.1.gr g)
theorem PS.drew {w w1 : World} {b : Nat} {P : Pln} {e j s l : Value} (h : PS w b P e j s l w1) : PS w b P e j s l w1.drew := h.gr ((Gr.refl _).drew)
theorem PBox.ps {w w' : World} {b : Nat} {P : Pln} {e j s l : Value} (h : PBox w' b P e j s l) (g : Gr w w') : PS w b P e j s l w' := PS.of g h
theorem IsPln.mk {w w' : World} {P : Pln} {a1 a2 a3 a4 : Option Addr} {c1 c2 c3 c4 : Nat} (h1 : IsEles w (.slice a1 P.es.length c1) P.es) (h2 : IsJns w (.slice a2 P.js.length c2) P.js) (h3 : IsSgs w (.slice a3 P.ss.length c3) P.ss) (h4 : IsLns w (.slice a4 P.ls.length c4) P.ls) (g : Gr w w') :
    IsPln w' (.agg #[.slice a1 P.es.length c1, .slice a2 P.js.length c2, .slice a3 P.ss.length c3, .slice a4 P.ls.length c4, .int .i64 P.top, .int .i64 P.brake, .int .i64 P.margin, .int .i64 P.throw, .bool P.hard]) P :=
  ⟨a1, c1, a2, c2, a3, c3, a4, c4, rfl, h1.gr g, h2.gr g, h3.gr g, h4.gr g⟩
end Go.Proofs.YtknmngejjoohdaaGreatDoor
namespace Go.Proofs.YtknmngejjoohdaaGreatDoor
open Go.ChangeShapes Go.WideShapes Go.ChangeAt Go.RowKit Go.Maps
set_option linter.unusedVariables false
set_option linter.unusedSimpArgs false
theorem PBox.blk {w w' : World} {b : Nat} {P : Pln} {e j s l : Value} (h : PBox w b P e j s l) (hb : w'.heap[b]? = w.heap[b]?) (hs : w.heap.size ≤ w'.heap.size) : PBox w' b P e j s l := by
  have q : ∀ o, w'.cell? ⟨b, o, none⟩ = w.cell? ⟨b, o, none⟩ := fun o => World.cell?_of_block hb
  obtain ⟨z, b0, b1, b2, b3, b4, b5, b6, b7, b8⟩ := h
  exact ⟨Nat.lt_of_lt_of_le z hs, (q _).trans b0, (q _).trans b1, (q _).trans b2, (q _).trans b3, (q _).trans b4, (q _).trans b5, (q _).trans b6, (q _).trans b7, (q _).trans b8⟩
structure NetW (w2 : World) (P : Pln) (v1 v2 v3 v4 : Value) (n1 : Nat) (f1 : Value → Option Value) (n2 : Nat) (f2 : Value → Option Value) (n3 : Nat) (f3 : Value → Option Value) (n4 : Nat) (f4 : Value → Option Value) (wr : World) : Prop where
  gr : Gr w2 wr
  net : PBox wr (w2.heap.size + 4) P v1 v2 v3 v4
  c9 : wr.cell? ⟨w2.heap.size + 4, 9, none⟩ = some (.map (some w2.heap.size))
  c10 : wr.cell? ⟨w2.heap.size + 4, 10, none⟩ = some (.map (some (w2.heap.size + 1)))
  c11 : wr.cell? ⟨w2.heap.size + 4, 11, none⟩ = some (.map (some (w2.heap.size + 2)))
  c12 : wr.cell? ⟨w2.heap.size + 4, 12, none⟩ = some (.map (some (w2.heap.size + 3)))
  nx : MapIs Tryz.prog 67 wr w2.heap.size n1 f1
  rd : MapIs Tryz.prog 67 wr (w2.heap.size + 1) n2 f2
  ln : MapIs Tryz.prog 3 wr (w2.heap.size + 2) n3 f3
  ld : MapIs Tryz.prog 3 wr (w2.heap.size + 3) n4 f4
variable {w2 : World} {P : Pln} {v1 v2 v3 v4 : Value} {n1 n2 n3 n4 : Nat} {f1 f2 f3 f4 : Value → Option Value} {wr w' : World}
theorem NetW.grow (h : NetW w2 P v1 v2 v3 v4 n1 f1 n2 f2 n3 f3 n4 f4 wr) (g : Gr wr w') : NetW w2 P v1 v2 v3 v4 n1 f1 n2 f2 n3 f3 n4 f4 w' :=
  have z := h.net.1
  ⟨h.gr.trans g, h.net.gr g, (g.cell _ _ z).trans h.c9, (g.cell _ _ z).trans h.c10, (g.cell _ _ z).trans h.c11, (g.cell _ _ z).trans h.c12, h.nx.gr g, h.rd.gr g, h.ln.gr g, h.ld.gr g⟩
def FnR (l : List Sg) (f : Value → Option Value) : Prop := ∀ x : Prt, f x.v = (readsL l x).map fun i => .int .i64 (i : Int)
def NetIs (w : World) (b : Nat) (P : Pln) : Prop :=
  ∃ v1 v2 v3 v4 bn n1 f1 br n2 f2 bl n3 f3 bd n4 f4, PBox w b P v1 v2 v3 v4 ∧ IsPln w (plnV P v1 v2 v3 v4) P ∧ w.cell? ⟨b, 9, none⟩ = some (.map (some bn)) ∧ w.cell? ⟨b, 10, none⟩ = some (.map (some br)) ∧ w.cell? ⟨b, 11, none⟩ = some (.map (some bl)) ∧ w.cell? ⟨b, 12, none⟩ = some (.map (some bd)) ∧
    MapIs Tryz.prog 67 w bn n1 f1 ∧ FnL P.js f1 ∧ MapIs Tryz.prog 67 w br n2 f2 ∧ FnR P.ss f2 ∧ MapIs Tryz.prog 3 w bl n3 f3 ∧ MapIs Tryz.prog 3 w bd n4 f4
theorem NetIs.gr {w w' : World} {b : Nat} {P : Pln} (h : NetIs w b P) (g : Gr w w') : NetIs w' b P := by
  obtain ⟨v1, v2, v3, v4, bn, n1, f1, br, n2, f2, bl, n3, f3, bd, n4, f4, a, b', c, d, e, f, i, j, k, l, m, n⟩ := h
  have z := a.1
  exact ⟨v1, v2, v3, v4, bn, n1, f1, br, n2, f2, bl, n3, f3, bd, n4, f4, a.gr g, b'.gr g, (g.cell _ _ z).trans c, (g.cell _ _ z).trans d, (g.cell _ _ z).trans e, (g.cell _ _ z).trans f, i.gr g, j, k.gr g, l, m.gr g, n.gr g⟩
theorem FnR.nil : FnR [] (fun _ => none) := fun _ => rfl
theorem readsL_snoc (l : List Sg) (s : Sg) (x : Prt) : readsL (l ++ [s]) x = match readsL l x with | some i => some i | none => if s.at_ = x then some l.length else none := by
  induction l with
  | nil => simp [readsL]
  | cons a t ih =>
    simp only [List.cons_append, readsL]
    split
    · rfl
    · rw [ih]
      cases readsL t x with
      | some i => rfl
      | none =>
        by_cases h : s.at_ = x
        · simp [h]
        · simp [h]
theorem FnR.one {l : List Sg} {f : Value → Option Value} (h : FnR l f) (s : Sg) (hn : readsL l s.at_ = none) : FnR (l ++ [s]) (put f s.at_.v (.int .i64 (l.length : Int))) := by
  intro x
  rw [readsL_snoc]
  by_cases e : x = s.at_
  · subst e
    rw [put_self, hn, if_pos rfl]; rfl
  · rw [put_else _ (fun e' => e (prtv_inj e')), h x, if_neg (fun e' => e e'.symm)]
    cases readsL l x <;> rfl
end Go.Proofs.YtknmngejjoohdaaGreatDoor
namespace Go.Proofs.YtknmngejjoohdaaGreatDoor
open Go.ChangeShapes Go.WideShapes Go.ChangeAt Go.RowKit
set_option linter.unusedVariables false
set_option linter.unusedSimpArgs false

set_option maxHeartbeats 400000 in
theorem refName_any (s : ByteArray) (hs : s.size ≤ maxLen) (w : World) :
    Calls Tryz.prog 88 #[.string s] w fun e w' => e = .returned (.bool (nmB s)) ∧ w' = w := by
  unfold maxLen at hs
  go_enter Tryz.func88, Tryz.ntmps88
  go_wp2
  go_loop [3, 4, 5] (fun i _ _ => ∃ k : Nat, i = .int .i64 k ∧ k ≤ s.size ∧ Hid (∀ j, j < k → okc j (bt s j) = true)) (fun i _ _ => s.size - (intOf i).toNat)
  case atStart => exact ⟨0, rfl, Nat.zero_le _, fun j hj => by omega⟩
  case round =>
    obtain ⟨k, rfl, hk, HA⟩ := hrel
    by_cases hlt : k < s.size
    · have HG := Lib.hid (bt_get s k hlt)
      have hk0 : ((k : Int) == 0) = true ∨ ((k : Int) == 0) = false := by cases h : ((k : Int) == 0) <;> simp
      by_cases hok : okc k (bt s k) = true
      · have HN : Hid (∀ j, j < k + 1 → okc j (bt s j) = true) := by
          intro j hj
          by_cases e : j = k
          · rw [e]; exact hok
          · exact HA.out j (by omega)
        have ho := (okc_iff k (bt s k)).1 hok
        rw [HG.out] at ho
        rw [show (k ≠ 0) = ¬ ((k : Int) == 0) = true from by simp] at ho
        clear hok HA HG
        rcases hk0 with hk0 | hk0
        all_goals go_wp2
        all_goals (first | (exfalso; simp_all; done) | (exfalso; simp_all; omega) | skip)
        all_goals go_round
        all_goals try (case rel => exact ⟨k + 1, by go_num, by omega, HN⟩)
        all_goals try (case measure => simp [intOf]; omega)
      · have HB := Lib.hid (nmB_bad s k hlt (by simpa using hok))
        have ho : ¬ ((97 ≤ bt s k ∧ bt s k ≤ 122) ∨ (65 ≤ bt s k ∧ bt s k ≤ 90) ∨ (k ≠ 0 ∧ 48 ≤ bt s k ∧ bt s k ≤ 57)) := fun h => hok ((okc_iff k (bt s k)).2 h)
        rw [HG.out] at ho
        rw [show (k ≠ 0) = ¬ ((k : Int) == 0) = true from by simp] at ho
        clear hok HA HG
        rcases hk0 with hk0 | hk0
        all_goals go_wp2
        all_goals (first | (exfalso; simp_all; done) | (exfalso; simp_all; omega) | skip)
        all_goals go_ret
        all_goals exact ⟨ret_bool HB.out.symm, rfl⟩
    · have HB := Lib.hid (nmB_good s fun i hi => HA.out i (by omega))
      clear HA
      go_wp2
      all_goals go_ret
      all_goals (refine ⟨ret_bool ?_, rfl⟩; rw [HB.out]; by_cases a1 : 1 ≤ s.size <;> by_cases a2 : s.size ≤ 8 <;> simp [a1, a2] <;> omega)
end Go.Proofs.YtknmngejjoohdaaGreatDoor
