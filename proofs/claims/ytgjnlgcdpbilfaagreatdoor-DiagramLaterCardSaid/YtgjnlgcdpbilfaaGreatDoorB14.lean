/- DgPa: diagram.Parse.
DgV: How long a timetable's text is: plain. -/
import Derived.Test.YtgjnlgcdpbilfaaGreatDoorRows
import Derived.Test.YtgjnlgcdpbilfaaGreatDoorB12
import Derived.Test.YtgjnlgcdpbilfaaGreatDoorB13
import Derived.Test.YtgjnlgcdpbilfaaGreatDoorB8
import Derived.WalkMore
import Derived.Deep.LoopGhost
import Derived.Test.YtgjnlgcdpbilfaaGreatDoorB11
namespace Go.Proofs.YtgjnlgcdpbilfaaGreatDoor
open Go.ChangeShapes Go.WideShapes Go.ChangeAt Go.RowKit Go.Maps
set_option linter.unusedVariables false
set_option linter.unusedSimpArgs false
def RetPd (w : World) (r : Dgm × Int × Int) (e : Ending) (w' : World) : Prop := ∃ v, e = .returned (.tuple #[v, .int .i64 r.2.1, .int .i64 r.2.2]) ∧ IsDgm w' v r.1 ∧ Gr w w'
theorem RetPd.no {w w' : World} {r : Dgm × Int × Int} {n e : Int} (h : r = (dgm0, n, e)) (g : Gr w w') : RetPd w r (.returned (.tuple #[.agg #[.int .i64 0, .slice none 0 0, .slice none 0 0], .int .i64 n, .int .i64 e])) w' := by
  subst h; exact ⟨_, rfl, IsDgm.nil _, g⟩
theorem RetPd.yes {w w' : World} {r : Dgm × Int × Int} {D : Dgm} {v : Value} {n : Int} (h : r = (D, n, 0)) (hv : IsDgm w' v D) (g : Gr w w') : RetPd w r (.returned (.tuple #[v, .int .i64 n, .int .i64 0])) w' := by
  subst h; exact ⟨_, rfl, hv, g⟩
theorem Dt.setc {b B : Nat} {w : World} {D : Dgm} {sv rv : Value} (h : Dt b B w D sv rv) (a : Addr) (ha : a.block < B) (u : Value) : Dt b B (w.setCell a u) D sv rv := by
  obtain ⟨hbB, A, M, h1, h2, h3, h4, h5, h6⟩ := h
  exact ⟨hbB, A, M, own_setC h1 _ ha u, own_setC h2 _ ha u, h3.set h6 ha u, h4, by simpa using h5, h6⟩
theorem leg3_err {P : Pln} {D : Dgm} {tn : Bool} {v t n : ByteArray} {e : Int} (h : leg3 P D tn v t n = .inl e) : e ≠ 0 := by
  unfold leg3 at h
  split at h
  · cases h; decide
  split at h
  · cases h; decide
  · cases h
theorem legW_err {P : Pln} {D : Dgm} {tn : Bool} {e : Int} : ∀ {L : List ByteArray}, legW P D tn L = .inl e → e ≠ 0
  | [], h => by cases h; decide
  | [_], h => by cases h; decide
  | [_, _], h => by cases h; decide
  | [_, _, _], h => leg3_err h
  | _ :: _ :: _ :: _ :: _, h => by cases h; decide
theorem lineD_err {P : Pln} {D : Dgm} {f : Bool} {s : ByteArray} {e : Int} (h : lineD P D f s = .inl e) : e ≠ 0 := by
  unfold lineD at h
  cases hw : wdB s with
  | none => rw [hw] at h; cases h; decide
  | some L =>
    rw [hw] at h
    dsimp only at h
    cases L with
    | nil => cases h; decide
    | cons x t =>
      unfold lineW at h
      dsimp only at h
      split at h
      · cases h; decide
      split at h
      · match t, h with
        | [], h => cases h; decide
        | [y], h =>
          rw [dayW_two] at h
          split at h
          · cases h
          · cases h; decide
        | _ :: _ :: _, h => cases h; decide
      split at h
      · unfold stockW at h
        cases hr : rowS (x :: t) with
        | none => rw [hr] at h; cases h; decide
        | some k => rw [hr] at h; cases h
      split at h
      · match t, h with
        | [n, k, s, d], h =>
          have h : train5 P D n k s d = .inl e := h
          unfold train5 at h
          split at h
          · split at h
            · cases h; decide
            · cases h
          · cases h; decide
        | [], h => cases h; decide
        | [_], h => cases h; decide
        | [_, _], h => cases h; decide
        | [_, _, _], h => cases h; decide
        | _ :: _ :: _ :: _ :: _ :: _, h => cases h; decide
      · unfold legL at h
        dsimp only at h
        split at h
        · exact legW_err h
        · exact legW_err h
theorem vals_blk {w : World} {b : Nat} {cs : Array Value} {T : TypeId} {a : Option Addr} {n c : Nat} {X : List ByteArray} (hb : w.heap[b]? = some (.cells cs T)) (hs : ∀ x, Value.string x ∉ cs.toList) (hb0 : b ≠ 0) (h0 : 0 < w.heap.size) (h : IsVals w (.slice a n c) (X.map Value.string)) :
    ∃ k, k < w.heap.size ∧ k ≠ b ∧ ∀ w', w'.heap[k]? = w.heap[k]? → k < w'.heap.size → IsVals w' (.slice a n c) (X.map Value.string) := by
  obtain ⟨a', c', e, hm, hx⟩ := h
  cases e
  by_cases hX : X = []
  · subst hX
    exact ⟨0, h0, Ne.symm hb0, fun w' _ _ => ⟨a, c, rfl, hm, .inl rfl⟩⟩
  rcases hx with hx | ⟨k, o, rfl, hk, hc⟩
  · exact absurd (List.length_eq_zero_iff.1 (by simpa using hx)) hX
  · refine ⟨k, hk, ?_, fun w' hw hk' => ⟨_, c, rfl, hm, .inr ⟨k, o, rfl, hk', fun i x hi => (World.cell?_of_block (a := ⟨k, o + i, none⟩) hw).trans (hc i x hi)⟩⟩⟩
    rintro rfl
    cases X with
    | nil => exact absurd rfl hX
    | cons x t =>
      have h1 := hc 0 _ rfl
      rw [cell_of_row w k _ cs T _ hb] at h1
      have h2 : Value.string x ∈ cs.toList := by
        rw [← Array.getElem?_toList] at h1
        exact List.mem_of_getElem? h1
      exact hs x h2
theorem words_sz {s : ByteArray} (hs : s.size ≤ 1048576) : ∀ L, wdB s = some L → ∀ x ∈ L, x.size ≤ maxLen := fun L h x hx => by
  have := (wdS_ne h).2.2 x hx
  unfold maxLen; omega
set_option maxRecDepth 100000 in
set_option maxHeartbeats 8000000 in
theorem dgParse_any (pv : Value) (P : Pln) (s : ByteArray) (hs : s.size ≤ 1048576) (w : World) (ht : w.ShapedOpen Tryz.prog) (hP : IsPln w pv P) :
    Calls Tryz.prog 20 #[pv, .string s] w (RetPd w (parD P s)) := by
  have HPI := Lib.hid hP
  obtain ⟨a1, c1, a2, c2, a3, c3, a4, c4, rfl, -⟩ := hP
  have G02 : Gr w ((w.alloc (.cells #[.slice a1 P.es.length c1, .slice a2 P.js.length c2, .slice a3 P.ss.length c3, .slice a4 P.ls.length c4, .int .i64 P.top, .int .i64 P.brake, .int .i64 P.margin, .int .i64 P.throw, .bool P.hard] 27)).alloc (.cells #[.int .i64 0, .slice none 0 0, .slice none 0 0] 31)) := ((Gr.refl _).alloc _).alloc _
  have zz2 : (((w.alloc (.cells #[.slice a1 P.es.length c1, .slice a2 P.js.length c2, .slice a3 P.ss.length c3, .slice a4 P.ls.length c4, .int .i64 P.top, .int .i64 P.brake, .int .i64 P.margin, .int .i64 P.throw, .bool P.hard] 27)).alloc (.cells #[.int .i64 0, .slice none 0 0, .slice none 0 0] 31))).heap.size = w.heap.size + 1 + 1 := by simp
  have hz2 : w.heap.size + 1 < (((w.alloc (.cells #[.slice a1 P.es.length c1, .slice a2 P.js.length c2, .slice a3 P.ss.length c3, .slice a4 P.ls.length c4, .int .i64 P.top, .int .i64 P.brake, .int .i64 P.margin, .int .i64 P.throw, .bool P.hard] 27)).alloc (.cells #[.int .i64 0, .slice none 0 0, .slice none 0 0] 31))).heap.size := by omega
  have HDX : Hid (∀ w', Gr ((w.alloc (.cells #[.slice a1 P.es.length c1, .slice a2 P.js.length c2, .slice a3 P.ss.length c3, .slice a4 P.ls.length c4, .int .i64 P.top, .int .i64 P.brake, .int .i64 P.margin, .int .i64 P.throw, .bool P.hard] 27)).alloc (.cells #[.int .i64 0, .slice none 0 0, .slice none 0 0] 31)) w' → w.heap.size + 1 < w'.heap.size ∧ w'.cell? ⟨w.heap.size + 1, 0, none⟩ = some (.int .i64 0) ∧ w'.cell? ⟨w.heap.size + 1, 1, none⟩ = some (.slice none 0 0) ∧ w'.cell? ⟨w.heap.size + 1, 2, none⟩ = some (.slice none 0 0) ∧ w'.frozen? ⟨w.heap.size + 1, 0, none⟩ = false ∧ w'.frozen? ⟨w.heap.size + 1, 1, none⟩ = false ∧ w'.frozen? ⟨w.heap.size + 1, 2, none⟩ = false) := fun w' g => by
    exact ⟨Nat.lt_of_lt_of_le hz2 g.size, (g.cell _ _ hz2).trans (by go_simp), (g.cell _ _ hz2).trans (by go_simp), (g.cell _ _ hz2).trans (by go_simp), (g.frozen _ _ hz2).trans (by go_simp), (g.frozen _ _ hz2).trans (by go_simp), (g.frozen _ _ hz2).trans (by go_simp)⟩
  have HB := Lib.hid (fun (w' : World) (g : Gr ((w.alloc (.cells #[.slice a1 P.es.length c1, .slice a2 P.js.length c2, .slice a3 P.ss.length c3, .slice a4 P.ls.length c4, .int .i64 P.top, .int .i64 P.brake, .int .i64 P.margin, .int .i64 P.throw, .bool P.hard] 27)).alloc (.cells #[.int .i64 0, .slice none 0 0, .slice none 0 0] 31)) w') => (PBox.new w P (.slice a1 P.es.length c1) (.slice a2 P.js.length c2) (.slice a3 P.ss.length c3) (.slice a4 P.ls.length c4)).gr (((Gr.refl _).alloc _).trans g))
  unfold plnV at *
  by_cases hl : 32768 < s.size
  · have hl1 : 32768 < (s.size : Int) := by omega
    have HR := Lib.hid (parD_long (P := P) hl)
    obtain ⟨z4, k0, k1, k2, f0, f1, f2⟩ := HDX.out _ (Gr.refl _)
    have hz : w.heap.size ≤ w.heap.size + 1 := by omega
    go_enter Tryz.func20, Tryz.ntmps20
    go_wp2_with fail
    go_step3
    go_wp2_with fail
    try rw [Exit.noGoto_ret]
    (refine bodyPost_ret (v := .tuple #[.agg #[.int .i64 0, .slice none 0 0, .slice none 0 0], .int .i64 0, .int .i64 3]) (by simp [results, Tryz.results20, go_sem, z4, k0, k1, k2, f0, f1, f2]) rfl ?_)
    first | exact RetPd.no HR.out (((G02.setCell hz _).setCell hz _).setCell hz _) | exact RetPd.no HR.out G02
  have hl1 : ¬ 32768 < (s.size : Int) := by omega
  have HLI := Lib.hid (lines_any s hs (((w.alloc (.cells #[.slice a1 P.es.length c1, .slice a2 P.js.length c2, .slice a3 P.ss.length c3, .slice a4 P.ls.length c4, .int .i64 P.top, .int .i64 P.brake, .int .i64 P.margin, .int .i64 P.throw, .bool P.hard] 27)).alloc (.cells #[.int .i64 0, .slice none 0 0, .slice none 0 0] 31)).alloc (.cells #[.slice a1 P.es.length c1, .slice a2 P.js.length c2, .slice a3 P.ss.length c3, .slice a4 P.ls.length c4, .int .i64 P.top, .int .i64 P.brake, .int .i64 P.margin, .int .i64 P.throw, .bool P.hard, .int .i64 0, .slice none 0 0, .slice none 0 0] 88)))
  have hbd := lnB_bd s
  have HBD := Lib.hid hbd.2
  have hlen := hbd.1
  have HPB := Lib.hid (fun (k : Nat) (D : Dgm) (e : Int) => @parD_bad P s hl k D e)
  have HPG := Lib.hid (fun (D : Dgm) => @parD_good P s hl D)
  have HPN := Lib.hid (@parD_none P s hl)
  have G23 : Gr ((w.alloc (.cells #[.slice a1 P.es.length c1, .slice a2 P.js.length c2, .slice a3 P.ss.length c3, .slice a4 P.ls.length c4, .int .i64 P.top, .int .i64 P.brake, .int .i64 P.margin, .int .i64 P.throw, .bool P.hard] 27)).alloc (.cells #[.int .i64 0, .slice none 0 0, .slice none 0 0] 31)) (((w.alloc (.cells #[.slice a1 P.es.length c1, .slice a2 P.js.length c2, .slice a3 P.ss.length c3, .slice a4 P.ls.length c4, .int .i64 P.top, .int .i64 P.brake, .int .i64 P.margin, .int .i64 P.throw, .bool P.hard] 27)).alloc (.cells #[.int .i64 0, .slice none 0 0, .slice none 0 0] 31)).alloc (.cells #[.slice a1 P.es.length c1, .slice a2 P.js.length c2, .slice a3 P.ss.length c3, .slice a4 P.ls.length c4, .int .i64 P.top, .int .i64 P.brake, .int .i64 P.margin, .int .i64 P.throw, .bool P.hard, .int .i64 0, .slice none 0 0, .slice none 0 0] 88)) := (Gr.refl _).alloc _
  have hb3 : ((((w.alloc (.cells #[.slice a1 P.es.length c1, .slice a2 P.js.length c2, .slice a3 P.ss.length c3, .slice a4 P.ls.length c4, .int .i64 P.top, .int .i64 P.brake, .int .i64 P.margin, .int .i64 P.throw, .bool P.hard] 27)).alloc (.cells #[.int .i64 0, .slice none 0 0, .slice none 0 0] 31)).alloc (.cells #[.slice a1 P.es.length c1, .slice a2 P.js.length c2, .slice a3 P.ss.length c3, .slice a4 P.ls.length c4, .int .i64 P.top, .int .i64 P.brake, .int .i64 P.margin, .int .i64 P.throw, .bool P.hard, .int .i64 0, .slice none 0 0, .slice none 0 0] 88))).heap[w.heap.size + 1 + 1]? = some (.cells #[.slice a1 P.es.length c1, .slice a2 P.js.length c2, .slice a3 P.ss.length c3, .slice a4 P.ls.length c4, .int .i64 P.top, .int .i64 P.brake, .int .i64 P.margin, .int .i64 P.throw, .bool P.hard, .int .i64 0, .slice none 0 0, .slice none 0 0] 88) := by
    have := heap_alloc_new ((w.alloc (.cells #[.slice a1 P.es.length c1, .slice a2 P.js.length c2, .slice a3 P.ss.length c3, .slice a4 P.ls.length c4, .int .i64 P.top, .int .i64 P.brake, .int .i64 P.margin, .int .i64 P.throw, .bool P.hard] 27)).alloc (.cells #[.int .i64 0, .slice none 0 0, .slice none 0 0] 31)) (.cells #[.slice a1 P.es.length c1, .slice a2 P.js.length c2, .slice a3 P.ss.length c3, .slice a4 P.ls.length c4, .int .i64 P.top, .int .i64 P.brake, .int .i64 P.margin, .int .i64 P.throw, .bool P.hard, .int .i64 0, .slice none 0 0, .slice none 0 0] 88)
    rw [zz2] at this
    exact this
  have z3 : w.heap.size + 1 + 1 < ((((w.alloc (.cells #[.slice a1 P.es.length c1, .slice a2 P.js.length c2, .slice a3 P.ss.length c3, .slice a4 P.ls.length c4, .int .i64 P.top, .int .i64 P.brake, .int .i64 P.margin, .int .i64 P.throw, .bool P.hard] 27)).alloc (.cells #[.int .i64 0, .slice none 0 0, .slice none 0 0] 31)).alloc (.cells #[.slice a1 P.es.length c1, .slice a2 P.js.length c2, .slice a3 P.ss.length c3, .slice a4 P.ls.length c4, .int .i64 P.top, .int .i64 P.brake, .int .i64 P.margin, .int .i64 P.throw, .bool P.hard, .int .i64 0, .slice none 0 0, .slice none 0 0] 88))).heap.size := by simp
  have HPX : Hid (PBox (((w.alloc (.cells #[.slice a1 P.es.length c1, .slice a2 P.js.length c2, .slice a3 P.ss.length c3, .slice a4 P.ls.length c4, .int .i64 P.top, .int .i64 P.brake, .int .i64 P.margin, .int .i64 P.throw, .bool P.hard] 27)).alloc (.cells #[.int .i64 0, .slice none 0 0, .slice none 0 0] 31)).alloc (.cells #[.slice a1 P.es.length c1, .slice a2 P.js.length c2, .slice a3 P.ss.length c3, .slice a4 P.ls.length c4, .int .i64 P.top, .int .i64 P.brake, .int .i64 P.margin, .int .i64 P.throw, .bool P.hard, .int .i64 0, .slice none 0 0, .slice none 0 0] 88)) (w.heap.size + 1 + 1) P (.slice a1 P.es.length c1) (.slice a2 P.js.length c2) (.slice a3 P.ss.length c3) (.slice a4 P.ls.length c4)) := by
    refine ⟨z3, ?_, ?_, ?_, ?_, ?_, ?_, ?_, ?_, ?_⟩ <;> (rw [cell_of_row _ _ _ _ _ _ hb3]; rfl)
  have HBX : Hid (Bx 88 (w.heap.size + 1 + 1) 9 (((w.alloc (.cells #[.slice a1 P.es.length c1, .slice a2 P.js.length c2, .slice a3 P.ss.length c3, .slice a4 P.ls.length c4, .int .i64 P.top, .int .i64 P.brake, .int .i64 P.margin, .int .i64 P.throw, .bool P.hard] 27)).alloc (.cells #[.int .i64 0, .slice none 0 0, .slice none 0 0] 31)).alloc (.cells #[.slice a1 P.es.length c1, .slice a2 P.js.length c2, .slice a3 P.ss.length c3, .slice a4 P.ls.length c4, .int .i64 P.top, .int .i64 P.brake, .int .i64 P.margin, .int .i64 P.throw, .bool P.hard, .int .i64 0, .slice none 0 0, .slice none 0 0] 88)) 0 (.slice none 0 0) (.slice none 0 0)) := by
    refine ⟨⟨_, hb3⟩, ?_, ?_, ?_⟩ <;> (rw [cell_of_row _ _ _ _ _ _ hb3]; rfl)
  have HVB := Lib.hid (fun (w1 : World) (g1 : Gr (((w.alloc (.cells #[.slice a1 P.es.length c1, .slice a2 P.js.length c2, .slice a3 P.ss.length c3, .slice a4 P.ls.length c4, .int .i64 P.top, .int .i64 P.brake, .int .i64 P.margin, .int .i64 P.throw, .bool P.hard] 27)).alloc (.cells #[.int .i64 0, .slice none 0 0, .slice none 0 0] 31)).alloc (.cells #[.slice a1 P.es.length c1, .slice a2 P.js.length c2, .slice a3 P.ss.length c3, .slice a4 P.ls.length c4, .int .i64 P.top, .int .i64 P.brake, .int .i64 P.margin, .int .i64 P.throw, .bool P.hard, .int .i64 0, .slice none 0 0, .slice none 0 0] 88)) w1) (a : Option Addr) (n c : Nat) (h : IsVals w1 (.slice a n c) ((lnB s).map Value.string)) => vals_blk (b := w.heap.size + 1 + 1) ((g1.block _ z3).trans hb3) (by intro x hx; simp at hx) (by omega) (by have := g1.size; omega) h)
  generalize hX : lnB s = X at *
  generalize parD P s = R at HPB HPG HPN ⊢
  clear hX hbd hb3
  go_enter Tryz.func20, Tryz.ntmps20
  go_wp2_with fail
  go_step3
  go_wp2_with (first | (go_at_call 51; (with_reducible refine (HLI.out).mono ?_); rintro e w1 ⟨lv, rfl, hlv, g1⟩; have hlv2 := Lib.hid hlv; obtain ⟨la, lc, rfl, hlm, -⟩ := hlv; rw [List.length_map] at hlv2 hlm; rw [List.length_map]; unfold maxLen at hlm) | fail)
  obtain ⟨kb, hkb1, hkb2, HKV0⟩ := HVB.out w1 g1 la X.length lc hlv2.out
  have HKV := Lib.hid HKV0
  have hk0 : ∃ h0, w1.heap[kb]? = h0 := ⟨_, rfl⟩
  obtain ⟨h0, hh0⟩ := hk0
  have G21 := G23.trans g1
  have HKB1 : Hid (KB (w.heap.size + 1 + 1) P (.slice a1 P.es.length c1) (.slice a2 P.js.length c2) (.slice a3 P.ss.length c3) (.slice a4 P.ls.length c4) kb h0 w1) := ⟨HPX.out.gr g1, hh0, hkb1⟩
  have HRD1 : Hid (Rd 88 (w.heap.size + 1 + 1) 9 w1.heap.size w1 dgm0) := ⟨_, _, HBX.out.gr g1, Dt.nil (Nat.lt_of_lt_of_le z3 g1.size) (Nat.le_refl _)⟩
  rw [hh0] at HKV
  clear HKV0 hlv2 HVB HPX HBX hh0 z3
  go_step3
  go_wp2_with fail
  go_loopw [9, 10, 11, 12, 26] (fun at_ e _ _ x wr => ∃ (k : Nat) (D : Dgm), at_ = .int .i64 X.length ∧ e = .int .i64 0 ∧ x = .int .i64 k ∧ k ≤ X.length ∧ Gr ((w.alloc (.cells #[.slice a1 P.es.length c1, .slice a2 P.js.length c2, .slice a3 P.ss.length c3, .slice a4 P.ls.length c4, .int .i64 P.top, .int .i64 P.brake, .int .i64 P.margin, .int .i64 P.throw, .bool P.hard] 27)).alloc (.cells #[.int .i64 0, .slice none 0 0, .slice none 0 0] 31)) wr ∧ KB (w.heap.size + 1 + 1) P (.slice a1 P.es.length c1) (.slice a2 P.js.length c2) (.slice a3 P.ss.length c3) (.slice a4 P.ls.length c4) kb h0 wr ∧ Rd 88 (w.heap.size + 1 + 1) 9 w1.heap.size wr D ∧ SzD k D ∧ Hid (prgD P (X.take k) 0 dgm0 = .inr D)) (fun _ _ _ _ x _ => X.length - (intOf x).toNat)
  case atStart => exact ⟨0, dgm0, rfl, rfl, rfl, Nat.zero_le _, G21, HKB1.out, HRD1.out, SzD.zero, rfl⟩
  case round =>
    obtain ⟨k, D, rfl, rfl, rfl, hk, g2, hkk, hrd, hsz, HG⟩ := hrel
    have gw := G02.trans g2
    have hwz : w.heap.size ≤ w.heap.size + 1 := by omega
    by_cases hlt : k < X.length
    · have hk1 : (k : Int) < (X.length : Int) := by omega
      obtain ⟨bb, o, hs2, z, y0⟩ := vals_at (HKV.out wr hkk.2.1 hkk.2.2) k hlt
      subst hs2
      have hxs := HBD.out _ (List.getElem_mem hlt)
      have HLN := Lib.hid (rdLine_any (w.heap.size + 1 + 1) w1.heap.size kb h0 X[k] (decide (k = 0)) P a1 a2 a3 a4 c1 c2 c3 c4 k D ((w.alloc (.cells #[.slice a1 P.es.length c1, .slice a2 P.js.length c2, .slice a3 P.ss.length c3, .slice a4 P.ls.length c4, .int .i64 P.top, .int .i64 P.brake, .int .i64 P.margin, .int .i64 P.throw, .bool P.hard] 27)).alloc (.cells #[.int .i64 0, .slice none 0 0, .slice none 0 0] 31)) wr (shp_gr ht gw) (HPI.out.gr G02) (by rw [zz2]; exact Nat.le_refl _) g2 hkk hkb1 hkb2 hrd (by omega) hsz (by omega))
      have HBa := Lib.hid (fun e h => HPB.out k D e hlt HG.out h)
      have HNx := Lib.hid (fun D' (h : lineD P D (decide (k = 0)) X[k] = .inr D') => prgD_next hlt HG.out h)
      have HSn := Lib.hid (fun D' (h : lineD P D (decide (k = 0)) X[k] = .inr D') => lineD_sz h hsz (words_sz (by omega)))
      have HEr := Lib.hid (fun e (h : lineD P D (decide (k = 0)) X[k] = .inl e) => lineD_err h)
      have tk : ((k : Int) == 0) = decide (k = 0) := by
        by_cases h0 : k = 0
        · subst h0; rfl
        · rw [decide_eq_false h0]; exact beqF (by omega)
      clear HG hkk hrd hsz hxs HBD
      generalize lineD P D (decide (k = 0)) X[k] = q at HLN HBa HNx HSn HEr
      generalize X[k] = x at y0 HLN
      generalize decide (k = 0) = f at tk HLN
      cases q with
      | inl e =>
        have HL1 : Hid (Calls Tryz.prog 52 #[.pointer (some ⟨w.heap.size + 1 + 1, 0, none⟩), .string x, .bool f] wr fun e' w'' => e' = .returned (.int .i64 e) ∧ Gr ((w.alloc (.cells #[.slice a1 P.es.length c1, .slice a2 P.js.length c2, .slice a3 P.ss.length c3, .slice a4 P.ls.length c4, .int .i64 P.top, .int .i64 P.brake, .int .i64 P.margin, .int .i64 P.throw, .bool P.hard] 27)).alloc (.cells #[.int .i64 0, .slice none 0 0, .slice none 0 0] 31)) w'') := HLN.out
        have HR := Lib.hid (HBa.out e rfl)
        have te : (e != 0) = true := bneT (HEr.out e rfl)
        have te2 : (e == 0) = false := beqF (HEr.out e rfl)
        clear HLN HBa HNx HSn HEr
        go_wp2_with (first | (go_at_call 52; (with_reducible refine (HL1.out).mono ?_); rintro e' w3 ⟨rfl, g3⟩; obtain ⟨z4, k0, k1, k2, f0, f1, f2⟩ := HDX.out _ g3) | fail)
        try rw [Exit.noGoto_ret]
        (refine bodyPost_ret (v := .tuple #[.agg #[.int .i64 0, .slice none 0 0, .slice none 0 0], .int .i64 ((k : Int) + 1), .int .i64 e]) (by simp [results, Tryz.results20, go_sem, z4, k0, k1, k2, f0, f1, f2]) rfl ?_)
        first | exact RetPd.no HR.out ((((G02.trans g3).setCell hwz _).setCell hwz _).setCell hwz _) | exact RetPd.no HR.out (G02.trans g3)
      | inr D' =>
        have HL1 : Hid (Calls Tryz.prog 52 #[.pointer (some ⟨w.heap.size + 1 + 1, 0, none⟩), .string x, .bool f] wr fun e' w'' => e' = .returned (.int .i64 0) ∧ Gr ((w.alloc (.cells #[.slice a1 P.es.length c1, .slice a2 P.js.length c2, .slice a3 P.ss.length c3, .slice a4 P.ls.length c4, .int .i64 P.top, .int .i64 P.brake, .int .i64 P.margin, .int .i64 P.throw, .bool P.hard] 27)).alloc (.cells #[.int .i64 0, .slice none 0 0, .slice none 0 0] 31)) w'' ∧ KB (w.heap.size + 1 + 1) P (.slice a1 P.es.length c1) (.slice a2 P.js.length c2) (.slice a3 P.ss.length c3) (.slice a4 P.ls.length c4) kb h0 w'' ∧ Rd 88 (w.heap.size + 1 + 1) 9 w1.heap.size w'' D') := HLN.out
        have HG2 := Lib.hid (HNx.out D' rfl)
        have HS2 := Lib.hid (HSn.out D' rfl)
        clear HLN HBa HNx HSn HEr
        go_wp2_with (first | (go_at_call 52; (with_reducible refine (HL1.out).mono ?_); rintro e' w3 ⟨rfl, g3, h4, k4⟩; have H4 := Lib.hid h4; have K4 := Lib.hid k4; clear h4 k4) | fail)
        go_roundw
        case rel => exact ⟨k + 1, D', rfl, rfl, by go_num, hlt, g3, H4.out, K4.out, HS2.out, HG2⟩
        case measure => simp [intOf]; omega
    · have hk1 : ¬ (k : Int) < (X.length : Int) := by omega
      have hg := HG.out
      rw [List.take_of_length_le (show X.length ≤ k by omega)] at hg
      obtain ⟨z4, k0, k1, k2, f0, f1, f2⟩ := HDX.out _ g2
      clear HG
      by_cases hX : X.length = 0
      · have hXn : X = [] := List.length_eq_zero_iff.1 hX
        have HR : Hid (R = (dgm0, (X.length : Int), 2)) := by
          show _ = _
          rw [HPN.out hXn, hX]; rfl
        have tX : ((X.length : Int) == 0) = true := beqT (by omega)
        clear hX hXn hg hkk hrd hsz
        go_wp2_with fail
        try rw [Exit.noGoto_ret]
        (refine bodyPost_ret (v := .tuple #[.agg #[.int .i64 0, .slice none 0 0, .slice none 0 0], .int .i64 X.length, .int .i64 2]) (by simp [results, Tryz.results20, go_sem, z4, k0, k1, k2, f0, f1, f2]) rfl ?_)
        first | exact RetPd.no HR.out (((gw.setCell hwz _).setCell hwz _).setCell hwz _) | exact RetPd.no HR.out gw
      have tX : ((X.length : Int) == 0) = false := beqF (by omega)
      have HR0 := HPG.out D hg (fun e => hX (by rw [e]; rfl))
      obtain ⟨sv, rv, hbx, hdt⟩ := hrd
      have HDT := Lib.hid hdt
      have hs1 : D.st.length ≤ maxLen := by have := hsz.1; unfold maxLen; omega
      have hs2 : D.runs.length ≤ maxLen := by have := hsz.2.1; unfold maxLen; omega
      have hdg := hdt.dgm hs1 hs2
      have HCK := Lib.hid (fun (w' : World) (g : Gr wr w') => dgCheck_any _ _ P D w' (HPI.out.gr (gw.trans g)) (hdg.gr g) hsz.2.2.2 (fun r hr => (hsz.2.2.1 r hr).2))
      obtain ⟨A, M, q1, q2, -⟩ := hdt.2
      obtain ⟨sa, sc, rfl⟩ := own_form q1
      obtain ⟨ra, rc, rfl⟩ := own_form q2
      obtain ⟨zp, p0, p1, p2, p3, p4, p5, p6, p7, p8⟩ := HB.out _ g2
      have zb := hbx.lt
      obtain ⟨-, d0, d1, d2⟩ := hbx
      have HS1 := Lib.hid hs1
      have HS2 := Lib.hid hs2
      have hw1 : w.heap.size + 1 < w1.heap.size := by have := HDT.out.1; omega
      clear hdg q1 q2 hdt hsz hkk hg hX hs1 hs2
      go_upto_region 16 with fail
      have hcb := fun (i : GrW wr) (o : Nat) => GrW.cell zb i o
      have hcp := fun (i : GrW wr) (o : Nat) => GrW.cell zp i o
      (refine wp_region_gr (by kernel_rfl) (by kernel_rfl) ?_; (repeat (go_big_quiet_step ((first | (go_at_call 13; exact Calls.gr_of (HCK.out _ (GrW.gr _))))))); refine wpQuiet_nil ?_; intro wz hz; obtain ⟨iz, hz⟩ := hz; obtain ⟨wn, gn⟩ := iz; dsimp only at hz; obtain rfl := hz.symm)
      clear hcb hcp
      have gwn := gw.trans gn
      obtain ⟨z4, k0, k1, k2, f0, f1, f2⟩ := HDX.out _ (g2.trans gn)
      replace d0 := (gn.cell _ _ zb).trans d0
      replace d1 := (gn.cell _ _ zb).trans d1
      replace d2 := (gn.cell _ _ zb).trans d2
      have zbn := Nat.lt_of_lt_of_le zb gn.size
      clear p0 p1 p2 p3 p4 p5 p6 p7 p8 HCK
      by_cases hE : chkD P D = 0
      · rw [if_pos hE] at HR0
        have HR := Lib.hid HR0
        have tE : (chkD P D != 0) = false := bneF hE
        clear HR0
        rw [hE]
        go_wp2_with fail
        try rw [Exit.noGoto_ret]
        (refine bodyPost_ret (v := .tuple #[.agg #[.int .i64 D.beg, .slice sa D.st.length sc, .slice ra A.length rc], .int .i64 X.length, .int .i64 0]) (by simp [results, Tryz.results20, go_sem, z4, k0, k1, k2, f0, f1, f2]) rfl ?_)
        exact RetPd.yes HR.out (((((HDT.out.gr gn).setc _ hw1 _).setc _ hw1 _).setc _ hw1 _).dgm HS1.out HS2.out) (((gwn.setCell hwz _).setCell hwz _).setCell hwz _)
      · rw [if_neg hE] at HR0
        have HR := Lib.hid HR0
        clear HR0
        generalize chkD P D = E at *
        have tE : (E != 0) = true := bneT hE
        clear hE
        go_wp2_with fail
        try rw [Exit.noGoto_ret]
        (refine bodyPost_ret (v := .tuple #[.agg #[.int .i64 0, .slice none 0 0, .slice none 0 0], .int .i64 X.length, .int .i64 E]) (by simp [results, Tryz.results20, go_sem, z4, k0, k1, k2, f0, f1, f2]) rfl ?_)
        first | exact RetPd.no HR.out (((gwn.setCell hwz _).setCell hwz _).setCell hwz _) | exact RetPd.no HR.out gwn
end Go.Proofs.YtgjnlgcdpbilfaaGreatDoor
namespace Go.Proofs.YtgjnlgcdpbilfaaGreatDoor
open Go.ChangeShapes Go.WideShapes Go.ChangeAt Go.RowKit Go.Maps
set_option linter.unusedVariables false
set_option linter.unusedSimpArgs false
theorem jnW_one (b : ByteArray) : jnW [b] = b := by
  show (⟨(Lib.join [b.data.toList] [32]).toArray⟩ : ByteArray) = b
  rw [Lib.join_one]
theorem jnW_size : ∀ (L : List ByteArray), (∀ x ∈ L, x.size ≤ 8) → (jnW L).size ≤ 9 * L.length
  | [], _ => by decide
  | [b], h => by
    have := h b (by simp)
    rw [jnW_one]
    simp only [List.length_cons, List.length_nil]
    omega
  | b :: a :: t, h => by
    have h0 := h b (by simp)
    have ih := jnW_size (a :: t) fun x hx => h x (List.mem_cons_of_mem _ hx)
    have h1 : (⟨#[32]⟩ : ByteArray).size = 1 := rfl
    rw [jnW_cons]
    simp only [size_app, h1, List.length_cons] at ih ⊢
    omega
theorem unl_append : ∀ (A B : List ByteArray), unl (A ++ B) = unl A ++ unl B
  | [], B => by
    show unl B = (⟨#[]⟩ : ByteArray) ++ unl B
    apply ByteArray.ext; simp [ByteArray.data_append]
  | x :: t, B => by
    show x ++ ⟨#[10]⟩ ++ unl (t ++ B) = x ++ ⟨#[10]⟩ ++ unl t ++ unl B
    rw [unl_append t B]
    apply ByteArray.ext; simp [ByteArray.data_append]
theorem unl_snoc (A : List ByteArray) (x : ByteArray) : unl (A ++ [x]) = unl A ++ (x ++ ⟨#[10]⟩) := by
  rw [unl_append]
  congr 1
  show x ++ ⟨#[10]⟩ ++ ⟨#[]⟩ = x ++ ⟨#[10]⟩
  apply ByteArray.ext; simp [ByteArray.data_append]
theorem unl_size : ∀ (L : List ByteArray) (m : Nat), (∀ x ∈ L, x.size ≤ m) → (unl L).size ≤ (m + 1) * L.length
  | [], m, _ => by show (0 : Nat) ≤ _; omega
  | x :: t, m, h => by
    have h0 := h x (by simp)
    have ih := unl_size t m fun y hy => h y (List.mem_cons_of_mem _ hy)
    have h1 : (⟨#[10]⟩ : ByteArray).size = 1 := rfl
    unfold unl
    simp only [size_app, h1, List.length_cons]
    rw [Nat.mul_add]
    omega
theorem verb_size (e : Int) : (verbW e).size ≤ 8 := by
  unfold verbW
  split
  · decide
  split <;> decide
theorem wordsL_size {P : Pln} {beg : Int} {l : Leg} (hp : chk P = 0) (h : legTo P l = true) : (jnW (wordsL P beg l)).size ≤ 36 := by
  obtain ⟨-, hn, -⟩ := leg_to hp h
  have h1 := nm_size hn
  have h2 := clkT_size ((beg + l.at_) % 86400)
  have h3 := verb_size l.en
  have hl : (wordsL P beg l).length ≤ 4 := by unfold wordsL; cases l.turn <;> simp
  refine Nat.le_trans (jnW_size _ fun x hx => ?_) (by omega)
  unfold wordsL at hx
  rw [List.mem_append] at hx
  rcases hx with hx | hx
  · cases ht : l.turn
    · rw [ht] at hx; simp at hx
    · rw [ht] at hx
      have : x = bTurn := by simpa using hx
      subst this; decide
  · simp only [List.mem_cons, List.not_mem_nil, or_false] at hx
    rcases hx with rfl | rfl | rfl <;> omega
theorem wordsR_size {P : Pln} {D : Dgm} {r : Rn} (hp : chk P = 0) (hs : checkS P.top P.brake D.st = 0) (h : runB P D.st.length r = true) : (jnW (wordsR P D r)).size ≤ 45 := by
  obtain ⟨h1, h2, h3, h4, -⟩ := run_parts h
  obtain ⟨n1, n2, n3, n4⟩ := fine_names hp
  obtain ⟨-, hm, -⟩ := plain_ok (check_plain hs)
  refine jnW_size _ fun x hx => ?_
  simp only [wordsR, List.mem_cons, List.not_mem_nil, or_false] at hx
  rcases hx with rfl | rfl | rfl | rfl | rfl
  · decide
  · exact nm_size h1
  · rw [getD_at _ _ (by omega)]
    exact nm_size (mayS_parts (hm _ (List.getElem_mem _))).1
  · rw [getD_at _ _ (by omega)]
    exact nm_size (n3 _ (List.getElem_mem _))
  · have := dgs4_size (n := r.lf) h4.1 (by omega)
    omega
theorem rowsD_size {P : Pln} {D : Dgm} (hp : chk P = 0) (h : chkD P D = 0) : ∀ x ∈ rowsD P D, x.size ≤ 45 := by
  obtain ⟨h1, h2, h3, h4, h5, h6⟩ := chkD_ok h
  obtain ⟨-, hm, -⟩ := plain_ok (check_plain h3)
  intro x hx
  unfold rowsD at hx
  rw [List.mem_cons, List.mem_append] at hx
  rcases hx with rfl | hx | hx
  · have := clkT_size D.beg
    have := jnW_size [bDay, clkT D.beg] (fun x hx => by
      simp only [List.mem_cons, List.not_mem_nil, or_false] at hx
      rcases hx with rfl | rfl
      · decide
      · omega)
    simp only [List.length_cons, List.length_nil] at this
    omega
  · obtain ⟨s, hs, rfl⟩ := List.mem_map.1 hx
    have := lineS_size (hm s hs)
    omega
  · obtain ⟨r, hr, hx⟩ := List.mem_flatMap.1 hx
    unfold rowsR at hx
    rcases List.mem_cons.1 hx with rfl | hx
    · exact wordsR_size hp h3 (h5 r hr)
    · obtain ⟨l, hl, rfl⟩ := List.mem_map.1 hx
      have h7 := legs_parts (Int.le_refl 0) (run_parts (h5 r hr)).2.2.2.2 l hl
      have := wordsL_size (beg := D.beg) hp h7.1
      omega
theorem flat_rows {P : Pln} {D : Dgm} : ∀ (R : List Rn), (∀ r ∈ R, r.legs.length ≤ 12) → (R.flatMap (rowsR P D)).length ≤ 13 * R.length
  | [], _ => by simp
  | r :: t, h => by
    have h0 := h r (by simp)
    have ih := flat_rows (P := P) (D := D) t fun x hx => h x (List.mem_cons_of_mem _ hx)
    rw [List.flatMap_cons, List.length_append]
    have e : (rowsR P D r).length = r.legs.length + 1 := by unfold rowsR; simp
    rw [e, List.length_cons]
    omega
theorem rowsD_len {P : Pln} {D : Dgm} (h : chkD P D = 0) : (rowsD P D).length ≤ 109 := by
  obtain ⟨h1, h2, h3, h4, h5, h6⟩ := chkD_ok h
  obtain ⟨h0, -, -⟩ := plain_ok (check_plain h3)
  have := flat_rows (P := P) (D := D) D.runs h2
  unfold rowsD
  rw [List.length_cons, List.length_append, List.length_map]
  omega
theorem printD_size {P : Pln} {D : Dgm} (hp : chk P = 0) (h : chkD P D = 0) : (printD P D).size ≤ 6000 := by
  have h1 := unl_size _ 45 (rowsD_size hp h)
  have h2 := rowsD_len (P := P) h
  unfold printD
  omega
theorem pre_size {A B : List ByteArray} : (unl A).size ≤ (unl (A ++ B)).size := by
  rw [unl_append, size_app]; omega
def preR (P : Pln) (D : Dgm) (k : Nat) : List ByteArray := jnW [bDay, clkT D.beg] :: (D.st.map lineS ++ (D.runs.take k).flatMap (rowsR P D))
def preL (P : Pln) (D : Dgm) (k j : Nat) (r : Rn) : List ByteArray := preR P D k ++ jnW (wordsR P D r) :: (r.legs.take j).map fun l => jnW (wordsL P D.beg l)
theorem preR_start (P : Pln) (D : Dgm) : preR P D 0 = jnW [bDay, clkT D.beg] :: D.st.map lineS := by unfold preR; simp
theorem preR_done {P : Pln} {D : Dgm} {k : Nat} (h : D.runs.length ≤ k) : preR P D k = rowsD P D := by unfold preR rowsD; rw [List.take_of_length_le h]
theorem preL_start (P : Pln) (D : Dgm) (k : Nat) (r : Rn) : preL P D k 0 r = preR P D k ++ [jnW (wordsR P D r)] := by unfold preL; simp
theorem preL_next {P : Pln} {D : Dgm} {k j : Nat} {r : Rn} (hj : j < r.legs.length) : preL P D k (j + 1) r = preL P D k j r ++ [jnW (wordsL P D.beg r.legs[j])] := by
  unfold preL
  rw [List.take_succ_eq_append_getElem hj, List.map_append]
  simp
theorem preL_done {P : Pln} {D : Dgm} {k j : Nat} (hk : k < D.runs.length) (hj : D.runs[k].legs.length ≤ j) : preL P D k j D.runs[k] = preR P D (k + 1) := by
  unfold preL preR
  rw [List.take_of_length_le hj, List.take_succ_eq_append_getElem hk, List.flatMap_append]
  simp [rowsR]
theorem preR_pre {P : Pln} {D : Dgm} (k : Nat) : (unl (preR P D k)).size ≤ (printD P D).size := by
  have e : rowsD P D = preR P D k ++ (D.runs.drop k).flatMap (rowsR P D) := by
    unfold preR rowsD
    have : D.runs.flatMap (rowsR P D) = (D.runs.take k).flatMap (rowsR P D) ++ (D.runs.drop k).flatMap (rowsR P D) := by
      rw [← List.flatMap_append, List.take_append_drop]
    rw [this]; simp
  unfold printD
  rw [e]; exact pre_size
theorem preL_pre {P : Pln} {D : Dgm} {k : Nat} (hk : k < D.runs.length) (j : Nat) : (unl (preL P D k j D.runs[k])).size ≤ (printD P D).size := by
  have e : preR P D (k + 1) = preL P D k j D.runs[k] ++ (D.runs[k].legs.drop j).map (fun l => jnW (wordsL P D.beg l)) := by
    rw [← preL_done hk (Nat.le_refl _)]
    unfold preL
    have : D.runs[k].legs.take D.runs[k].legs.length = D.runs[k].legs.take j ++ D.runs[k].legs.drop j := by rw [List.take_length, List.take_append_drop]
    rw [this, List.map_append]; simp
  refine Nat.le_trans ?_ (preR_pre (P := P) (D := D) (k + 1))
  rw [e]; exact pre_size
theorem printS_rows (L : List Stk) : printS L = unl (L.map lineS) := printS_unl L
end Go.Proofs.YtgjnlgcdpbilfaaGreatDoor
