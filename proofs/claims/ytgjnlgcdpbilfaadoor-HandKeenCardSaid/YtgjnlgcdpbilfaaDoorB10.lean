/- Net5: walk.Step.
Bod: bodies; body.Head.
Ref1: the reference's passes and Lies.
Ref2: the plain tie between the net's element and the reference's kind.
SeeP: How far a head sees: plain.
FinP: What a fine plan is: plain. The small plan is one.
See: hand.Sees.
PacB: Pace: a stock in a box.
Pac4: Pace: the greatest speed that keeps within a room.
PacQ: Pace: the plain laws. No program. -/
import Derived.Test.YtgjnlgcdpbilfaaDoorRows
import Derived.Test.YtgjnlgcdpbilfaaDoorB9
import Derived.Test.YtgjnlgcdpbilfaaDoorB2
import Derived.Deep.Cut
import Derived.Deep.DrawnRows
import Derived.Test.YtgjnlgcdpbilfaaDoorB6
import Derived.Deep.RegionHeld3
import Derived.Test.YtgjnlgcdpbilfaaDoorB1
namespace Go.Proofs.YtgjnlgcdpbilfaaDoor
open Go.ChangeShapes Go.WideShapes Go.ChangeAt Go.RowKit Go.Maps
set_option linter.unusedVariables false
set_option linter.unusedSimpArgs false
def stepP (P : Pln) (pos : List Int) (x : Prt) : Prt × Int :=
  match nextL P.js x with
  | none => (⟨0, 0⟩, 3)
  | some y => if (eleAt P y.e).k = 4 then (⟨0, 0⟩, 2) else match throughL (outsK (eleAt P y.e).k y.x) (liesP pos y.e) with
    | none => (⟨0, 0⟩, 4)
    | some o => (⟨y.e, o⟩, 0)
def stpR (r : Prt × Int) : Value := .tuple #[r.1.v, .int .i64 r.2]
set_option maxRecDepth 100000 in
set_option maxHeartbeats 2000000 in
theorem step_any (b : Nat) (P : Pln) (v : Value) (pos : List Int) (x : Prt) (w : World) (hN : NetIs w b P) (hv : IsVals w v (pos.map (Value.int .i64))) (hx : PrtOk x) :
    Calls Tryd.prog 25 #[.pointer (some ⟨b, 0, none⟩), v, x.v] w fun e w' => e = .returned (stpR (stepP P pos x)) ∧ Gr w w' := by
  have HNX := Lib.hid (fun (w' : World) (g : Gr w w') => netNext_any b P x w' (hN.gr g) hx)
  have HKI := Lib.hid (fun (w' : World) (g : Gr w w') (m : Int) => netKind_any b P m w' (hN.gr g))
  have HTH := Lib.hid (fun (w' : World) (g : Gr w w') (m i q : Int) => netThrough_any b P m i q w' (hN.gr g))
  have HLI := Lib.hid (fun (w' : World) (g : Gr w w') (i : Int) => lies_any v pos i w' (hv.gr g))
  have HS : Hid (stepP P pos x = match nextL P.js x with
    | none => ((⟨0, 0⟩ : Prt), (3 : Int))
    | some y => if (eleAt P y.e).k = 4 then (⟨0, 0⟩, 2) else match throughL (outsK (eleAt P y.e).k y.x) (liesP pos y.e) with
      | none => (⟨0, 0⟩, 4)
      | some o => (⟨y.e, o⟩, 0)) := rfl
  generalize stepP P pos x = R at HS ⊢
  have g0 : Gr w ((w.alloc (.cells #[.int .i64 x.e, .int .i64 x.x] 50)).alloc (.cells #[.int .i64 0, .int .i64 0] 50)) := ((Gr.refl _).alloc _).alloc _
  have HR0 : Hid (∀ w1, Gr ((w.alloc (.cells #[.int .i64 x.e, .int .i64 x.x] 50)).alloc (.cells #[.int .i64 0, .int .i64 0] 50)) w1 → w.heap.size + 1 < w1.heap.size ∧ w1.cell? ⟨w.heap.size + 1, 0, none⟩ = some (.int .i64 0) ∧ w1.cell? ⟨w.heap.size + 1, 1, none⟩ = some (.int .i64 0) ∧ w1.frozen? ⟨w.heap.size + 1, 0, none⟩ = false ∧ w1.frozen? ⟨w.heap.size + 1, 1, none⟩ = false) := by
    intro w1 g
    have hz : w.heap.size + 1 < ((w.alloc (.cells #[.int .i64 x.e, .int .i64 x.x] 50)).alloc (.cells #[.int .i64 0, .int .i64 0] 50)).heap.size := by simp
    exact ⟨Nat.lt_of_lt_of_le hz g.size, (g.cell _ _ hz).trans (by simp), (g.cell _ _ hz).trans (by simp), (g.frozen _ _ hz).trans (by simp), (g.frozen _ _ hz).trans (by simp)⟩
  cases hnx : nextL P.js x with
  | none =>
    have HN1 : Hid (∀ w', Gr w w' → Calls Tryd.prog 46 #[.pointer (some ⟨b, 0, none⟩), x.v] w' fun e w'' => e = .returned (.tuple #[.agg #[.int .i64 0, .int .i64 0], .bool false]) ∧ Gr w' w'') := fun w' g => by
      have := HNX.out w' g
      rw [hnx] at this
      exact this
    rw [hnx] at HS
    obtain ⟨xe, xx⟩ := x
    unfold Prt.v at HN1 ⊢
    dsimp only at HS HN1 g0 HR0
    go_enter Tryd.func25, Tryd.ntmps25
    go_wp2_with (first | (go_at_call 46; (with_reducible refine (HN1.out _ g0).mono ?_); rintro e w1 ⟨rfl, g1⟩; obtain ⟨hz1, r0, r1, f0, f1⟩ := HR0.out _ g1) | fail)
    have hb : w.heap.size ≤ w.heap.size + 1 := by omega
    refine bodyPost_ret (v := .tuple #[.agg #[.int .i64 0, .int .i64 0], .int .i64 3]) (by simp [results, Tryd.results25, go_sem, r0, r1, f0, f1, hz1]) rfl ⟨by rw [HS.out]; rfl, (((g0.trans g1).setCell hb _).setCell hb _).alloc _⟩
  | some y =>
    obtain ⟨ye, yx⟩ := y
    have HN1 : Hid (∀ w', Gr w w' → Calls Tryd.prog 46 #[.pointer (some ⟨b, 0, none⟩), x.v] w' fun e w'' => e = .returned (.tuple #[.agg #[.int .i64 ye, .int .i64 yx], .bool true]) ∧ Gr w' w'') := fun w' g => by
      have := HNX.out w' g
      rw [hnx] at this
      exact this
    rw [hnx] at HS
    dsimp only at HS
    have HKI1 := Lib.hid (fun (w' : World) (g : Gr w w') => HKI.out w' g ye)
    have HTH1 := Lib.hid (fun (w' : World) (g : Gr w w') => HTH.out w' g ye yx (liesP pos ye))
    have HLI1 : Hid (∀ w', Gr w w' → Calls Tryd.prog 49 #[v, .int .i64 ye] w' fun e w'' => e = .returned (.int .i64 (liesP pos ye)) ∧ Gr w' w'') := fun w' g => (HLI.out w' g ye).mono fun e w'' h => ⟨h.1, by rw [h.2]; exact Gr.refl _⟩
    generalize liesP pos ye = lp at HS HTH1 HLI1
    generalize (eleAt P ye).k = K at HS HKI1 HTH1
    obtain ⟨xe, xx⟩ := x
    unfold Prt.v at HN1 ⊢
    dsimp only at HN1 g0 HR0
    have hb : w.heap.size ≤ w.heap.size + 1 := by omega
    by_cases h4 : K = 4
    · rw [if_pos h4] at HS
      subst h4
      go_enter Tryd.func25, Tryd.ntmps25
      go_wp2_with (first | (go_at_call 46; (with_reducible refine (HN1.out _ g0).mono ?_); rintro e w1 ⟨rfl, g1⟩; have gw1 := g0.trans g1) | (go_at_call 47; (with_reducible refine (HKI1.out _ (gw1.alloc _)).mono ?_); rintro e w2 ⟨rfl, g2⟩; obtain ⟨hz1, r0, r1, f0, f1⟩ := HR0.out _ ((g1.alloc _).trans g2)) | fail)
      refine bodyPost_ret (v := .tuple #[.agg #[.int .i64 0, .int .i64 0], .int .i64 2]) (by simp [results, Tryd.results25, go_sem, r0, r1, f0, f1, hz1]) rfl ⟨by rw [HS.out]; rfl, (((gw1.alloc _).trans g2).setCell hb _).setCell hb _⟩
    · rw [if_neg h4] at HS
      have t4 : (K == 4) = false := by simpa using h4
      clear h4
      cases ht : throughL (outsK K yx) lp with
      | none =>
        have HT1 : Hid (∀ w', Gr w w' → Calls Tryd.prog 48 #[.pointer (some ⟨b, 0, none⟩), .int .i64 ye, .int .i64 yx, .int .i64 lp] w' fun e w'' => e = .returned (.tuple #[.int .i64 0, .bool false]) ∧ Gr w' w'') := fun w' g => by
          have := HTH1.out w' g
          rw [ht] at this
          exact this
        rw [ht] at HS
        dsimp only at HS
        go_enter Tryd.func25, Tryd.ntmps25
        go_upto_region 6 with (first | (go_at_call 46; (with_reducible refine (HN1.out _ g0).mono ?_); rintro e w1 ⟨rfl, g1⟩; have gw1 := g0.trans g1) | (go_at_call 47; (with_reducible refine (HKI1.out _ (gw1.alloc _)).mono ?_); rintro e w2 ⟨rfl, g2⟩; have gw2 := (gw1.alloc _).trans g2; have HR2 := Lib.hid (fun w3 (g3 : Gr w2 w3) => HR0.out _ (((g1.alloc _).trans g2).trans g3)); have zy : w1.heap.size < w2.heap.size := Nat.lt_of_lt_of_le (by simp) g2.size; have y0 : w2.cell? ⟨w1.heap.size, 0, none⟩ = some (.int .i64 ye) := (g2.cell w1.heap.size 0 (by simp)).trans (by rw [World.cell?_alloc_mark]; rfl); have y1 : w2.cell? ⟨w1.heap.size, 1, none⟩ = some (.int .i64 yx) := (g2.cell w1.heap.size 1 (by simp)).trans (by rw [World.cell?_alloc_mark]; rfl)) | fail)
        (have hcy := fun (i : GrW w2) (o : Nat) => GrW.cell zy i o; (refine wp_region_gr (by kernel_rfl) (by kernel_rfl) ?_; (repeat (go_big_quiet_step ((first | (go_at_call 49; exact Calls.gr_of (HLI1.out _ (gw2.trans (GrW.gr _)))) | (go_at_call 48; exact Calls.gr_of (HT1.out _ (gw2.trans (GrW.gr _)))))))); refine wpQuiet_nil ?_; intro wz hz; obtain ⟨iz, hz⟩ := hz; obtain ⟨wn, gn⟩ := iz; dsimp only at hz; obtain rfl := hz.symm))
        obtain ⟨hz1, r0, r1, f0, f1⟩ := HR2.out _ gn
        have y0 := (gn.cell _ _ zy).trans y0
        go_wp2_with fail
        refine bodyPost_ret (v := .tuple #[.agg #[.int .i64 0, .int .i64 0], .int .i64 4]) (by simp [results, Tryd.results25, go_sem, r0, r1, f0, f1, hz1]) rfl ⟨by rw [HS.out]; rfl, ((gw2.trans gn).setCell hb _).setCell hb _⟩
      | some o =>
        have HT1 : Hid (∀ w', Gr w w' → Calls Tryd.prog 48 #[.pointer (some ⟨b, 0, none⟩), .int .i64 ye, .int .i64 yx, .int .i64 lp] w' fun e w'' => e = .returned (.tuple #[.int .i64 o, .bool true]) ∧ Gr w' w'') := fun w' g => by
          have := HTH1.out w' g
          rw [ht] at this
          exact this
        rw [ht] at HS
        dsimp only at HS
        go_enter Tryd.func25, Tryd.ntmps25
        go_upto_region 6 with (first | (go_at_call 46; (with_reducible refine (HN1.out _ g0).mono ?_); rintro e w1 ⟨rfl, g1⟩; have gw1 := g0.trans g1) | (go_at_call 47; (with_reducible refine (HKI1.out _ (gw1.alloc _)).mono ?_); rintro e w2 ⟨rfl, g2⟩; have gw2 := (gw1.alloc _).trans g2; have HR2 := Lib.hid (fun w3 (g3 : Gr w2 w3) => HR0.out _ (((g1.alloc _).trans g2).trans g3)); have zy : w1.heap.size < w2.heap.size := Nat.lt_of_lt_of_le (by simp) g2.size; have y0 : w2.cell? ⟨w1.heap.size, 0, none⟩ = some (.int .i64 ye) := (g2.cell w1.heap.size 0 (by simp)).trans (by rw [World.cell?_alloc_mark]; rfl); have y1 : w2.cell? ⟨w1.heap.size, 1, none⟩ = some (.int .i64 yx) := (g2.cell w1.heap.size 1 (by simp)).trans (by rw [World.cell?_alloc_mark]; rfl)) | fail)
        (have hcy := fun (i : GrW w2) (o : Nat) => GrW.cell zy i o; (refine wp_region_gr (by kernel_rfl) (by kernel_rfl) ?_; (repeat (go_big_quiet_step ((first | (go_at_call 49; exact Calls.gr_of (HLI1.out _ (gw2.trans (GrW.gr _)))) | (go_at_call 48; exact Calls.gr_of (HT1.out _ (gw2.trans (GrW.gr _)))))))); refine wpQuiet_nil ?_; intro wz hz; obtain ⟨iz, hz⟩ := hz; obtain ⟨wn, gn⟩ := iz; dsimp only at hz; obtain rfl := hz.symm))
        obtain ⟨hz1, r0, r1, f0, f1⟩ := HR2.out _ gn
        have y0 := (gn.cell _ _ zy).trans y0
        go_wp2_with fail
        refine bodyPost_ret (v := .tuple #[.agg #[.int .i64 ye, .int .i64 o], .int .i64 0]) (by simp [results, Tryd.results25, go_sem, r0, r1, f0, f1, hz1]) rfl ⟨by rw [HS.out]; rfl, ((gw2.trans gn).setCell hb _).setCell hb _⟩
end Go.Proofs.YtgjnlgcdpbilfaaDoor
namespace Go.Proofs.YtgjnlgcdpbilfaaDoor
open Go.ChangeShapes Go.WideShapes Go.ChangeAt Go.RowKit Go.Maps
set_option linter.unusedVariables false
set_option linter.unusedSimpArgs false
structure Bdy where
  mode : Int
  trail : List Prt
  left : Int
  over : Int
  v : Int
def bdyV (B : Bdy) (t : Value) : Value := .agg #[.int .i64 B.mode, t, .int .i64 B.left, .int .i64 B.over, .int .i64 B.v]
def IsBdy (w : World) (v : Value) (B : Bdy) : Prop := ∃ a c, v = bdyV B (.slice a B.trail.length c) ∧ IsPrts w (.slice a B.trail.length c) B.trail
theorem IsBdy.gr {w w' : World} {v : Value} {B : Bdy} (h : IsBdy w v B) (g : Gr w w') : IsBdy w' v B := by
  obtain ⟨a, c, rfl, h1⟩ := h
  exact ⟨a, c, rfl, h1.gr g⟩
set_option maxRecDepth 100000 in
theorem head_any (v : Value) (B : Bdy) (w : World) (hB : IsBdy w v B) :
    Calls Tryd.prog 22 #[v] w fun e w' => e = .returned (prtR B.trail.getLast?) ∧ Gr w w' := by
  obtain ⟨a, c, rfl, h1⟩ := hB
  have hm := IsRow.len h1
  unfold maxLen at hm
  unfold bdyV
  by_cases h0 : B.trail.length = 0
  · have HR : Hid (B.trail.getLast? = none) := by rw [List.length_eq_zero_iff.1 h0]; rfl
    have t0 : (B.trail.length : Int) = 0 := by omega
    go_enter Tryd.func22, Tryd.ntmps22
    go_wp2_with fail
    refine bodyPost_ret (v := .tuple #[.agg #[.int .i64 0, .int .i64 0], .bool false]) (by simp [results, Tryd.results22, go_sem]) rfl ⟨by rw [HR.out]; rfl, ?_⟩
    first
      | exact ((Gr.refl _).alloc _).alloc _
      | exact ((((Gr.refl _).alloc _).alloc _).setCell (by show _ ≤ w.heap.size + 1; omega) _).setCell (by show _ ≤ w.heap.size + 1; omega) _
  · have t0 : ¬ (B.trail.length : Int) = 0 := by omega
    have hl : B.trail.length - 1 < B.trail.length := by omega
    obtain ⟨bb, o, hs, z, y0, y1⟩ := h1.at (B.trail.length - 1) hl
    subst hs
    have HR : Hid (B.trail.getLast? = some B.trail[B.trail.length - 1]) := by
      show _ = _
      rw [List.getLast?_eq_getElem?, List.getElem?_eq_getElem hl]
    generalize B.trail[B.trail.length - 1] = q at y0 y1 HR
    obtain ⟨qe, qx⟩ := q
    dsimp only at y0 y1
    clear h1
    go_enter Tryd.func22, Tryd.ntmps22
    go_wp2_with fail
    refine bodyPost_ret (v := .tuple #[.agg #[.int .i64 qe, .int .i64 qx], .bool true]) (by simp [results, Tryd.results22, go_sem]) rfl ⟨by rw [HR.out]; rfl, ?_⟩
    first
      | exact ((Gr.refl _).alloc _).alloc _
      | exact ((((Gr.refl _).alloc _).alloc _).setCell (by show _ ≤ w.heap.size + 1; omega) _).setCell (by show _ ≤ w.heap.size + 1; omega) _
end Go.Proofs.YtgjnlgcdpbilfaaDoor
namespace Go.Proofs.YtgjnlgcdpbilfaaDoor
open Go.ChangeShapes Go.WideShapes Go.ChangeAt Go.RowKit Go.Maps
set_option linter.unusedVariables false
set_option linter.unusedSimpArgs false
def passP (L : List Int) (k : Nat) : Bool := if h : k < L.length then decide (L[k] = 1 ∨ L[k] = 2) else false
end Go.Proofs.YtgjnlgcdpbilfaaDoor
namespace Go.Proofs.YtgjnlgcdpbilfaaDoor
open Go.ChangeShapes Go.WideShapes Go.ChangeAt Go.RowKit Go.Maps
set_option linter.unusedVariables false
end Go.Proofs.YtgjnlgcdpbilfaaDoor
namespace Go.Proofs.YtgjnlgcdpbilfaaDoor
open Go.ChangeShapes Go.WideShapes Go.ChangeAt Go.RowKit Go.Maps
set_option linter.unusedVariables false
def stopsB (P : Pln) (L : List Int) (h : Prt) : Bool := match readsL P.ss h with | none => false | some i => !passP L i
def seesL (P : Pln) (pos L : List Int) : Nat → Prt → Int → Int
  | 0, _, _ => 4000
  | n + 1, h, left => if 4000 ≤ left then 4000 else if stopsB P L h then left else
      if (stepP P pos h).2 = 0 then seesL P pos L n (stepP P pos h).1 (left + max (eleAt P (stepP P pos h).1.e).l 1)
      else if (stepP P pos h).2 = 2 then 4000 else left
def seesP (P : Pln) (pos L : List Int) (B : Bdy) : Int :=
  match B.trail.getLast? with
  | none => 0
  | some h => if B.mode = 4 then 0 else if 0 < B.over then 4000 else seesL P pos L 4000 h (max B.left 0)
theorem seesL_far (P : Pln) (pos L : List Int) (n : Nat) (h : Prt) (left : Int) (hl : 4000 ≤ left) : seesL P pos L n h left = 4000 := by
  cases n with
  | zero => rfl
  | succ n => unfold seesL; rw [if_pos hl]
theorem seesL_succ (P : Pln) (pos L : List Int) (n : Nat) (h : Prt) (left : Int) (hl : left < 4000) : seesL P pos L (n + 1) h left = if stopsB P L h then left else
      if (stepP P pos h).2 = 0 then seesL P pos L n (stepP P pos h).1 (left + max (eleAt P (stepP P pos h).1.e).l 1)
      else if (stepP P pos h).2 = 2 then 4000 else left := by
  conv => lhs; unfold seesL
  rw [if_neg (by omega)]
theorem nextL_ok {P : Pln} (hk : PlnOk P) {x y : Prt} (h : nextL P.js x = some y) : PrtOk y := by
  have hm := nextL_mem _ _ _ h
  unfold portsL at hm
  simp only [List.mem_flatMap, List.mem_cons, List.not_mem_nil, or_false] at hm
  obtain ⟨j, hj, e⟩ := hm
  obtain ⟨a, b, c, d⟩ := hk.js j hj
  rcases e with rfl | rfl
  · exact ⟨a, b⟩
  · exact ⟨c, d⟩
theorem I64_of {x : Int} (h0 : -9223372036854775808 ≤ x) (h1 : x ≤ 9223372036854775807) : I64 x := by
  rw [← IntWalk.i64_in x ⟨h0, h1⟩]; exact i64_wrap _
theorem outsK_small {k i : Int} {w : Int × Int} (h : w ∈ outsK k i) : 0 ≤ w.1 ∧ w.1 ≤ 3 := by
  unfold outsK at h
  by_cases h0 : i < 0 ∨ endsK k ≤ i
  · rw [if_pos h0] at h; cases h
  rw [if_neg h0] at h
  by_cases h1 : k = 1
  · rw [if_pos h1] at h; subst h1
    have he : endsK 1 = 2 := rfl
    simp at h; subst h; dsimp only; omega
  rw [if_neg h1] at h
  by_cases h3 : k = 3
  · rw [if_pos h3] at h; subst h3
    have he : endsK 3 = 4 := rfl
    have hi : i = 0 ∨ i = 1 ∨ i = 2 ∨ i = 3 := by omega
    rcases hi with rfl | rfl | rfl | rfl <;> (simp at h; subst h; simp)
  rw [if_neg h3] at h
  by_cases h2 : k = 2
  · rw [if_pos h2] at h
    by_cases hi : i = 0
    · rw [if_pos hi] at h; simp at h; rcases h with rfl | rfl <;> simp
    · rw [if_neg hi] at h; simp at h; subst h; simp
  · rw [if_neg h2] at h; cases h
theorem throughL_mem : ∀ {l : List (Int × Int)} {q o : Int}, throughL l q = some o → ∃ w ∈ l, w.1 = o
  | [], _, _, h => by cases h
  | (a, p) :: t, q, o, h => by
    unfold throughL at h
    split at h
    · cases h; exact ⟨(a, p), List.mem_cons_self .., rfl⟩
    · obtain ⟨w, hw, e⟩ := throughL_mem h
      exact ⟨w, List.mem_cons_of_mem _ hw, e⟩
theorem stepP_ok {P : Pln} (hk : PlnOk P) (pos : List Int) (x : Prt) : PrtOk (stepP P pos x).1 := by
  have z : PrtOk ⟨0, 0⟩ := ⟨I64_of (by dsimp only; omega) (by dsimp only; omega), I64_of (by dsimp only; omega) (by dsimp only; omega)⟩
  unfold stepP
  cases hn : nextL P.js x with
  | none => exact z
  | some y =>
    dsimp only
    split
    · exact z
    · cases ht : throughL (outsK (eleAt P y.e).k y.x) (liesP pos y.e) with
      | none => exact z
      | some o =>
        obtain ⟨w, hw, rfl⟩ := throughL_mem ht
        have hs := outsK_small hw
        exact ⟨(nextL_ok hk hn).1, I64_of (by dsimp only; omega) (by dsimp only; omega)⟩
end Go.Proofs.YtgjnlgcdpbilfaaDoor
namespace Go.Proofs.YtgjnlgcdpbilfaaDoor
open Go.ChangeShapes Go.WideShapes Go.ChangeAt Go.RowKit Go.Maps
set_option linter.unusedVariables false
set_option linter.unusedSimpArgs false
theorem fine_chk {P : Pln} (h : fineB P = true) : chk P = 0 := by
  unfold fineB at h
  simp only [Bool.and_eq_true, decide_eq_true_eq] at h
  exact h.2
theorem fine_parts {P : Pln} (h : chk P = 0) : argsB P = true ∧ joinedB P = true ∧ signalsB P = true ∧ linesB P = true := by
  unfold chk at h
  split at h
  · omega
  split at h
  · omega
  split at h
  · omega
  split at h
  · omega
  split at h
  · omega
  split at h
  · omega
  rename_i h1 h2 h3 h4 h5 h6
  exact ⟨by simpa using h2, by simpa using h4, by simpa using h5, by simpa using h6⟩
theorem fine_ele {P : Pln} (h : chk P = 0) : ∀ e ∈ P.es, nmB e.n = true ∧ (1 ≤ e.k ∧ e.k ≤ 4) ∧ 0 ≤ e.l ∧ e.l ≤ 4000 ∧ (e.k ≠ 4 → 1 ≤ e.l) ∧ (e.k = 4 → e.l = 0) := by
  intro e he
  have ha := (fine_parts h).1
  rw [argsB_eq] at ha
  simp only [Bool.and_eq_true, List.all_eq_true] at ha
  have hb := ha.1.1.2 e he
  unfold eleB inB at hb
  simp only [Bool.and_eq_true, Bool.not_eq_true', decide_eq_false_iff_not] at hb
  obtain ⟨⟨h1, h2⟩, h3⟩ := hb
  have hk : 1 ≤ e.k ∧ e.k ≤ 4 := by
    unfold endsK at h2
    omega
  refine ⟨h1, hk, ?_⟩
  by_cases h4 : e.k = 4
  · rw [if_pos h4] at h3
    simp only [decide_eq_true_eq] at h3
    omega
  · rw [if_neg h4] at h3
    simp only [Bool.and_eq_true, decide_eq_true_eq] at h3
    omega
theorem fine_len {P : Pln} (h : chk P = 0) (m : Int) : (eleAt P m).l ≤ 4000 ∧ 0 ≤ (eleAt P m).l := by
  unfold eleAt
  split
  · by_cases hm : m.toNat < P.es.length
    · rw [getD_at _ _ hm]
      have := fine_ele h _ (List.getElem_mem hm)
      omega
    · rw [List.getD_eq_getElem?_getD, List.getElem?_eq_none (by omega)]
      exact ⟨by decide, by decide⟩
  · exact ⟨by decide, by decide⟩
theorem small_ok : PlnOk smallP := by
  have z : ∀ x : Int, 0 ≤ x → x ≤ 100 → I64 x := fun x h0 h1 => I64_of (by omega) (by omega)
  refine ⟨?_, ?_, ?_, ?_, ?_⟩
  · intro e he
    simp only [smallP, List.mem_cons, List.not_mem_nil, or_false] at he
    rcases he with rfl | rfl | rfl | rfl | rfl | rfl <;> exact ⟨z _ (by decide) (by decide), z _ (by decide) (by decide), by decide⟩
  · intro e he
    simp only [smallP, List.mem_cons, List.not_mem_nil, or_false] at he
    rcases he with rfl | rfl | rfl | rfl | rfl <;> exact ⟨z _ (by decide) (by decide), z _ (by decide) (by decide), z _ (by decide) (by decide), z _ (by decide) (by decide)⟩
  · intro e he
    simp only [smallP, List.mem_cons, List.not_mem_nil, or_false] at he
    rcases he with rfl | rfl | rfl | rfl | rfl <;> exact ⟨z _ (by decide) (by decide), z _ (by decide) (by decide), by decide⟩
  · intro e he
    cases he
  · exact ⟨z _ (by decide) (by decide), z _ (by decide) (by decide), z _ (by decide) (by decide), z _ (by decide) (by decide)⟩
theorem small_fine : fineB smallP = true := by kernel_rfl
theorem made_fine (v : Value) (P : Pln) (w : World) (hP : IsPln w v P) (hk : PlnOk P) (hf : fineB P = true) :
    Calls Tryd.prog 8 #[v] w fun e w' => ∃ b, e = .returned (.pointer (some ⟨b, 0, none⟩)) ∧ NetIs w' b P ∧ Gr w w' := by
  refine (made_any v P w hP hk).mono ?_
  rintro e w2 ⟨g2, ⟨-, b, rfl, hnet⟩ | ⟨h0, -⟩⟩
  · exact ⟨b, rfl, hnet, g2⟩
  · rw [hf] at h0; cases h0
end Go.Proofs.YtgjnlgcdpbilfaaDoor
namespace Go.Proofs.YtgjnlgcdpbilfaaDoor
open Go.ChangeShapes Go.WideShapes Go.ChangeAt Go.RowKit Go.Maps
set_option linter.unusedVariables false
set_option linter.unusedSimpArgs false
attribute [local go_sem ↓] Go.wp_at_zero Go.wp_at_succ
structure SeeW (w0 w : World) (hb : Nat) (h : Prt) : Prop where
  gr : Gr w0 w
  lt : hb < w.heap.size
  c0 : w.cell? ⟨hb, 0, none⟩ = some (.int .i64 h.e)
  c1 : w.cell? ⟨hb, 1, none⟩ = some (.int .i64 h.x)
  f0 : w.frozen? ⟨hb, 0, none⟩ = false
  f1 : w.frozen? ⟨hb, 1, none⟩ = false
theorem SeeW.step {w0 w w' : World} {hb : Nat} {h : Prt} (k : SeeW w0 w hb h) (g : Gr w w') : SeeW w0 w' hb h :=
  ⟨k.gr.trans g, Nat.lt_of_lt_of_le k.lt g.size, (g.cell _ _ k.lt).trans k.c0, (g.cell _ _ k.lt).trans k.c1, (g.frozen _ _ k.lt).trans k.f0, (g.frozen _ _ k.lt).trans k.f1⟩
theorem SeeW.put {w0 w : World} {hb : Nat} {h : Prt} (k : SeeW w0 w hb h) (h0 : w0.heap.size ≤ hb) (e x : Int) : SeeW w0 ((w.setCell ⟨hb, 0, none⟩ (.int .i64 e)).setCell ⟨hb, 1, none⟩ (.int .i64 x)) hb ⟨e, x⟩ :=
  ⟨(k.gr.setCell h0 _).setCell h0 _, by simpa using k.lt,
    (World.cell?_setCell_other _ _ _ _ (by simp)).trans (World.cell?_setCell_same _ _ _ k.c0),
    World.cell?_setCell_same _ _ _ ((World.cell?_setCell_other _ _ _ _ (by simp)).trans k.c1),
    by simpa using k.f0, by simpa using k.f1⟩
def SeeR (P : Pln) (pos L : List Int) (R : Int) (w : World) (hb : Nat) (x : Value) (wr : World) : Prop :=
  ∃ (n : Nat) (h : Prt) (left : Int), x = .int .i64 left ∧ Hid (seesL P pos L n h left = R) ∧ 4000 ≤ left + n ∧ 0 ≤ left ∧ PrtOk h ∧ SeeW w wr hb h
set_option maxRecDepth 100000 in
set_option maxHeartbeats 8000000 in
theorem sees_any (b : Nat) (P : Pln) (v u bv : Value) (pos L : List Int) (B : Bdy) (w : World) (hN : NetIs w b P) (hv : IsVals w v (pos.map (Value.int .i64))) (hu : IsVals w u (L.map (Value.int .i64))) (hB : IsBdy w bv B) (hk : PlnOk P) (hT : ∀ x ∈ B.trail, PrtOk x) (hl : ∀ m, (eleAt P m).l ≤ 4000) :
    Calls Tryd.prog 9 #[.pointer (some ⟨b, 0, none⟩), v, u, bv] w fun e w' => e = .returned (.int .i64 (seesP P pos L B)) ∧ Gr w w' := by
  have HU := Lib.hid hu
  obtain ⟨ua, uc, rfl, hum, -⟩ := hu
  rw [List.length_map] at HU hum ⊢
  unfold maxLen at hum
  obtain ⟨a, c, rfl, h1⟩ := hB
  have HH : Hid (∀ w', Gr w w' → Calls Tryd.prog 22 #[.agg #[.int .i64 B.mode, .slice a B.trail.length c, .int .i64 B.left, .int .i64 B.over, .int .i64 B.v]] w' fun e w'' => e = .returned (prtR B.trail.getLast?) ∧ Gr w' w'') := fun w' g => head_any _ B w' ⟨a, c, rfl, h1.gr g⟩
  have hw0 : Gr w (w.alloc (.cells #[.int .i64 B.mode, .slice a B.trail.length c, .int .i64 B.left, .int .i64 B.over, .int .i64 B.v] 31)) := (Gr.refl _).alloc _
  have HBX : Hid (∀ w', Gr (w.alloc (.cells #[.int .i64 B.mode, .slice a B.trail.length c, .int .i64 B.left, .int .i64 B.over, .int .i64 B.v] 31)) w' → w.heap.size < w'.heap.size ∧ w'.cell? ⟨w.heap.size, 0, none⟩ = some (.int .i64 B.mode) ∧ w'.cell? ⟨w.heap.size, 2, none⟩ = some (.int .i64 B.left) ∧ w'.cell? ⟨w.heap.size, 3, none⟩ = some (.int .i64 B.over)) := by
    intro w' g
    have hz : w.heap.size < ((w.alloc (.cells #[.int .i64 B.mode, .slice a B.trail.length c, .int .i64 B.left, .int .i64 B.over, .int .i64 B.v] 31))).heap.size := by simp
    exact ⟨Nat.lt_of_lt_of_le hz g.size, (g.cell _ _ hz).trans (by rw [World.cell?_alloc_mark]; rfl), (g.cell _ _ hz).trans (by rw [World.cell?_alloc_mark]; rfl), (g.cell _ _ hz).trans (by rw [World.cell?_alloc_mark]; rfl)⟩
  unfold bdyV
  clear h1
  cases hq : B.trail.getLast? with
  | none =>
    have HR : Hid (seesP P pos L B = 0) := by show seesP P pos L B = 0; unfold seesP; rw [hq]
    have HH1 : Hid (∀ w', Gr w w' → Calls Tryd.prog 22 #[.agg #[.int .i64 B.mode, .slice a B.trail.length c, .int .i64 B.left, .int .i64 B.over, .int .i64 B.v]] w' fun e w'' => e = .returned (.tuple #[.agg #[.int .i64 0, .int .i64 0], .bool false]) ∧ Gr w' w'') := fun w' g => by have := HH.out w' g; rw [hq] at this; exact this
    clear hq HH
    go_enter Tryd.func9, Tryd.ntmps9
    go_wp2_with (first | (go_at_call 22; (with_reducible refine (HH1.out _ hw0).mono ?_); rintro e w1 ⟨rfl, g1⟩) | fail)
    go_ret
    exact ⟨ret_int HR.out.symm, (hw0.trans g1).alloc _⟩
  | some q =>
    have hqm : q ∈ B.trail := List.mem_of_getLast? hq
    have hqk := hT q hqm
    have HR : Hid (seesP P pos L B = if B.mode = 4 then 0 else if 0 < B.over then 4000 else seesL P pos L 4000 q (max B.left 0)) := by show _ = _; unfold seesP; rw [hq]
    obtain ⟨qe, qx⟩ := q
    have HH1 : Hid (∀ w', Gr w w' → Calls Tryd.prog 22 #[.agg #[.int .i64 B.mode, .slice a B.trail.length c, .int .i64 B.left, .int .i64 B.over, .int .i64 B.v]] w' fun e w'' => e = .returned (.tuple #[.agg #[.int .i64 qe, .int .i64 qx], .bool true]) ∧ Gr w' w'') := fun w' g => by have := HH.out w' g; rw [hq] at this; exact this
    clear hq HH hqm
    generalize seesP P pos L B = R at HR ⊢
    by_cases hm : B.mode = 4
    · have hm' : (B.mode == 4) = true := by simpa using hm
      have HR0 : Hid (R = 0) := by show R = 0; rw [HR.out, if_pos hm]
      clear hm
      go_enter Tryd.func9, Tryd.ntmps9
      go_wp2_with (first | (go_at_call 22; (with_reducible refine (HH1.out _ hw0).mono ?_); rintro e w1 ⟨rfl, g1⟩; obtain ⟨hzb, b0, b2, b3⟩ := HBX.out _ ((g1.alloc (.cells #[.int .i64 qe, .int .i64 qx] 50)))) | fail)
      go_ret
      exact ⟨ret_int HR0.out.symm, (hw0.trans g1).alloc _⟩
    have hm' : (B.mode == 4) = false := by simpa using hm
    by_cases ho : 0 < B.over
    · have HR0 : Hid (R = 4000) := by show R = 4000; rw [HR.out, if_neg hm, if_pos ho]
      clear hm
      go_enter Tryd.func9, Tryd.ntmps9
      go_wp2_with (first | (go_at_call 22; (with_reducible refine (HH1.out _ hw0).mono ?_); rintro e w1 ⟨rfl, g1⟩; obtain ⟨hzb, b0, b2, b3⟩ := HBX.out _ ((g1.alloc (.cells #[.int .i64 qe, .int .i64 qx] 50)))) | fail)
      go_ret
      exact ⟨ret_int HR0.out.symm, (hw0.trans g1).alloc _⟩
    have HR0 : Hid (seesL P pos L 4000 ⟨qe, qx⟩ (max B.left 0) = R) := by show _ = _; rw [HR.out, if_neg hm, if_neg ho]
    clear hm HR
    go_enter Tryd.func9, Tryd.ntmps9
    go_upto_region 6 with (first | (go_at_call 22; (with_reducible refine (HH1.out _ hw0).mono ?_); rintro e w1 ⟨rfl, g1⟩; obtain ⟨hzb, b0, b2, b3⟩ := HBX.out _ ((g1.alloc (.cells #[.int .i64 qe, .int .i64 qx] 50)))) | fail)
    generalize hW : w1.alloc (.cells #[.int .i64 qe, .int .i64 qx] 50) = W at *
    have HS0 : Hid (SeeW w W w1.heap.size ⟨qe, qx⟩) := by
      subst hW
      exact ⟨(hw0.trans g1).alloc _, by simp, by rw [World.cell?_alloc_mark]; rfl, by rw [World.cell?_alloc_mark]; rfl, by simp, by simp⟩
    have hhb : w.heap.size ≤ w1.heap.size := (hw0.trans g1).size
    generalize w1.heap.size = hb at HS0 hhb ⊢
    go_cut [11] from 12 (fun x wc => Hid (x = .int .i64 (max B.left 0)) ∧ wc = W)
    case first =>
      go_wp2_with fail
      all_goals
        go_meet
        case rel => exact ⟨by (first | rfl | exact congrArg (Value.int .i64) (show (0 : Int) = max B.left 0 by omega) | exact congrArg (Value.int .i64) (show B.left = max B.left 0 by omega)), rfl⟩
    case rest =>
      obtain ⟨hx0, rfl⟩ := hcut
      obtain rfl := hx0.out
      clear hx0
      clear hW g1 hzb b0 b2 b3 HBX HH1 hw0 ho hm'
      go_wp2_with fail
      go_loopw [11] (fun x wr => SeeR P pos L R w hb x wr) (fun x _ => (4000 - intOf x).toNat)
      case atStart => exact ⟨4000, ⟨qe, qx⟩, max B.left 0, rfl, HR0, by omega, by omega, hqk, HS0.out⟩
      case round =>
        clear HS0 HR0 hqk
        obtain ⟨n, h, left, rfl, HS, hn, hl0, hok, hS⟩ := hrel
        by_cases hlt : left < 4000
        · obtain ⟨n, rfl⟩ : ∃ m, n = m + 1 := ⟨n - 1, by omega⟩
          obtain ⟨he, hx⟩ := h
          have g0 := hS.gr
          have HE : Hid (R = if stopsB P L ⟨he, hx⟩ then left else
              if (stepP P pos ⟨he, hx⟩).2 = 0 then seesL P pos L n (stepP P pos ⟨he, hx⟩).1 (left + max (eleAt P (stepP P pos ⟨he, hx⟩).1.e).l 1)
              else if (stepP P pos ⟨he, hx⟩).2 = 2 then 4000 else left) := by show _ = _; rw [← HS.out]; exact seesL_succ P pos L n _ left hlt
          have HRD0 : Hid (∀ w', Gr w w' → Calls Tryd.prog 23 #[.pointer (some ⟨b, 0, none⟩), .agg #[.int .i64 he, .int .i64 hx]] w' fun e w'' => e = .returned (.int .i64 (readsN P.ss ⟨he, hx⟩)) ∧ Gr w' w'') := fun w' g => netReads_any b P ⟨he, hx⟩ w' (hN.gr g) hok
          have HST0 : Hid (∀ w', Gr w w' → Calls Tryd.prog 25 #[.pointer (some ⟨b, 0, none⟩), v, .agg #[.int .i64 he, .int .i64 hx]] w' fun e w'' => e = .returned (stpR (stepP P pos ⟨he, hx⟩)) ∧ Gr w' w'') := fun w' g => step_any b P v pos ⟨he, hx⟩ w' (hN.gr g) (hv.gr g) hok
          have hok2 := stepP_ok hk pos ⟨he, hx⟩
          have HSW := Lib.hid (fun (w' : World) (g : Gr wr w') => hS.step g)
          obtain ⟨-, hlt', c0, c1, -, -⟩ := hS
          have HRS : Hid (readsN P.ss ⟨he, hx⟩ = match readsL P.ss ⟨he, hx⟩ with | some k => (k : Int) | none => -1) := rfl
          have HSB : Hid (stopsB P L ⟨he, hx⟩ = match readsL P.ss ⟨he, hx⟩ with | none => false | some i => !passP L i) := rfl
          generalize readsN P.ss ⟨he, hx⟩ = s at HRD0 HRS
          generalize stopsB P L ⟨he, hx⟩ = sb at HE HSB
          generalize stepP P pos ⟨he, hx⟩ = r at HE HST0 hok2
          obtain ⟨⟨ye, yx⟩, q⟩ := r
          dsimp only at HE hok2
          have HLN1 : Hid (∀ w', Gr w w' → Calls Tryd.prog 26 #[.pointer (some ⟨b, 0, none⟩), .int .i64 ye] w' fun e w'' => e = .returned (.int .i64 (eleAt P ye).l) ∧ Gr w' w'') := fun w' g => netLength_any b P ye w' (hN.gr g)
          have hly := hl ye
          generalize (eleAt P ye).l = ly at HE HLN1 hly
          have HST1 : Hid (∀ w', Gr w w' → Calls Tryd.prog 25 #[.pointer (some ⟨b, 0, none⟩), v, .agg #[.int .i64 he, .int .i64 hx]] w' fun e w'' => e = .returned (.tuple #[.agg #[.int .i64 ye, .int .i64 yx], .int .i64 q]) ∧ Gr w' w'') := HST0.out
          clear HST0 HS
          cases hr : readsL P.ss ⟨he, hx⟩ with
          | none =>
            rw [hr] at HRS HSB
            dsimp only at HRS HSB
            obtain rfl := HRS.out
            obtain rfl := HSB.out
            have HRD := HRD0
            clear HRD0 HRS HSB hr
            by_cases q0 : q = 0
            · have HQ : Hid (seesL P pos L n ⟨ye, yx⟩ (left + max ly 1) = R) := by show _ = _; rw [HE.out, if_neg (by simp), if_pos q0]
              subst q0
              clear HE
              go_upto_region 17 with (first | (go_at_call 23; (with_reducible refine (HRD.out _ g0).mono ?_); rintro e w3 ⟨rfl, g3⟩; have gw3 := g0.trans g3; obtain ⟨-, hz3, c03, c13, -, -⟩ := HSW.out _ g3) | (go_at_call 24; (with_reducible refine (HPS.out _).mono ?_); rintro e wq ⟨rfl, hwq⟩; obtain rfl := hwq.symm) | (go_at_call 25; (with_reducible refine (HST1.out _ gw3).mono ?_); rintro e w4 ⟨rfl, g4⟩; have gw4 := gw3.trans g4) | fail)
              have g34 : Gr wr ((w4.alloc (.cells #[.int .i64 ye, .int .i64 yx] 50))).drew := ((g3.trans g4).alloc _).drew
              have HNC : Hid (∀ w', Gr ((w4.alloc (.cells #[.int .i64 ye, .int .i64 yx] 50))).drew w' → w'.cell? ⟨w4.heap.size, 0, none⟩ = some (.int .i64 ye) ∧ w'.cell? ⟨w4.heap.size, 1, none⟩ = some (.int .i64 yx)) := by
                intro w' g
                have hz : w4.heap.size < (((w4.alloc (.cells #[.int .i64 ye, .int .i64 yx] 50))).drew).heap.size := by simp
                exact ⟨(g.cell _ _ hz).trans (by simp), (g.cell _ _ hz).trans (by simp)⟩
              go_region_with (first | (go_at_call 26; (with_reducible refine (HLN1.out _ ?_).mono ?_); (exact (gw4.alloc _).drew); rintro e w5 ⟨rfl, g5⟩; obtain ⟨-, hz5, k0, k1, f0, f1⟩ := HSW.out _ (g34.trans g5); obtain ⟨n0, n1⟩ := HNC.out _ g5) | fail)
              all_goals (try go_simp)
              all_goals go_wp2_with fail
              all_goals
                go_roundw
                case rel => exact ⟨n, ⟨ye, yx⟩, left + max ly 1, congrArg (Value.int .i64) (by rw [IntWalk.i64_in _ (by omega)] <;> omega), HQ, by omega, by omega, hok2, (HSW.out _ (g34.trans g5)).put hhb ye yx⟩
                case measure => (simp only [intOf]; rw [IntWalk.i64_in _ (by omega)]; omega)
            by_cases q2 : q = 2
            · have HQ : Hid (R = 4000) := by show _ = _; rw [HE.out, if_neg (by simp), if_neg q0, if_pos q2]
              subst q2
              clear HE
              go_wp2_with (first | (go_at_call 23; (with_reducible refine (HRD.out _ g0).mono ?_); rintro e w3 ⟨rfl, g3⟩; have gw3 := g0.trans g3; obtain ⟨-, hz3, c03, c13, -, -⟩ := HSW.out _ g3) | (go_at_call 24; (with_reducible refine (HPS.out _).mono ?_); rintro e wq ⟨rfl, hwq⟩; obtain rfl := hwq.symm) | (go_at_call 25; (with_reducible refine (HST1.out _ gw3).mono ?_); rintro e w4 ⟨rfl, g4⟩; have gw4 := gw3.trans g4) | fail)
              go_ret
              exact ⟨ret_int HQ.out.symm, gw4.alloc _⟩
            have HQ : Hid (R = left) := by show _ = _; rw [HE.out, if_neg (by simp), if_neg q0, if_neg q2]
            have t0 : (q == 0) = false := by simpa using q0
            have t2 : (q == 2) = false := by simpa using q2
            clear q0 q2 HE
            go_wp2_with (first | (go_at_call 23; (with_reducible refine (HRD.out _ g0).mono ?_); rintro e w3 ⟨rfl, g3⟩; have gw3 := g0.trans g3; obtain ⟨-, hz3, c03, c13, -, -⟩ := HSW.out _ g3) | (go_at_call 24; (with_reducible refine (HPS.out _).mono ?_); rintro e wq ⟨rfl, hwq⟩; obtain rfl := hwq.symm) | (go_at_call 25; (with_reducible refine (HST1.out _ gw3).mono ?_); rintro e w4 ⟨rfl, g4⟩; have gw4 := gw3.trans g4) | fail)
            go_ret
            exact ⟨ret_int HQ.out.symm, gw4.alloc _⟩
          | some i =>
            rw [hr] at HRS HSB
            dsimp only at HRS HSB
            obtain rfl := HRS.out
            have HRD := HRD0
            clear HRD0 HRS hr
            by_cases hi : i < L.length
            · have hi1 : (i : Int) < (L.length : Int) := by omega
              obtain ⟨bb, o, hs, z, y0⟩ := ints_at HU.out i hi
              subst hs
              have HP : Hid (passP L i = decide (L[i] = 1 ∨ L[i] = 2)) := by show _ = _; unfold passP; rw [dif_pos hi]
              generalize L[i] = lm at y0 HP
              have HLC := Lib.hid (fun (w' : World) (g : Gr w w') => (g.cell _ _ z).trans y0)
              clear y0 z
              by_cases hp : lm = 1 ∨ lm = 2
              · have HPS : Hid (∀ w', Calls Tryd.prog 24 #[.int .i64 lm] w' fun e w'' => e = .returned (.bool true) ∧ w'' = w') := fun w' => by have := passes_any lm w'; rw [decide_eq_true hp] at this; exact this
                obtain rfl : sb = false := by rw [HSB.out, HP.out, decide_eq_true hp]; rfl
                clear HSB HP hp
                by_cases q0 : q = 0
                · have HQ : Hid (seesL P pos L n ⟨ye, yx⟩ (left + max ly 1) = R) := by show _ = _; rw [HE.out, if_neg (by simp), if_pos q0]
                  subst q0
                  clear HE
                  go_upto_region 17 with (first | (go_at_call 23; (with_reducible refine (HRD.out _ g0).mono ?_); rintro e w3 ⟨rfl, g3⟩; have gw3 := g0.trans g3; obtain ⟨-, hz3, c03, c13, -, -⟩ := HSW.out _ g3; have y3 := HLC.out _ gw3) | (go_at_call 24; (with_reducible refine (HPS.out _).mono ?_); rintro e wq ⟨rfl, hwq⟩; obtain rfl := hwq.symm) | (go_at_call 25; (with_reducible refine (HST1.out _ gw3).mono ?_); rintro e w4 ⟨rfl, g4⟩; have gw4 := gw3.trans g4) | fail)
                  have g34 : Gr wr ((w4.alloc (.cells #[.int .i64 ye, .int .i64 yx] 50))).drew := ((g3.trans g4).alloc _).drew
                  have HNC : Hid (∀ w', Gr ((w4.alloc (.cells #[.int .i64 ye, .int .i64 yx] 50))).drew w' → w'.cell? ⟨w4.heap.size, 0, none⟩ = some (.int .i64 ye) ∧ w'.cell? ⟨w4.heap.size, 1, none⟩ = some (.int .i64 yx)) := by
                    intro w' g
                    have hz : w4.heap.size < (((w4.alloc (.cells #[.int .i64 ye, .int .i64 yx] 50))).drew).heap.size := by simp
                    exact ⟨(g.cell _ _ hz).trans (by simp), (g.cell _ _ hz).trans (by simp)⟩
                  go_region_with (first | (go_at_call 26; (with_reducible refine (HLN1.out _ ?_).mono ?_); (exact (gw4.alloc _).drew); rintro e w5 ⟨rfl, g5⟩; obtain ⟨-, hz5, k0, k1, f0, f1⟩ := HSW.out _ (g34.trans g5); obtain ⟨n0, n1⟩ := HNC.out _ g5) | fail)
                  all_goals (try go_simp)
                  all_goals go_wp2_with fail
                  all_goals
                    go_roundw
                    case rel => exact ⟨n, ⟨ye, yx⟩, left + max ly 1, congrArg (Value.int .i64) (by rw [IntWalk.i64_in _ (by omega)] <;> omega), HQ, by omega, by omega, hok2, (HSW.out _ (g34.trans g5)).put hhb ye yx⟩
                    case measure => (simp only [intOf]; rw [IntWalk.i64_in _ (by omega)]; omega)
                by_cases q2 : q = 2
                · have HQ : Hid (R = 4000) := by show _ = _; rw [HE.out, if_neg (by simp), if_neg q0, if_pos q2]
                  subst q2
                  clear HE
                  go_wp2_with (first | (go_at_call 23; (with_reducible refine (HRD.out _ g0).mono ?_); rintro e w3 ⟨rfl, g3⟩; have gw3 := g0.trans g3; obtain ⟨-, hz3, c03, c13, -, -⟩ := HSW.out _ g3; have y3 := HLC.out _ gw3) | (go_at_call 24; (with_reducible refine (HPS.out _).mono ?_); rintro e wq ⟨rfl, hwq⟩; obtain rfl := hwq.symm) | (go_at_call 25; (with_reducible refine (HST1.out _ gw3).mono ?_); rintro e w4 ⟨rfl, g4⟩; have gw4 := gw3.trans g4) | fail)
                  go_ret
                  exact ⟨ret_int HQ.out.symm, gw4.alloc _⟩
                have HQ : Hid (R = left) := by show _ = _; rw [HE.out, if_neg (by simp), if_neg q0, if_neg q2]
                have t0 : (q == 0) = false := by simpa using q0
                have t2 : (q == 2) = false := by simpa using q2
                clear q0 q2 HE
                go_wp2_with (first | (go_at_call 23; (with_reducible refine (HRD.out _ g0).mono ?_); rintro e w3 ⟨rfl, g3⟩; have gw3 := g0.trans g3; obtain ⟨-, hz3, c03, c13, -, -⟩ := HSW.out _ g3; have y3 := HLC.out _ gw3) | (go_at_call 24; (with_reducible refine (HPS.out _).mono ?_); rintro e wq ⟨rfl, hwq⟩; obtain rfl := hwq.symm) | (go_at_call 25; (with_reducible refine (HST1.out _ gw3).mono ?_); rintro e w4 ⟨rfl, g4⟩; have gw4 := gw3.trans g4) | fail)
                go_ret
                exact ⟨ret_int HQ.out.symm, gw4.alloc _⟩
              · have HPS : Hid (∀ w', Calls Tryd.prog 24 #[.int .i64 lm] w' fun e w'' => e = .returned (.bool false) ∧ w'' = w') := fun w' => by have := passes_any lm w'; rw [decide_eq_false hp] at this; exact this
                obtain rfl : sb = true := by rw [HSB.out, HP.out, decide_eq_false hp]; rfl
                clear HSB HP hp
                have HQ : Hid (R = left) := HE.out
                clear HE
                go_wp2_with (first | (go_at_call 23; (with_reducible refine (HRD.out _ g0).mono ?_); rintro e w3 ⟨rfl, g3⟩; have gw3 := g0.trans g3; obtain ⟨-, hz3, c03, c13, -, -⟩ := HSW.out _ g3; have y3 := HLC.out _ gw3) | (go_at_call 24; (with_reducible refine (HPS.out _).mono ?_); rintro e wq ⟨rfl, hwq⟩; obtain rfl := hwq.symm) | fail)
                go_ret
                exact ⟨ret_int HQ.out.symm, gw3⟩
            · have hi1 : ¬ (i : Int) < (L.length : Int) := by omega
              have HP : passP L i = false := by unfold passP; rw [dif_neg hi]
              obtain rfl : sb = true := by rw [HSB.out, HP]; rfl
              clear HSB HP
              have HQ : Hid (R = left) := HE.out
              clear HE
              go_wp2_with (first | (go_at_call 23; (with_reducible refine (HRD.out _ g0).mono ?_); rintro e w3 ⟨rfl, g3⟩; have gw3 := g0.trans g3; obtain ⟨-, hz3, c03, c13, -, -⟩ := HSW.out _ g3) | fail)
              go_ret
              exact ⟨ret_int HQ.out.symm, gw3⟩
        · have HF : Hid (R = 4000) := by show _ = _; rw [← HS.out]; exact seesL_far P pos L n h left (by omega)
          have g0 := hS.gr
          go_wp2_with fail
          go_ret
          exact ⟨ret_int HF.out.symm, g0⟩
end Go.Proofs.YtgjnlgcdpbilfaaDoor
namespace Go.Proofs.YtgjnlgcdpbilfaaDoor
open Go.ChangeShapes Go.WideShapes Go.ChangeAt Go.RowKit
set_option linter.unusedVariables false
set_option linter.unusedSimpArgs false

structure Box (w : World) (B : Nat) (nm : ByteArray) (l t a b : Int) : Prop where
  lt : B < w.heap.size
  c0 : w.cell? ⟨B, 0, none⟩ = some (.string nm)
  c1 : w.cell? ⟨B, 1, none⟩ = some (.int .i64 l)
  c2 : w.cell? ⟨B, 2, none⟩ = some (.int .i64 t)
  c3 : w.cell? ⟨B, 3, none⟩ = some (.int .i64 a)
  c4 : w.cell? ⟨B, 4, none⟩ = some (.int .i64 b)
theorem Box.gr {w w' : World} {B : Nat} {nm : ByteArray} {l t a b : Int} (h : Box w B nm l t a b) (g : Gr w w') : Box w' B nm l t a b :=
  ⟨Nat.lt_of_lt_of_le h.lt g.size, (g.cell _ _ h.lt).trans h.c0, (g.cell _ _ h.lt).trans h.c1, (g.cell _ _ h.lt).trans h.c2, (g.cell _ _ h.lt).trans h.c3, (g.cell _ _ h.lt).trans h.c4⟩
theorem Box.new (w : World) (nm : ByteArray) (l t a b : Int) (T : TypeId) : Box (w.alloc (.cells #[.string nm, .int .i64 l, .int .i64 t, .int .i64 a, .int .i64 b] T)) w.heap.size nm l t a b :=
  ⟨by simp, by rw [World.cell?_alloc_mark]; rfl, by rw [World.cell?_alloc_mark]; rfl, by rw [World.cell?_alloc_mark]; rfl, by rw [World.cell?_alloc_mark]; rfl, by rw [World.cell?_alloc_mark]; rfl⟩
theorem Box.five {w : World} {B : Nat} {nm : ByteArray} {l t a b : Int} (h : Box w B nm l t a b) :
    w.cell? ⟨B, 0, none⟩ = some (.string nm) ∧ w.cell? ⟨B, 1, none⟩ = some (.int .i64 l) ∧ w.cell? ⟨B, 2, none⟩ = some (.int .i64 t) ∧ w.cell? ⟨B, 3, none⟩ = some (.int .i64 a) ∧ w.cell? ⟨B, 4, none⟩ = some (.int .i64 b) :=
  ⟨h.c0, h.c1, h.c2, h.c3, h.c4⟩
theorem Box.held {w0 W w3 : World} {B : Nat} {nm : ByteArray} {l t a b : Int} (g : Gr W w3)
    (h : Gr w0 W ∧ B < W.heap.size ∧ W.cell? ⟨B, 0, none⟩ = some (.string nm) ∧ W.cell? ⟨B, 1, none⟩ = some (.int .i64 l) ∧ W.cell? ⟨B, 2, none⟩ = some (.int .i64 t) ∧ W.cell? ⟨B, 3, none⟩ = some (.int .i64 a) ∧ W.cell? ⟨B, 4, none⟩ = some (.int .i64 b)) :
    Gr w0 w3 ∧ B < w3.heap.size ∧ w3.cell? ⟨B, 0, none⟩ = some (.string nm) ∧ w3.cell? ⟨B, 1, none⟩ = some (.int .i64 l) ∧ w3.cell? ⟨B, 2, none⟩ = some (.int .i64 t) ∧ w3.cell? ⟨B, 3, none⟩ = some (.int .i64 a) ∧ w3.cell? ⟨B, 4, none⟩ = some (.int .i64 b) := by
  obtain ⟨g0, i0, c0, c1, c2, c3, c4⟩ := h
  have k := Box.gr ⟨i0, c0, c1, c2, c3, c4⟩ g
  exact ⟨g0.trans g, k.lt, k.five⟩
end Go.Proofs.YtgjnlgcdpbilfaaDoor
namespace Go.Proofs.YtgjnlgcdpbilfaaDoor
open Go.ChangeShapes Go.WideShapes Go.ChangeAt Go.RowKit
set_option linter.unusedVariables false
set_option linter.unusedSimpArgs false

set_option maxHeartbeats 400000 in
theorem keeps_any (nm : ByteArray) (l t a b v room : Int) (ht : 1 ≤ t ∧ t ≤ 60) (ha : 1 ≤ a ∧ a ≤ 10) (hb : 1 ≤ b ∧ b ≤ 10) (w : World) :
    Calls Tryd.prog 29 #[.agg #[.string nm, .int .i64 l, .int .i64 t, .int .i64 a, .int .i64 b], .int .i64 v, .int .i64 room] w fun e w' => e = .returned (.int .i64 (kps t a b v room)) ∧ Gr w w' := by
  have wb : IntKind.i64.wrap (-b) = -b := IntWalk.i64_in _ (by omega)
  obtain ⟨L, hL⟩ : ∃ L, L = nxt t a b v (-b) false := ⟨_, rfl⟩
  obtain ⟨M, hM⟩ : ∃ M, M = nxt t a b v a false := ⟨_, rfl⟩
  have l1 : 0 ≤ L := by rw [hL]; exact (nxt_bd _ _ _ _ _ _ ht.1).1
  have l2 : L ≤ M := by rw [hL, hM]; exact nxt_least _ _ _ _ ha.1 hb.1 ht.1
  have l3 : M ≤ t := by rw [hM]; exact (nxt_bd _ _ _ _ _ _ ht.1).2
  have HK : Hid (kpF t b room (M - L).toNat M = kps t a b v room) := by unfold Hid kps; rw [hL, hM]
  have HL := Lib.hid hL
  have HM := Lib.hid hM
  clear hL hM
  have hbox := Box.new w nm l t a b 40
  go_enter Tryd.func29, Tryd.ntmps29
  go_wp2_with fail
  refine (may_yes nm l t a b ht ha hb _).mono ?_
  rintro e w1 ⟨rfl, h1⟩
  have hbox1 := hbox.gr h1
  have hg1 := ((Gr.refl w).alloc _).trans h1
  obtain ⟨i0, c0, c1, c2, c3, c4⟩ := hbox1
  clear hbox h1
  go_wp2_with fail
  go_region_held3 (fun w' => Gr w w' ∧ w.heap.size < w'.heap.size ∧ w'.cell? ⟨w.heap.size, 0, none⟩ = some (.string nm) ∧ w'.cell? ⟨w.heap.size, 1, none⟩ = some (.int .i64 l) ∧ w'.cell? ⟨w.heap.size, 2, none⟩ = some (.int .i64 t) ∧ w'.cell? ⟨w.heap.size, 3, none⟩ = some (.int .i64 a) ∧ w'.cell? ⟨w.heap.size, 4, none⟩ = some (.int .i64 b)) (first | exact ⟨hg1, i0, c0, c1, c2, c3, c4⟩ | exact Box.held h3 (by assumption) | exact ⟨hg1.drew, i0, c0, c1, c2, c3, c4⟩) (first | (go_at_call 52; refine (next_any nm l t a b v _ false ht ha hb _).mono ?_; rintro e w3 ⟨rfl, h3⟩))
  rename_i hS
  obtain ⟨hg2, j0, d0, d1, d2, d3, d4⟩ := hS
  have hbx : Box w3 w.heap.size nm l t a b := ⟨j0, d0, d1, d2, d3, d4⟩
  clear h3 d0 d1 d2 d3 d4 j0 hg1 i0 c0 c1 c2 c3 c4
  rw [← HL.out, ← HM.out]
  go_wp2_with fail
  go_loopw [8] (fun x wr => ∃ X : Int, x = .int .i64 X ∧ L ≤ X ∧ X ≤ t ∧ Hid (kpF t b room (X - L).toNat X = kps t a b v room) ∧ Gr w wr ∧ Box wr w.heap.size nm l t a b) (fun x _ => (intOf x).toNat)
  case atStart => exact ⟨M, rfl, l2, l3, HK, hg2, hbx⟩
  case round =>
    obtain ⟨X, rfl, r1, r2, HS, g, ⟨i0, c0, c1, c2, c3, c4⟩⟩ := hrel
    clear hbx hg2 HK HL HM
    by_cases hx : X = L
    · have HT : Hid (X = kps t a b v room) := by unfold Hid; rw [← HS.out, kpF_end t b room L X (by omega)]
      have hx' : (X == L) = true := by simp [hx]
      clear HS hx
      go_wp2_with fail
      go_ret
      exact ⟨ret_int HT.out, g⟩
    · have hx' : (X == L) = false := by simp [hx]
      have bd := stopD_bd t b X ht hb.1
      obtain ⟨bd1, bd2⟩ := bd
      by_cases hr : X + stopD t b X ≤ room
      · have HT : Hid (X = kps t a b v room) := by unfold Hid; rw [← HS.out, kpF_yes t b room L X hr]
        clear HS
        go_wp2_with fail
        refine (stop_any nm l t a b X ht ha hb _).mono ?_
        rintro e w4 ⟨rfl, h4⟩
        go_wp2_with fail
        go_ret
        exact ⟨ret_int HT.out, g.trans h4⟩
      · have HT : Hid (kpF t b room (X - 1 - L).toNat (X - 1) = kps t a b v room) := by unfold Hid; rw [← HS.out, kpF_no t b room L X (by omega) hr]
        clear HS
        go_wp2_with fail
        refine (stop_any nm l t a b X ht ha hb _).mono ?_
        rintro e w4 ⟨rfl, h4⟩
        have hB : Box w4 w.heap.size nm l t a b := Box.gr ⟨i0, c0, c1, c2, c3, c4⟩ h4
        have hG := g.trans h4
        go_wp2_with fail
        go_roundw
        case rel => exact ⟨X - 1, rfl, by omega, by omega, HT, hG, hB⟩
        case measure => simp [intOf]; omega
end Go.Proofs.YtgjnlgcdpbilfaaDoor
namespace Go.Proofs.YtgjnlgcdpbilfaaDoor
open Go.ChangeShapes Go.WideShapes Go.ChangeAt Go.RowKit
set_option linter.unusedVariables false
set_option linter.unusedSimpArgs false

theorem kpF_law (t b room L : Int) : ∀ (k : Nat) (X : Int), X = L + k →
    L ≤ kpF t b room k X ∧ kpF t b room k X ≤ X ∧ (kpF t b room k X + stopD t b (kpF t b room k X) ≤ room ∨ kpF t b room k X = L) ∧
    (kpF t b room k X = X ∨ ¬ (kpF t b room k X + 1 + stopD t b (kpF t b room k X + 1) ≤ room))
  | 0, X, h => by simp [kpF]; omega
  | k + 1, X, h => by
    unfold kpF
    split
    · rename_i hr
      refine ⟨by omega, by omega, .inl hr, .inl rfl⟩
    · rename_i hr
      have ih := kpF_law t b room L k (X - 1) (by omega)
      obtain ⟨i1, i2, i3, i4⟩ := ih
      refine ⟨i1, by omega, i3, .inr ?_⟩
      rcases i4 with i4 | i4
      · rw [i4, show X - 1 + 1 = X from by omega]; exact hr
      · exact i4
theorem kps_law (t a b v room : Int) (ht : 1 ≤ t) (ha : 1 ≤ a) (hb : 1 ≤ b) :
    nxt t a b v (-b) false ≤ kps t a b v room ∧ kps t a b v room ≤ nxt t a b v a false ∧ (kps t a b v room + stopD t b (kps t a b v room) ≤ room ∨ kps t a b v room = nxt t a b v (-b) false) ∧
    (kps t a b v room = nxt t a b v a false ∨ ¬ (kps t a b v room + 1 + stopD t b (kps t a b v room + 1) ≤ room)) := by
  have hl := nxt_least t a b v ha hb ht
  exact kpF_law t b room (nxt t a b v (-b) false) _ _ (by omega)
end Go.Proofs.YtgjnlgcdpbilfaaDoor
