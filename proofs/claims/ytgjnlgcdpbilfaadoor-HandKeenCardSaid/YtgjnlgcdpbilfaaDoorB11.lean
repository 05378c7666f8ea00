/- Act: drivers; hand.Act.
WrdP: Lines and words: plain. No program.
DrvP: Drivers as texts: plain.
Tab0: The memory's shape stays.
Drv1: hand.number, hand.May, the reference's MayDriver, SameInts.
Vls: Slices of strings: their cells; strings that differ.
WrdQ: Words: the split at blanks is the words, or there are none. No program.
Wrd4: Words: the walks.
Wrd5: word.Words. -/
import Derived.Test.YtgjnlgcdpbilfaaDoorRows
import Derived.Test.YtgjnlgcdpbilfaaDoorB10
import Derived.Test.YtgjnlgcdpbilfaaDoorB2
import Derived.Deep.Cut
import Derived.Deep.RegionHeld3
import Derived.Test.YtgjnlgcdpbilfaaDoorB1
import Derived.Test.YtgjnlgcdpbilfaaDoorB7
import Derived.Test.YtgjnlgcdpbilfaaDoorB4
import Derived.ChangeAgain
import Derived.LaidMore
import Derived.Deep.DeepHandedRow
import Derived.Test.YtgjnlgcdpbilfaaDoorShelf
import Derived.Lib.SplitLaws
import Derived.Lib.IndexLaws
import Derived.Lib.IndexBytes
import Derived.Deep.LoopGhost
import Derived.WalkMore
namespace Go.Proofs.YtgjnlgcdpbilfaaDoor
open Go.ChangeShapes Go.WideShapes Go.ChangeAt Go.RowKit Go.Maps
set_option linter.unusedVariables false
set_option linter.unusedSimpArgs false
structure Drv where
  kind : Int
  tape : List Int
def drvV (D : Drv) (t : Value) : Value := .agg #[.int .i64 D.kind, t]
def IsDrv (w : World) (v : Value) (D : Drv) : Prop := ∃ a c, v = drvV D (.slice a D.tape.length c) ∧ IsVals w (.slice a D.tape.length c) (D.tape.map (Value.int .i64))
theorem IsDrv.gr {w w' : World} {v : Value} {D : Drv} (h : IsDrv w v D) (g : Gr w w') : IsDrv w' v D := by
  obtain ⟨a, c, rfl, h1⟩ := h
  exact ⟨a, c, rfl, h1.gr g⟩
def tapeAt (D : Drv) (tick : Int) : Int := if D.kind = 3 ∧ 0 ≤ tick ∧ tick < D.tape.length then D.tape.getD tick.toNat 0 else 0
def tapeR (x : Int) : Int × Bool := if x = 1000 then (0, true) else (x, false)
def actP (D : Drv) (tick t a b : Int) (B : Bdy) (sees : Int) (turns : Bool) : Int × Bool :=
  if (D.kind = 1 ∨ D.kind = 2) ∧ turns = true ∧ B.v = 0 ∧ B.mode = 2 then (0, true)
  else if D.kind = 1 then (10, false)
  else if D.kind = 2 then (kps t a b B.v sees - max 0 (min B.v t), false)
  else tapeR (tapeAt D tick)
def actR (r : Int × Bool) : Value := .agg #[.int .i64 r.1, .bool r.2]
theorem turn_ways (turns : Bool) (v m : Int) : (turns = true ∧ v = 0 ∧ m = 2) ∨ turns = false ∨ (turns = true ∧ (v == 0) = false) ∨ (turns = true ∧ (v == 0) = true ∧ (m == 2) = false) := by
  cases turns
  · exact .inr (.inl rfl)
  · by_cases h : v = 0
    · by_cases g : m = 2
      · exact .inl ⟨rfl, h, g⟩
      · exact .inr (.inr (.inr ⟨rfl, by simpa using h, by simpa using g⟩))
    · exact .inr (.inr (.inl ⟨rfl, by simpa using h⟩))
theorem kps_bd (t a b v room : Int) (ht : 1 ≤ t) (ha : 1 ≤ a) (hb : 1 ≤ b) : 0 ≤ kps t a b v room ∧ kps t a b v room ≤ t := by
  obtain ⟨h1, h2, -⟩ := kps_law t a b v room ht ha hb
  have h3 := nxt_bd t a b v (-b) false ht
  have h4 := nxt_bd t a b v a false ht
  omega
set_option maxRecDepth 100000 in
set_option maxHeartbeats 2000000 in
theorem act_any (D : Drv) (dv bv : Value) (B : Bdy) (nm : ByteArray) (l t a b tick sees : Int) (turns : Bool) (ht : 1 ≤ t ∧ t ≤ 60) (ha : 1 ≤ a ∧ a ≤ 10) (hb : 1 ≤ b ∧ b ≤ 10) (w : World) (hD : IsDrv w dv D) (hB : IsBdy w bv B) :
    Calls Tryd.prog 11 #[dv, .int .i64 tick, .agg #[.string nm, .int .i64 l, .int .i64 t, .int .i64 a, .int .i64 b], bv, .int .i64 sees, .bool turns] w fun e w' => e = .returned (actR (actP D tick t a b B sees turns)) ∧ Gr w w' := by
  obtain ⟨da, dc, rfl, hd⟩ := hD
  obtain ⟨ba, bc, rfl, -⟩ := hB
  obtain ⟨kind, tape⟩ := D
  obtain ⟨mode, trail, left, over, v⟩ := B
  have HV := Lib.hid hd
  unfold drvV bdyV
  dsimp only at HV ⊢
  have hm := hd
  obtain ⟨_, _, hs0, hm, -⟩ := hm
  simp only [Value.slice.injEq, List.length_map] at hs0 hm
  unfold maxLen at hm
  clear hs0 hd
  have ways := turn_ways turns v mode
  by_cases k1 : kind = 1
  · subst k1
    rcases ways with ⟨rfl, rfl, rfl⟩ | rfl | ⟨rfl, hv⟩ | ⟨rfl, hv, hm2⟩
    · have HR : Hid (actP ⟨1, tape⟩ tick t a b ⟨2, trail, left, over, 0⟩ sees true = (0, true)) := by show _ = _; unfold actP; simp
      go_enter Tryd.func11, Tryd.ntmps11
      go_wp2_with fail
      (refine bodyPost_ret (v := .agg #[.int .i64 (((0, true) : Int × Bool)).1, .bool (((0, true) : Int × Bool)).2]) (by simp [results, Tryd.results11, go_sem]) rfl ⟨by rw [HR.out]; rfl, ?_⟩)
      (first | exact ((((Gr.refl w).alloc _).alloc _).alloc _).alloc _ | exact ((((((Gr.refl w).alloc _).alloc _).alloc _).alloc _).setCell (by simp; omega) _).setCell (by simp; omega) _)
    · have HR : Hid (actP ⟨1, tape⟩ tick t a b ⟨mode, trail, left, over, v⟩ sees false = (10, false)) := by show _ = _; unfold actP; simp
      go_enter Tryd.func11, Tryd.ntmps11
      go_wp2_with fail
      (refine bodyPost_ret (v := .agg #[.int .i64 (((10, false) : Int × Bool)).1, .bool (((10, false) : Int × Bool)).2]) (by simp [results, Tryd.results11, go_sem]) rfl ⟨by rw [HR.out]; rfl, ?_⟩)
      (first | exact ((((Gr.refl w).alloc _).alloc _).alloc _).alloc _ | exact ((((((Gr.refl w).alloc _).alloc _).alloc _).alloc _).setCell (by simp; omega) _).setCell (by simp; omega) _)
    · have HR : Hid (actP ⟨1, tape⟩ tick t a b ⟨mode, trail, left, over, v⟩ sees true = (10, false)) := by show _ = _; unfold actP; have : v ≠ 0 := (by simpa using hv); simp [this]
      go_enter Tryd.func11, Tryd.ntmps11
      go_wp2_with fail
      (refine bodyPost_ret (v := .agg #[.int .i64 (((10, false) : Int × Bool)).1, .bool (((10, false) : Int × Bool)).2]) (by simp [results, Tryd.results11, go_sem]) rfl ⟨by rw [HR.out]; rfl, ?_⟩)
      (first | exact ((((Gr.refl w).alloc _).alloc _).alloc _).alloc _ | exact ((((((Gr.refl w).alloc _).alloc _).alloc _).alloc _).setCell (by simp; omega) _).setCell (by simp; omega) _)
    · have HR : Hid (actP ⟨1, tape⟩ tick t a b ⟨mode, trail, left, over, v⟩ sees true = (10, false)) := by show _ = _; unfold actP; have : mode ≠ 2 := (by simpa using hm2); simp [this]
      go_enter Tryd.func11, Tryd.ntmps11
      go_wp2_with fail
      (refine bodyPost_ret (v := .agg #[.int .i64 (((10, false) : Int × Bool)).1, .bool (((10, false) : Int × Bool)).2]) (by simp [results, Tryd.results11, go_sem]) rfl ⟨by rw [HR.out]; rfl, ?_⟩)
      (first | exact ((((Gr.refl w).alloc _).alloc _).alloc _).alloc _ | exact ((((((Gr.refl w).alloc _).alloc _).alloc _).alloc _).setCell (by simp; omega) _).setCell (by simp; omega) _)
  have t1 : (kind == 1) = false := by simpa using k1
  by_cases k2 : kind = 2
  · subst k2
    clear t1
    rcases ways with ⟨rfl, rfl, rfl⟩ | ways
    · have HR : Hid (actP ⟨2, tape⟩ tick t a b ⟨2, trail, left, over, 0⟩ sees true = (0, true)) := by show _ = _; unfold actP; simp
      go_enter Tryd.func11, Tryd.ntmps11
      go_wp2_with fail
      (refine bodyPost_ret (v := .agg #[.int .i64 (((0, true) : Int × Bool)).1, .bool (((0, true) : Int × Bool)).2]) (by simp [results, Tryd.results11, go_sem]) rfl ⟨by rw [HR.out]; rfl, ?_⟩)
      (first | exact ((((Gr.refl w).alloc _).alloc _).alloc _).alloc _ | exact ((((((Gr.refl w).alloc _).alloc _).alloc _).alloc _).setCell (by simp; omega) _).setCell (by simp; omega) _)
    have HR : Hid (actP ⟨2, tape⟩ tick t a b ⟨mode, trail, left, over, v⟩ sees turns = (kps t a b v sees - max 0 (min v t), false)) := by
      show _ = _
      rcases ways with rfl | ⟨rfl, hv⟩ | ⟨rfl, hv, hm2⟩
      · unfold actP; simp
      · have : v ≠ 0 := (by simpa using hv)
        unfold actP; simp [this]
      · have : mode ≠ 2 := (by simpa using hm2)
        unfold actP; simp [this]
    generalize actP ⟨2, tape⟩ tick t a b ⟨mode, trail, left, over, v⟩ sees turns = R at HR ⊢
    have HK : Hid (∀ w', Calls Tryd.prog 29 #[.agg #[.string nm, .int .i64 l, .int .i64 t, .int .i64 a, .int .i64 b], .int .i64 v, .int .i64 sees] w' fun e w'' => e = .returned (.int .i64 (kps t a b v sees)) ∧ Gr w' w'') := fun w' => keeps_any nm l t a b v sees ht ha hb w'
    have hkb := kps_bd t a b v sees ht.1 ha.1 hb.1
    generalize kps t a b v sees = K at HR HK hkb
    have hp : 0 < t := by omega
    have mins : (t < v ∧ max 0 (min v t) = t) ∨ (¬ t < v ∧ 0 < v ∧ max 0 (min v t) = v) ∨ (¬ t < v ∧ ¬ 0 < v ∧ max 0 (min v t) = 0) := by omega
    rcases mins with ⟨h1, hM⟩ | ⟨h1, h2, hM⟩ | ⟨h1, h2, hM⟩
    all_goals
      rw [hM] at HR
      have HM := Lib.hid hM
      clear hM
    all_goals rcases ways with rfl | ⟨rfl, hv⟩ | ⟨rfl, hv, hm2⟩
    all_goals
      go_enter Tryd.func11, Tryd.ntmps11
      go_upto_region 8 with (fail)
      have hz4 : (((((w.alloc (.cells #[.int .i64 2, .slice da tape.length dc] 46)).alloc (.cells #[.string nm, .int .i64 l, .int .i64 t, .int .i64 a, .int .i64 b] 40)).alloc (.cells #[.int .i64 mode, .slice ba trail.length bc, .int .i64 left, .int .i64 over, .int .i64 v] 31)).alloc (.cells #[.int .i64 0, .bool false] 43))).heap.size = w.heap.size + 4 := by simp
      have hg3 : Gr w (((w.alloc (.cells #[.int .i64 2, .slice da tape.length dc] 46)).alloc (.cells #[.string nm, .int .i64 l, .int .i64 t, .int .i64 a, .int .i64 b] 40)).alloc (.cells #[.int .i64 mode, .slice ba trail.length bc, .int .i64 left, .int .i64 over, .int .i64 v] 31)) := (((Gr.refl w).alloc _).alloc _).alloc _
      have hg4 : Gr (((w.alloc (.cells #[.int .i64 2, .slice da tape.length dc] 46)).alloc (.cells #[.string nm, .int .i64 l, .int .i64 t, .int .i64 a, .int .i64 b] 40)).alloc (.cells #[.int .i64 mode, .slice ba trail.length bc, .int .i64 left, .int .i64 over, .int .i64 v] 31)) ((((w.alloc (.cells #[.int .i64 2, .slice da tape.length dc] 46)).alloc (.cells #[.string nm, .int .i64 l, .int .i64 t, .int .i64 a, .int .i64 b] 40)).alloc (.cells #[.int .i64 mode, .slice ba trail.length bc, .int .i64 left, .int .i64 over, .int .i64 v] 31)).alloc (.cells #[.int .i64 0, .bool false] 43)) := (Gr.refl _).alloc _
      have hz3 : ((((w.alloc (.cells #[.int .i64 2, .slice da tape.length dc] 46)).alloc (.cells #[.string nm, .int .i64 l, .int .i64 t, .int .i64 a, .int .i64 b] 40)).alloc (.cells #[.int .i64 mode, .slice ba trail.length bc, .int .i64 left, .int .i64 over, .int .i64 v] 31))).heap.size = w.heap.size + 1 + 1 + 1 := by simp
      have c0 : (((((w.alloc (.cells #[.int .i64 2, .slice da tape.length dc] 46)).alloc (.cells #[.string nm, .int .i64 l, .int .i64 t, .int .i64 a, .int .i64 b] 40)).alloc (.cells #[.int .i64 mode, .slice ba trail.length bc, .int .i64 left, .int .i64 over, .int .i64 v] 31)).alloc (.cells #[.int .i64 0, .bool false] 43))).cell? ⟨w.heap.size + 1, 0, none⟩ = some (.string nm) := by go_simp
      have c1 : (((((w.alloc (.cells #[.int .i64 2, .slice da tape.length dc] 46)).alloc (.cells #[.string nm, .int .i64 l, .int .i64 t, .int .i64 a, .int .i64 b] 40)).alloc (.cells #[.int .i64 mode, .slice ba trail.length bc, .int .i64 left, .int .i64 over, .int .i64 v] 31)).alloc (.cells #[.int .i64 0, .bool false] 43))).cell? ⟨w.heap.size + 1, 1, none⟩ = some (.int .i64 l) := by go_simp
      have c2 : (((((w.alloc (.cells #[.int .i64 2, .slice da tape.length dc] 46)).alloc (.cells #[.string nm, .int .i64 l, .int .i64 t, .int .i64 a, .int .i64 b] 40)).alloc (.cells #[.int .i64 mode, .slice ba trail.length bc, .int .i64 left, .int .i64 over, .int .i64 v] 31)).alloc (.cells #[.int .i64 0, .bool false] 43))).cell? ⟨w.heap.size + 1, 2, none⟩ = some (.int .i64 t) := by go_simp
      have c3 : (((((w.alloc (.cells #[.int .i64 2, .slice da tape.length dc] 46)).alloc (.cells #[.string nm, .int .i64 l, .int .i64 t, .int .i64 a, .int .i64 b] 40)).alloc (.cells #[.int .i64 mode, .slice ba trail.length bc, .int .i64 left, .int .i64 over, .int .i64 v] 31)).alloc (.cells #[.int .i64 0, .bool false] 43))).cell? ⟨w.heap.size + 1, 3, none⟩ = some (.int .i64 a) := by go_simp
      have c4 : (((((w.alloc (.cells #[.int .i64 2, .slice da tape.length dc] 46)).alloc (.cells #[.string nm, .int .i64 l, .int .i64 t, .int .i64 a, .int .i64 b] 40)).alloc (.cells #[.int .i64 mode, .slice ba trail.length bc, .int .i64 left, .int .i64 over, .int .i64 v] 31)).alloc (.cells #[.int .i64 0, .bool false] 43))).cell? ⟨w.heap.size + 1, 4, none⟩ = some (.int .i64 b) := by go_simp
      have cv : (((((w.alloc (.cells #[.int .i64 2, .slice da tape.length dc] 46)).alloc (.cells #[.string nm, .int .i64 l, .int .i64 t, .int .i64 a, .int .i64 b] 40)).alloc (.cells #[.int .i64 mode, .slice ba trail.length bc, .int .i64 left, .int .i64 over, .int .i64 v] 31)).alloc (.cells #[.int .i64 0, .bool false] 43))).cell? ⟨w.heap.size + 1 + 1, 4, none⟩ = some (.int .i64 v) := by go_simp
      have r0 : (((((w.alloc (.cells #[.int .i64 2, .slice da tape.length dc] 46)).alloc (.cells #[.string nm, .int .i64 l, .int .i64 t, .int .i64 a, .int .i64 b] 40)).alloc (.cells #[.int .i64 mode, .slice ba trail.length bc, .int .i64 left, .int .i64 over, .int .i64 v] 31)).alloc (.cells #[.int .i64 0, .bool false] 43))).cell? ⟨w.heap.size + 1 + 1 + 1, 0, none⟩ = some (.int .i64 0) := by go_simp
      have r1 : (((((w.alloc (.cells #[.int .i64 2, .slice da tape.length dc] 46)).alloc (.cells #[.string nm, .int .i64 l, .int .i64 t, .int .i64 a, .int .i64 b] 40)).alloc (.cells #[.int .i64 mode, .slice ba trail.length bc, .int .i64 left, .int .i64 over, .int .i64 v] 31)).alloc (.cells #[.int .i64 0, .bool false] 43))).cell? ⟨w.heap.size + 1 + 1 + 1, 1, none⟩ = some (.bool false) := by go_simp
      have f0 : (((((w.alloc (.cells #[.int .i64 2, .slice da tape.length dc] 46)).alloc (.cells #[.string nm, .int .i64 l, .int .i64 t, .int .i64 a, .int .i64 b] 40)).alloc (.cells #[.int .i64 mode, .slice ba trail.length bc, .int .i64 left, .int .i64 over, .int .i64 v] 31)).alloc (.cells #[.int .i64 0, .bool false] 43))).frozen? ⟨w.heap.size + 1 + 1 + 1, 0, none⟩ = false := by go_simp
      have f1 : (((((w.alloc (.cells #[.int .i64 2, .slice da tape.length dc] 46)).alloc (.cells #[.string nm, .int .i64 l, .int .i64 t, .int .i64 a, .int .i64 b] 40)).alloc (.cells #[.int .i64 mode, .slice ba trail.length bc, .int .i64 left, .int .i64 over, .int .i64 v] 31)).alloc (.cells #[.int .i64 0, .bool false] 43))).frozen? ⟨w.heap.size + 1 + 1 + 1, 1, none⟩ = false := by go_simp
      generalize ((((w.alloc (.cells #[.int .i64 2, .slice da tape.length dc] 46)).alloc (.cells #[.string nm, .int .i64 l, .int .i64 t, .int .i64 a, .int .i64 b] 40)).alloc (.cells #[.int .i64 mode, .slice ba trail.length bc, .int .i64 left, .int .i64 over, .int .i64 v] 31)).alloc (.cells #[.int .i64 0, .bool false] 43)) = W4 at *
      generalize (((w.alloc (.cells #[.int .i64 2, .slice da tape.length dc] 46)).alloc (.cells #[.string nm, .int .i64 l, .int .i64 t, .int .i64 a, .int .i64 b] 40)).alloc (.cells #[.int .i64 mode, .slice ba trail.length bc, .int .i64 left, .int .i64 over, .int .i64 v] 31)) = W3 at *
      have q1 : w.heap.size + 1 < W3.heap.size := by omega
      have q2 : w.heap.size + 1 + 1 < W3.heap.size := by omega
      have q3 : w.heap.size + 1 + 1 + 1 < W4.heap.size := by omega
      have q4 : W3.heap.size ≤ w.heap.size + 1 + 1 + 1 := by omega
      have HS : Hid (∀ w', Gr W4 w' → (Gr W3 w' ∧ w'.cell? ⟨w.heap.size + 1, 0, none⟩ = some (.string nm) ∧ w'.cell? ⟨w.heap.size + 1, 1, none⟩ = some (.int .i64 l) ∧ w'.cell? ⟨w.heap.size + 1, 2, none⟩ = some (.int .i64 t) ∧ w'.cell? ⟨w.heap.size + 1, 3, none⟩ = some (.int .i64 a) ∧ w'.cell? ⟨w.heap.size + 1, 4, none⟩ = some (.int .i64 b) ∧ w'.cell? ⟨w.heap.size + 1 + 1, 4, none⟩ = some (.int .i64 v) ∧ w.heap.size + 1 + 1 + 1 < w'.heap.size ∧ w'.frozen? ⟨w.heap.size + 1 + 1 + 1, 0, none⟩ = false ∧ w'.frozen? ⟨w.heap.size + 1 + 1 + 1, 1, none⟩ = false)) := fun w' g => ⟨hg4.trans g, (g.cell _ _ (by omega)).trans c0, (g.cell _ _ (by omega)).trans c1, (g.cell _ _ (by omega)).trans c2, (g.cell _ _ (by omega)).trans c3, (g.cell _ _ (by omega)).trans c4, (g.cell _ _ (by omega)).trans cv, Nat.lt_of_lt_of_le q3 g.size, (g.frozen _ _ q3).trans f0, (g.frozen _ _ q3).trans f1⟩
      have HSs : Hid (∀ w' u u', (Gr W3 w' ∧ w'.cell? ⟨w.heap.size + 1, 0, none⟩ = some (.string nm) ∧ w'.cell? ⟨w.heap.size + 1, 1, none⟩ = some (.int .i64 l) ∧ w'.cell? ⟨w.heap.size + 1, 2, none⟩ = some (.int .i64 t) ∧ w'.cell? ⟨w.heap.size + 1, 3, none⟩ = some (.int .i64 a) ∧ w'.cell? ⟨w.heap.size + 1, 4, none⟩ = some (.int .i64 b) ∧ w'.cell? ⟨w.heap.size + 1 + 1, 4, none⟩ = some (.int .i64 v) ∧ w.heap.size + 1 + 1 + 1 < w'.heap.size ∧ w'.frozen? ⟨w.heap.size + 1 + 1 + 1, 0, none⟩ = false ∧ w'.frozen? ⟨w.heap.size + 1 + 1 + 1, 1, none⟩ = false) → (Gr W3 ((w'.setCell ⟨w.heap.size + 1 + 1 + 1, 0, none⟩ u).setCell ⟨w.heap.size + 1 + 1 + 1, 1, none⟩ u') ∧ ((w'.setCell ⟨w.heap.size + 1 + 1 + 1, 0, none⟩ u).setCell ⟨w.heap.size + 1 + 1 + 1, 1, none⟩ u').cell? ⟨w.heap.size + 1, 0, none⟩ = some (.string nm) ∧ ((w'.setCell ⟨w.heap.size + 1 + 1 + 1, 0, none⟩ u).setCell ⟨w.heap.size + 1 + 1 + 1, 1, none⟩ u').cell? ⟨w.heap.size + 1, 1, none⟩ = some (.int .i64 l) ∧ ((w'.setCell ⟨w.heap.size + 1 + 1 + 1, 0, none⟩ u).setCell ⟨w.heap.size + 1 + 1 + 1, 1, none⟩ u').cell? ⟨w.heap.size + 1, 2, none⟩ = some (.int .i64 t) ∧ ((w'.setCell ⟨w.heap.size + 1 + 1 + 1, 0, none⟩ u).setCell ⟨w.heap.size + 1 + 1 + 1, 1, none⟩ u').cell? ⟨w.heap.size + 1, 3, none⟩ = some (.int .i64 a) ∧ ((w'.setCell ⟨w.heap.size + 1 + 1 + 1, 0, none⟩ u).setCell ⟨w.heap.size + 1 + 1 + 1, 1, none⟩ u').cell? ⟨w.heap.size + 1, 4, none⟩ = some (.int .i64 b) ∧ ((w'.setCell ⟨w.heap.size + 1 + 1 + 1, 0, none⟩ u).setCell ⟨w.heap.size + 1 + 1 + 1, 1, none⟩ u').cell? ⟨w.heap.size + 1 + 1, 4, none⟩ = some (.int .i64 v) ∧ w.heap.size + 1 + 1 + 1 < ((w'.setCell ⟨w.heap.size + 1 + 1 + 1, 0, none⟩ u).setCell ⟨w.heap.size + 1 + 1 + 1, 1, none⟩ u').heap.size ∧ ((w'.setCell ⟨w.heap.size + 1 + 1 + 1, 0, none⟩ u).setCell ⟨w.heap.size + 1 + 1 + 1, 1, none⟩ u').frozen? ⟨w.heap.size + 1 + 1 + 1, 0, none⟩ = false ∧ ((w'.setCell ⟨w.heap.size + 1 + 1 + 1, 0, none⟩ u).setCell ⟨w.heap.size + 1 + 1 + 1, 1, none⟩ u').frozen? ⟨w.heap.size + 1 + 1 + 1, 1, none⟩ = false)) := fun w' u u' ⟨g, s0, s1, s2, s3, s4, sv, z, z0, z1⟩ =>
        have g2 := (g.setCell q4 u).setCell q4 u'
        ⟨g2, (g2.cell _ _ q1).trans ((g.cell _ _ q1).symm.trans s0), (g2.cell _ _ q1).trans ((g.cell _ _ q1).symm.trans s1), (g2.cell _ _ q1).trans ((g.cell _ _ q1).symm.trans s2), (g2.cell _ _ q1).trans ((g.cell _ _ q1).symm.trans s3), (g2.cell _ _ q1).trans ((g.cell _ _ q1).symm.trans s4), (g2.cell _ _ q2).trans ((g.cell _ _ q2).symm.trans sv), by simpa using z, by simpa using z0, by simpa using z1⟩
      have HR5 : Hid (∀ w', Gr W4 w' → w'.cell? ⟨w.heap.size + 1 + 1 + 1, 0, none⟩ = some (.int .i64 0) ∧ w'.cell? ⟨w.heap.size + 1 + 1 + 1, 1, none⟩ = some (.bool false)) := fun w' g => ⟨(g.cell _ _ q3).trans r0, (g.cell _ _ q3).trans r1⟩
      clear hz4 hz3 f0 f1 r0 r1
      go_region_held3 (fun w' => Gr W3 w' ∧ w'.cell? ⟨w.heap.size + 1, 0, none⟩ = some (.string nm) ∧ w'.cell? ⟨w.heap.size + 1, 1, none⟩ = some (.int .i64 l) ∧ w'.cell? ⟨w.heap.size + 1, 2, none⟩ = some (.int .i64 t) ∧ w'.cell? ⟨w.heap.size + 1, 3, none⟩ = some (.int .i64 a) ∧ w'.cell? ⟨w.heap.size + 1, 4, none⟩ = some (.int .i64 b) ∧ w'.cell? ⟨w.heap.size + 1 + 1, 4, none⟩ = some (.int .i64 v) ∧ w.heap.size + 1 + 1 + 1 < w'.heap.size ∧ w'.frozen? ⟨w.heap.size + 1 + 1 + 1, 0, none⟩ = false ∧ w'.frozen? ⟨w.heap.size + 1 + 1 + 1, 1, none⟩ = false) (first | exact HS.out _ (Gr.refl _) | exact HS.out _ (Gr.refl _).drew | exact HS.out _ ((Gr.refl _).drew.trans h5) | exact HSs.out _ _ _ (HS.out _ ((Gr.refl _).drew.trans h5))) (first | (go_at_call 29; (with_reducible refine (HK.out _).mono ?_); rintro e w5 ⟨rfl, h5⟩; obtain ⟨r0, r1⟩ := HR5.out _ ((Gr.refl _).drew.trans h5)))
      all_goals (try go_simp)
      all_goals go_wp2_with fail
      all_goals obtain ⟨fg, -, -, -, -, -, -, fz, f0, f1⟩ := HS.out w5 ((Gr.refl _).drew.trans h5)
      all_goals
        refine bodyPost_ret (v := .agg #[.int .i64 (IntKind.i64.wrap (K - max 0 (min v t))), .bool false]) (by simp [results, Tryd.results11, go_sem, r0, r1, f0, f1, fz] <;> (rw [HM.out]; try rw [Int.sub_zero])) rfl ⟨by rw [HR.out, HM.out, IntWalk.i64_in _ (by omega)]; rfl, ?_⟩
        exact hg3.trans ((fg.setCell q4 _).setCell q4 _)
  have t2 : (kind == 2) = false := by simpa using k2
  have HA : Hid (actP ⟨kind, tape⟩ tick t a b ⟨mode, trail, left, over, v⟩ sees turns = tapeR (tapeAt ⟨kind, tape⟩ tick)) := by show _ = _; unfold actP; simp [k1, k2]
  by_cases k3 : kind = 3
  · subst k3
    clear k1 k2 ways t1 t2
    by_cases h0 : 0 ≤ tick
    · obtain ⟨k, rfl⟩ := Int.eq_ofNat_of_zero_le h0
      by_cases hk : k < tape.length
      · have hk1 : (k : Int) < (tape.length : Int) := by omega
        obtain ⟨bb, o, hs, z, y0⟩ := ints_at HV.out k hk
        subst hs
        have HX : Hid (tapeAt ⟨3, tape⟩ k = tape[k]) := by show _ = _; unfold tapeAt; rw [if_pos ⟨rfl, h0, hk1⟩, Int.toNat_natCast, List.getD_eq_getElem?_getD, List.getElem?_eq_getElem hk]; rfl
        generalize tape[k] = x at y0 HX
        have y4 : (((((w.alloc (.cells #[.int .i64 3, .slice (some ⟨bb, o, none⟩) tape.length dc] 46)).alloc (.cells #[.string nm, .int .i64 l, .int .i64 t, .int .i64 a, .int .i64 b] 40)).alloc (.cells #[.int .i64 mode, .slice ba trail.length bc, .int .i64 left, .int .i64 over, .int .i64 v] 31)).alloc (.cells #[.int .i64 0, .bool false] 43))).cell? ⟨bb, o + k, none⟩ = some (.int .i64 x) := ((((((Gr.refl w).alloc _).alloc _).alloc _).alloc _).cell _ _ z).trans y0
        by_cases hx : x = 1000
        · subst hx
          have HR : Hid (actP ⟨3, tape⟩ k t a b ⟨mode, trail, left, over, v⟩ sees turns = (0, true)) := by show _ = _; rw [HA.out, HX.out]; rfl
          clear HA HX
          go_enter Tryd.func11, Tryd.ntmps11
          go_wp2_with fail
          (refine bodyPost_ret (v := .agg #[.int .i64 (((0, true) : Int × Bool)).1, .bool (((0, true) : Int × Bool)).2]) (by simp [results, Tryd.results11, go_sem]) rfl ⟨by rw [HR.out]; rfl, ?_⟩)
          (first | exact ((((Gr.refl w).alloc _).alloc _).alloc _).alloc _ | exact ((((((Gr.refl w).alloc _).alloc _).alloc _).alloc _).setCell (by simp; omega) _).setCell (by simp; omega) _)
        · have HR : Hid (actP ⟨3, tape⟩ k t a b ⟨mode, trail, left, over, v⟩ sees turns = (x, false)) := by show _ = _; rw [HA.out, HX.out]; unfold tapeR; rw [if_neg hx]
          have tx : (x == 1000) = false := by simpa using hx
          clear HA HX hx
          go_enter Tryd.func11, Tryd.ntmps11
          go_wp2_with fail
          (refine bodyPost_ret (v := .agg #[.int .i64 (((x, false) : Int × Bool)).1, .bool (((x, false) : Int × Bool)).2]) (by simp [results, Tryd.results11, go_sem]) rfl ⟨by rw [HR.out]; rfl, ?_⟩)
          (first | exact ((((Gr.refl w).alloc _).alloc _).alloc _).alloc _ | exact ((((((Gr.refl w).alloc _).alloc _).alloc _).alloc _).setCell (by simp; omega) _).setCell (by simp; omega) _)
      · have hk1 : ¬ (k : Int) < (tape.length : Int) := by omega
        have HR : Hid (actP ⟨3, tape⟩ k t a b ⟨mode, trail, left, over, v⟩ sees turns = (0, false)) := by show _ = _; rw [HA.out]; unfold tapeAt; rw [if_neg (fun h => hk1 h.2.2)]; rfl
        clear HA hk
        go_enter Tryd.func11, Tryd.ntmps11
        go_wp2_with fail
        (refine bodyPost_ret (v := .agg #[.int .i64 (((0, false) : Int × Bool)).1, .bool (((0, false) : Int × Bool)).2]) (by simp [results, Tryd.results11, go_sem]) rfl ⟨by rw [HR.out]; rfl, ?_⟩)
        (first | exact ((((Gr.refl w).alloc _).alloc _).alloc _).alloc _ | exact ((((((Gr.refl w).alloc _).alloc _).alloc _).alloc _).setCell (by simp; omega) _).setCell (by simp; omega) _)
    · have HR : Hid (actP ⟨3, tape⟩ tick t a b ⟨mode, trail, left, over, v⟩ sees turns = (0, false)) := by show _ = _; rw [HA.out]; unfold tapeAt; rw [if_neg (fun h => h0 h.2.1)]; rfl
      clear HA
      go_enter Tryd.func11, Tryd.ntmps11
      go_wp2_with fail
      (refine bodyPost_ret (v := .agg #[.int .i64 (((0, false) : Int × Bool)).1, .bool (((0, false) : Int × Bool)).2]) (by simp [results, Tryd.results11, go_sem]) rfl ⟨by rw [HR.out]; rfl, ?_⟩)
      (first | exact ((((Gr.refl w).alloc _).alloc _).alloc _).alloc _ | exact ((((((Gr.refl w).alloc _).alloc _).alloc _).alloc _).setCell (by simp; omega) _).setCell (by simp; omega) _)
  · have HR : Hid (actP ⟨kind, tape⟩ tick t a b ⟨mode, trail, left, over, v⟩ sees turns = (0, false)) := by show _ = _; rw [HA.out]; unfold tapeAt; rw [if_neg (fun h => k3 h.1)]; rfl
    have t3 : (kind == 3) = false := by simpa using k3
    clear HA k1 k2 k3 ways
    go_enter Tryd.func11, Tryd.ntmps11
    go_wp2_with fail
    (refine bodyPost_ret (v := .agg #[.int .i64 (((0, false) : Int × Bool)).1, .bool (((0, false) : Int × Bool)).2]) (by simp [results, Tryd.results11, go_sem]) rfl ⟨by rw [HR.out]; rfl, ?_⟩)
    (first | exact ((((Gr.refl w).alloc _).alloc _).alloc _).alloc _ | exact ((((((Gr.refl w).alloc _).alloc _).alloc _).alloc _).setCell (by simp; omega) _).setCell (by simp; omega) _)
end Go.Proofs.YtgjnlgcdpbilfaaDoor
namespace Go.Proofs.YtgjnlgcdpbilfaaDoor
open Go.ChangeShapes Go.WideShapes Go.ChangeAt Go.RowKit
set_option linter.unusedVariables false
set_option linter.unusedSimpArgs false

def toB (l : List UInt8) : ByteArray := ⟨l.toArray⟩
theorem toB_data (s : ByteArray) : toB s.data.toList = s := by
  apply ByteArray.ext; simp [toB]
theorem data_extract (s : ByteArray) (a b : Nat) : (s.extract a b).data.toList = (s.data.toList.drop a).take (b - a) := by
  simp [ByteArray.data_extract, List.extract_eq_take_drop]
theorem take_drop_at {l : List UInt8} {i : Nat} {c : UInt8} (h : l[i]? = some c) : l = l.take i ++ c :: l.drop (i + 1) := by
  have hi : i < l.length := (List.getElem?_eq_some_iff.1 h).1
  have e := List.drop_eq_getElem_cons hi
  rw [List.getElem?_eq_getElem hi] at h
  rw [Option.some.inj h] at e
  rw [← e, List.take_append_drop]
def wrdB (c : UInt8) : Bool := decide (33 ≤ (c.toNat : Int)) && decide ((c.toNat : Int) ≤ 126)
def wdsA (acc : List UInt8) : List UInt8 → Option (List (List UInt8))
  | [] => if acc = [] then none else some [acc]
  | c :: t => if wrdB c then wdsA (acc ++ [c]) t else if c = 32 ∧ acc ≠ [] then (wdsA [] t).map (acc :: ·) else none
def wdB (s : ByteArray) : Option (List ByteArray) := (wdsA [] s.data.toList).map (·.map toB)
end Go.Proofs.YtgjnlgcdpbilfaaDoor
namespace Go.Proofs.YtgjnlgcdpbilfaaDoor
open Go.ChangeShapes Go.WideShapes Go.ChangeAt Go.RowKit
set_option linter.unusedVariables false
set_option linter.unusedSimpArgs false
theorem toB_size (l : List UInt8) : (toB l).size = l.length := by simp [toB, ByteArray.size]
def numR (x : ByteArray) : Int × Bool :=
  if Lib.hasPrefix x.data.toList [45] then (-(numN (toB (x.data.toList.drop 1)) 4), numB (toB (x.data.toList.drop 1)) 4 && !decide (numN (toB (x.data.toList.drop 1)) 4 = 0)) else (numN x 4, numB x 4)
def numsF (f : ByteArray → Int × Bool) : List ByteArray → Option (List Int)
  | [] => some []
  | x :: t => if (f x).2 then (numsF f t).map ((f x).1 :: ·) else none
def mayD (D : Drv) : Bool :=
  if D.kind = 1 ∨ D.kind = 2 then decide (D.tape.length = 0)
  else if D.kind = 3 then D.tape.all (fun x => decide (-999 ≤ x) && decide (x ≤ 1000)) && decide (D.tape.length ≤ 64)
  else false
def bEager : ByteArray := ⟨#[101, 97, 103, 101, 114]⟩
def bCareful : ByteArray := ⟨#[99, 97, 114, 101, 102, 117, 108]⟩
def bTape : ByteArray := ⟨#[116, 97, 112, 101]⟩
def kindW (x : ByteArray) : Int := if x = bEager then 1 else if x = bCareful then 2 else if x = bTape then 3 else 0
def parseD (s : ByteArray) : Option Drv :=
  match wdB s with
  | none => none
  | some [] => none
  | some (k :: l) => if kindW k = 0 then none else match numsF numR l with
    | none => none
    | some T => if mayD ⟨kindW k, T⟩ then some ⟨kindW k, T⟩ else none
def RetD (w : World) (o : Option Drv) (e : Ending) (w' : World) : Prop :=
  ∃ v, e = .returned (.tuple #[v, .bool o.isSome]) ∧ IsDrv w' v (o.getD ⟨0, []⟩) ∧ Gr w w'
theorem numN_bd (s : ByteArray) : 0 ≤ numN s 4 ∧ numN s 4 ≤ 9999 := by
  unfold numN
  by_cases h : numB s 4 = true
  · rw [if_pos h]
    have h' := (numB_iff s 4).1 h
    obtain ⟨-, -, -, h4, -, h6⟩ := h'
    have hb := nvB_bd s s.size h6
    refine ⟨hb.1, ?_⟩
    have hp : (10 : Int) ^ s.size ≤ 10 ^ 4 := by
      have : (10 : Nat) ^ s.size ≤ 10 ^ 4 := Nat.pow_le_pow_right (by omega) (by omega)
      exact_mod_cast this
    have : (10 : Int) ^ 4 = 10000 := by decide
    omega
  · rw [if_neg h]; omega
theorem numR_bd (x : ByteArray) : -9999 ≤ (numR x).1 ∧ (numR x).1 ≤ 9999 := by
  unfold numR
  have h1 := numN_bd x
  have h2 := numN_bd (toB (x.data.toList.drop 1))
  split <;> (dsimp only; omega)
theorem numsF_bad {f : ByteArray → Int × Bool} {l : List ByteArray} {k : Nat} (hk : k < l.length) (h : (f l[k]).2 = false) : numsF f l = none := by
  induction l generalizing k with
  | nil => simp at hk
  | cons a t ih =>
    unfold numsF
    cases k with
    | zero => rw [if_neg (by simpa using h)]
    | succ k =>
      rw [ih (by simpa using hk) (by simpa using h)]
      split <;> rfl
theorem numsF_snoc (f : ByteArray → Int × Bool) : ∀ (l : List ByteArray) (x : ByteArray) (T : List Int), numsF f l = some T → (f x).2 = true → numsF f (l ++ [x]) = some (T ++ [(f x).1])
  | [], x, T, h, hx => by
    cases h
    show (if (f x).2 then (numsF f []).map ((f x).1 :: ·) else none) = _
    rw [if_pos hx]; rfl
  | a :: t, x, T, h, hx => by
    unfold numsF at h
    by_cases ha : (f a).2 = true
    · rw [if_pos ha] at h
      cases ht : numsF f t with
      | none => rw [ht] at h; cases h
      | some U =>
        rw [ht] at h
        cases h
        show (if (f a).2 then (numsF f (t ++ [x])).map ((f a).1 :: ·) else none) = _
        rw [if_pos ha, numsF_snoc f t x U ht hx]; rfl
    · rw [if_neg ha] at h; cases h
theorem numsF_len {f : ByteArray → Int × Bool} : ∀ {l : List ByteArray} {T : List Int}, numsF f l = some T → T.length = l.length
  | [], T, h => by cases h; rfl
  | a :: t, T, h => by
    unfold numsF at h
    split at h
    · cases ht : numsF f t with
      | none => rw [ht] at h; cases h
      | some U => rw [ht] at h; cases h; simp [numsF_len ht]
    · cases h
end Go.Proofs.YtgjnlgcdpbilfaaDoor
namespace Go.Proofs.YtgjnlgcdpbilfaaDoor
open Go.ChangeShapes Go.WideShapes Go.ChangeAt Go.RowKit
set_option linter.unusedVariables false
set_option linter.unusedSimpArgs false

theorem shp_gr {w w' : World} (h : w.ShapedOpen Tryd.prog) (g : Gr w w') : w'.ShapedOpen Tryd.prog := h.keptBut (Below.frame g (fun _ => False)) (fun _ hh => hh.elim)
end Go.Proofs.YtgjnlgcdpbilfaaDoor
namespace Go.Proofs.YtgjnlgcdpbilfaaDoor
open Go.ChangeShapes Go.WideShapes Go.ChangeAt Go.RowKit
set_option linter.unusedVariables false
set_option linter.unusedSimpArgs false
set_option maxRecDepth 100000 in
theorem num_any (x : ByteArray) (hx : x.size ≤ maxLen) (w : World) :
    Calls Tryd.prog 32 #[.string x] w fun e w' => e = .returned (.tuple #[.int .i64 (numR x).1, .bool (numR x).2]) ∧ w' = w := by
  have HC := Lib.hid (Tryd.strings_CutPrefix x ⟨#[45]⟩ w)
  cases hp : Lib.hasPrefix x.data.toList [45]
  · have HC1 : Hid (Calls Tryd.prog 55 #[.string x, .string ⟨#[45]⟩] w fun e w' => e = .returned (.tuple #[.string x, .bool false]) ∧ w' = w) := by
      have := HC.out
      unfold Lib.trimPrefix at this
      rw [show (⟨#[45]⟩ : ByteArray).data.toList = [45] from rfl, hp] at this
      exact this
    have HR : Hid (numR x = (numN x 4, numB x 4)) := by show _ = _; unfold numR; rw [hp]; rfl
    have HN := Lib.hid (number_any x 4 hx w)
    have HZ : Hid (numB x 4 = false → numN x 4 = 0) := fun h => by unfold numN; rw [h]; rfl
    generalize numR x = R at HR ⊢
    generalize numN x 4 = n at HN HR HZ
    clear HC hp
    cases hb : numB x 4
    · have HN' := HN
      rw [hb] at HN HR
      have HQ : Hid (R = (0, false)) := by show _ = _; rw [HR.out, HZ.out hb]
      clear HN' HZ hb HR
      go_enter Tryd.func32, Tryd.ntmps32
      go_wp2_with (first | (go_at_call 55; (with_reducible refine (HC1.out).mono ?_); rintro e w1 ⟨rfl, hq⟩; obtain rfl := hq.symm) | (go_at_call 56; (with_reducible refine (HN.out).mono ?_); rintro e w1 ⟨rfl, hq⟩; obtain rfl := hq.symm) | fail)
      go_ret2
      exact ⟨by rw [HQ.out]; rfl, rfl⟩
    · rw [hb] at HN HR
      clear HZ hb
      go_enter Tryd.func32, Tryd.ntmps32
      go_wp2_with (first | (go_at_call 55; (with_reducible refine (HC1.out).mono ?_); rintro e w1 ⟨rfl, hq⟩; obtain rfl := hq.symm) | (go_at_call 56; (with_reducible refine (HN.out).mono ?_); rintro e w1 ⟨rfl, hq⟩; obtain rfl := hq.symm) | fail)
      go_ret2
      exact ⟨by rw [HR.out]; rfl, rfl⟩
  · have HC1 : Hid (Calls Tryd.prog 55 #[.string x, .string ⟨#[45]⟩] w fun e w' => e = .returned (.tuple #[.string (toB (x.data.toList.drop 1)), .bool true]) ∧ w' = w) := by
      have := HC.out
      unfold Lib.trimPrefix at this
      rw [show (⟨#[45]⟩ : ByteArray).data.toList = [45] from rfl, hp] at this
      exact this
    have HR : Hid (numR x = (-(numN (toB (x.data.toList.drop 1)) 4), numB (toB (x.data.toList.drop 1)) 4 && !decide (numN (toB (x.data.toList.drop 1)) 4 = 0))) := by show _ = _; unfold numR; rw [hp]; rfl
    have hsz : (toB (x.data.toList.drop 1)).size ≤ maxLen := by
      rw [toB_size, List.length_drop]
      have : x.data.toList.length = x.size := by rw [Array.length_toList]; rfl
      omega
    generalize toB (x.data.toList.drop 1) = y at HC1 HR hsz
    have HN := Lib.hid (number_any y 4 hsz w)
    have hbd := numN_bd y
    have HZ : Hid (numB y 4 = false → numN y 4 = 0) := fun h => by unfold numN; rw [h]; rfl
    generalize numR x = R at HR ⊢
    generalize numN y 4 = n at HN HR HZ hbd
    clear HC hp
    cases hb : numB y 4
    · rw [hb] at HN HR
      have HQ : Hid (R = (0, false)) := by show _ = _; rw [HR.out, HZ.out hb]; rfl
      clear HZ hb HR
      go_enter Tryd.func32, Tryd.ntmps32
      go_wp2_with (first | (go_at_call 55; (with_reducible refine (HC1.out).mono ?_); rintro e w1 ⟨rfl, hq⟩; obtain rfl := hq.symm) | (go_at_call 56; (with_reducible refine (HN.out).mono ?_); rintro e w1 ⟨rfl, hq⟩; obtain rfl := hq.symm) | fail)
      go_ret2
      exact ⟨by rw [HQ.out]; rfl, rfl⟩
    · rw [hb] at HN HR
      clear HZ hb
      by_cases h0 : n = 0
      · subst h0
        go_enter Tryd.func32, Tryd.ntmps32
        go_wp2_with (first | (go_at_call 55; (with_reducible refine (HC1.out).mono ?_); rintro e w1 ⟨rfl, hq⟩; obtain rfl := hq.symm) | (go_at_call 56; (with_reducible refine (HN.out).mono ?_); rintro e w1 ⟨rfl, hq⟩; obtain rfl := hq.symm) | fail)
        go_ret2
        exact ⟨by rw [HR.out]; rfl, rfl⟩
      · have h1 : (n != 0) = true := by simpa using h0
        have HQ : Hid (R = (-n, true)) := by show _ = _; rw [HR.out]; simp [h0]
        clear h0 HR
        go_enter Tryd.func32, Tryd.ntmps32
        go_wp2_with (first | (go_at_call 55; (with_reducible refine (HC1.out).mono ?_); rintro e w1 ⟨rfl, hq⟩; obtain rfl := hq.symm) | (go_at_call 56; (with_reducible refine (HN.out).mono ?_); rintro e w1 ⟨rfl, hq⟩; obtain rfl := hq.symm) | fail)
        go_ret2
        exact ⟨by rw [HQ.out]; rfl, rfl⟩
theorem len0 (n : Nat) : ((n : Int) == 0) = decide (n = 0) := by
  rw [Bool.eq_iff_iff]; simp
theorem mayD_own {D : Drv} (h : D.kind = 1 ∨ D.kind = 2) : mayD D = decide (D.tape.length = 0) := by unfold mayD; rw [if_pos h]
theorem mayD_tape {D : Drv} (h : D.kind = 3) : mayD D = (D.tape.all (fun x => decide (-999 ≤ x) && decide (x ≤ 1000)) && decide (D.tape.length ≤ 64)) := by
  unfold mayD; rw [if_neg (by omega), if_pos h]
theorem mayD_none {D : Drv} (h : ¬ (D.kind = 1 ∨ D.kind = 2)) (h3 : ¬ D.kind = 3) : mayD D = false := by unfold mayD; rw [if_neg h, if_neg h3]
theorem all_bad {l : List Int} {k : Nat} (hk : k < l.length) (h : l[k] < -999 ∨ 1000 < l[k]) : l.all (fun x => decide (-999 ≤ x) && decide (x ≤ 1000)) = false := by
  rw [List.all_eq_false]
  refine ⟨l[k], List.getElem_mem hk, ?_⟩
  simp; omega
set_option maxRecDepth 100000 in
set_option maxHeartbeats 1000000 in
theorem hmay_any (v : Value) (D : Drv) (w : World) (hD : IsDrv w v D) :
    Calls Tryd.prog 33 #[v] w fun e w' => e = .returned (.bool (mayD D)) ∧ Gr w w' := by
  obtain ⟨a, c, rfl, hd⟩ := hD
  obtain ⟨kind, tape⟩ := D
  have HV := Lib.hid hd
  obtain ⟨_, _, hs0, hm, -⟩ := hd
  simp only [Value.slice.injEq, List.length_map] at hs0 hm
  unfold maxLen at hm
  clear hs0
  unfold drvV
  dsimp only at HV ⊢
  have g0 : Gr w (w.alloc (.cells #[.int .i64 kind, .slice a tape.length c] 46)) := (Gr.refl _).alloc _
  by_cases k1 : kind = 1
  · subst k1
    have HR := Lib.hid (mayD_own (D := ⟨1, tape⟩) (.inl rfl))
    generalize mayD ⟨1, tape⟩ = R at HR ⊢
    go_enter Tryd.func33, Tryd.ntmps33
    go_wp2_with fail
    go_ret
    exact ⟨ret_bool (by rw [HR.out]; exact len0 _), g0⟩
  by_cases k2 : kind = 2
  · subst k2
    have HR := Lib.hid (mayD_own (D := ⟨2, tape⟩) (.inr rfl))
    generalize mayD ⟨2, tape⟩ = R at HR ⊢
    go_enter Tryd.func33, Tryd.ntmps33
    go_wp2_with fail
    go_ret
    exact ⟨ret_bool (by rw [HR.out]; exact len0 _), g0⟩
  have t1 : (kind == 1) = false := by simpa using k1
  have t2 : (kind == 2) = false := by simpa using k2
  by_cases k3 : kind = 3
  · subst k3
    have HR := Lib.hid (mayD_tape (D := ⟨3, tape⟩) rfl)
    have HB : Hid (∀ (k : Nat) (hk : k < tape.length), (tape[k] < -999 ∨ 1000 < tape[k]) → mayD ⟨3, tape⟩ = false) := fun k hk h => by rw [HR.out, all_bad hk h]; rfl
    have HG : Hid ((∀ (k : Nat) (hk : k < tape.length), ¬ (tape[k] < -999 ∨ 1000 < tape[k])) → mayD ⟨3, tape⟩ = decide (tape.length ≤ 64)) := fun h => by
      rw [HR.out]
      have : tape.all (fun x => decide (-999 ≤ x) && decide (x ≤ 1000)) = true := by
        rw [List.all_eq_true]
        intro x hx
        obtain ⟨k, hk, rfl⟩ := List.getElem_of_mem hx
        have := h k hk
        simp; omega
      rw [this]; rfl
    generalize mayD ⟨3, tape⟩ = R at HR HB HG ⊢
    clear k1 k2 t1 t2 HR
    go_enter Tryd.func33, Tryd.ntmps33
    go_wp2_with fail
    go_loop [19] (fun x => ∃ k : Nat, x = .int .i64 k ∧ k ≤ tape.length ∧ Hid (∀ (j : Nat) (hj : j < tape.length), j < k → ¬ (tape[j] < -999 ∨ 1000 < tape[j]))) (fun x => tape.length - (intOf x).toNat)
    case atStart => exact ⟨0, rfl, Nat.zero_le _, fun j _ hj => absurd hj (by omega)⟩
    case round =>
      obtain ⟨k, rfl, hk, HP⟩ := hrel
      by_cases hlt : k < tape.length
      · have hk1 : (k : Int) < (tape.length : Int) := by omega
        obtain ⟨bb, o, hs, z, y0⟩ := ints_at HV.out k hlt
        subst hs
        have y1 := (g0.cell _ _ z).trans y0
        have HBk := Lib.hid (HB.out k hlt)
        have HPk : Hid (¬ (tape[k] < -999 ∨ 1000 < tape[k]) → ∀ (j : Nat) (hj : j < tape.length), j < k + 1 → ¬ (tape[j] < -999 ∨ 1000 < tape[j])) := fun h j hj hjk => by
          by_cases e : j = k
          · subst e; exact h
          · exact HP.out j hj (by omega)
        generalize tape[k] = x at y1 HBk HPk
        clear y0
        by_cases h1 : x < -999
        · have HQ := Lib.hid (HBk.out (.inl h1))
          go_wp2_with fail
          go_ret
          exact ⟨ret_bool HQ.out.symm, g0⟩
        by_cases h2 : 1000 < x
        · have HQ := Lib.hid (HBk.out (.inr h2))
          go_wp2_with fail
          go_ret
          exact ⟨ret_bool HQ.out.symm, g0⟩
        have HQ := Lib.hid (HPk.out (by omega))
        go_wp2_with fail
        go_round
        case rel => exact ⟨k + 1, by go_num, hlt, HQ⟩
        case measure => simp [intOf]; omega
      · have hk1 : ¬ (k : Int) < (tape.length : Int) := by omega
        have HQ := Lib.hid (HG.out (fun j hj => HP.out j hj (by omega)))
        go_wp2_with fail
        go_ret
        exact ⟨ret_bool (by rw [HQ.out]; simp <;> omega), g0⟩
  · have HR := Lib.hid (mayD_none (D := ⟨kind, tape⟩) (by dsimp only; omega) k3)
    have t3 : (kind == 3) = false := by simpa using k3
    clear k1 k2 k3
    go_enter Tryd.func33, Tryd.ntmps33
    go_wp2_with fail
    go_ret
    exact ⟨ret_bool HR.out.symm, g0⟩
end Go.Proofs.YtgjnlgcdpbilfaaDoor
namespace Go.Proofs.YtgjnlgcdpbilfaaDoor
open Go.ChangeShapes Go.WideShapes Go.ChangeAt Go.RowKit
set_option linter.unusedVariables false
set_option linter.unusedSimpArgs false

theorem vals_at {w : World} {A : List ByteArray} {a : Option Addr} {c : Nat} (h : IsVals w (.slice a A.length c) (A.map Value.string)) (k : Nat) (hk : k < A.length) :
    ∃ b o, a = some ⟨b, o, none⟩ ∧ b < w.heap.size ∧ w.cell? ⟨b, o + k, none⟩ = some (.string A[k]) := by
  obtain ⟨a', c', e, _, hx⟩ := h
  simp only [Value.slice.injEq] at e
  obtain ⟨rfl, -, rfl⟩ := e
  rcases hx with hx | ⟨b, o, rfl, hb, hc⟩
  · exfalso
    have := congrArg List.length hx
    simp at this
    rw [this] at hk
    simp at hk
  · exact ⟨b, o, rfl, hb, hc k _ (by rw [List.getElem?_map, List.getElem?_eq_getElem hk]; rfl)⟩
theorem str_ne {a b : ByteArray} (h : ¬ a = b) : (a.toList == b.toList) = false := by
  rw [beq_eq_false_iff_ne]
  intro e
  rw [ByteArray.toList_eq, ByteArray.toList_eq] at e
  exact h (ByteArray.ext (Array.toList_inj.1 e))
end Go.Proofs.YtgjnlgcdpbilfaaDoor
namespace Go.Proofs.YtgjnlgcdpbilfaaDoor
open Go.ChangeShapes Go.WideShapes Go.ChangeAt Go.RowKit
set_option linter.unusedVariables false
set_option linter.unusedSimpArgs false

def splA (acc : List UInt8) : List UInt8 → List (List UInt8)
  | [] => [acc]
  | c :: t => if c = 32 then acc :: splA [] t else splA (acc ++ [c]) t
theorem splA_pre (t : List UInt8) : ∀ (p acc : List UInt8), (∀ c ∈ p, c ≠ 32) → splA acc (p ++ t) = splA (acc ++ p) t
  | [], acc, _ => by simp
  | c :: p, acc, h => by
    have hc : c ≠ 32 := h c (by simp)
    simp only [List.cons_append, splA, if_neg hc]
    rw [splA_pre t p _ fun d hd => h d (by simp [hd])]
    simp
def okW (x : List UInt8) : Bool := !x.isEmpty && x.all wrdB
theorem splA_bad : ∀ (l acc : List UInt8), acc.all wrdB = false → (splA acc l).all okW = false
  | [], acc, h => by simp [splA, okW, h]
  | c :: t, acc, h => by
    unfold splA
    split
    · simp [okW, h]
    · exact splA_bad t (acc ++ [c]) (by simp [List.all_append, h])
theorem wdsA_splA : ∀ (l acc : List UInt8), acc.all wrdB = true → wdsA acc l = if (splA acc l).all okW then some (splA acc l) else none
  | [], acc, h => by
    unfold wdsA splA
    by_cases e : acc = []
    · subst e; rfl
    · have : okW acc = true := by unfold okW; rw [h]; simp [List.isEmpty_iff, e]
      simp [e, this]
  | c :: t, acc, h => by
    unfold wdsA splA
    by_cases hw : wrdB c = true
    · have hc : c ≠ 32 := by rintro rfl; revert hw; decide
      rw [if_pos hw, if_neg hc]
      exact wdsA_splA t (acc ++ [c]) (by rw [List.all_append, h]; simp [hw])
    · rw [if_neg hw]
      by_cases hc : c = 32
      · rw [if_pos hc]
        by_cases e : acc = []
        · subst e; simp [okW]
        · have ho : okW acc = true := by unfold okW; rw [h]; simp [List.isEmpty_iff, e]
          rw [if_pos ⟨hc, e⟩, wdsA_splA t [] rfl]
          simp only [List.all_cons, ho, Bool.true_and]
          split <;> rfl
      · rw [if_neg hc, if_neg (fun h => hc h.1)]
        rw [splA_bad t (acc ++ [c]) (by simp [List.all_append, hw])]
        rfl
def blank : ByteArray := ⟨#[32]⟩
theorem blank_size : blank.size = 1 := rfl
theorem indexB_blank (s : ByteArray) : Lib.indexB s blank = Lib.indexByte s.data.toList 32 := Lib.index_one s.data.toList 32
theorem split_law : ∀ (n : Nat) (s : ByteArray), s.size ≤ n → Lib.splitB blank 0 (Lib.countB s blank) s = (splA [] s.data.toList).map toB
  | n, s, hn => by
    rcases Lib.indexB_cases s blank with h | ⟨i, h, hi⟩
    · rw [Lib.countB_miss s blank h, Lib.splitB_zero]
      rw [indexB_blank] at h
      have hno : ∀ c ∈ s.data.toList, c ≠ 32 := by
        intro c hc e
        obtain ⟨k, hk⟩ := List.mem_iff_getElem?.1 hc
        exact Lib.indexByte_none h k (by rw [hk, e])
      have := splA_pre [] s.data.toList [] hno
      rw [List.append_nil] at this
      rw [this]
      simp [splA, toB_data]
    · rw [blank_size] at hi
      rw [Lib.countB_hit s blank i (by rw [blank_size]; omega) h, Nat.add_comm 1, Lib.splitB_hit blank 0 _ s i h, blank_size, Nat.add_zero]
      rw [indexB_blank] at h
      obtain ⟨h1, h2⟩ := Lib.indexByte_some h
      have hno : ∀ c ∈ s.data.toList.take i, c ≠ 32 := by
        intro c hc e
        obtain ⟨k, hk⟩ := List.mem_iff_getElem?.1 hc
        have hki : k < i := by
          have := (List.getElem?_eq_some_iff.1 hk).1
          simp at this
          omega
        rw [List.getElem?_take, if_pos hki] at hk
        exact h2 k hki (by rw [hk, e])
      have e1 : (s.extract 0 i).data.toList = s.data.toList.take i := by rw [data_extract]; simp
      have e2 : (s.extract (i + 1) s.size).data.toList = s.data.toList.drop (i + 1) := by
        rw [data_extract]
        exact List.take_of_length_le (by simp)
      match n, hn with
      | 0, hn => omega
      | n + 1, hn =>
        rw [split_law n (s.extract (i + 1) s.size) (by simp; omega), e2]
        conv => rhs; rw [take_drop_at h1]
        rw [splA_pre _ _ _ hno]
        simp only [List.nil_append, splA, if_pos, List.map_cons]
        rw [← e1, toB_data]
def pcs (s : ByteArray) : List ByteArray := (splA [] s.data.toList).map toB
theorem splA_size : ∀ (l acc x : List UInt8), x ∈ splA acc l → x.length ≤ acc.length + l.length
  | [], acc, x, h => by simp [splA] at h; subst h; simp
  | c :: t, acc, x, h => by
    unfold splA at h
    split at h
    · rcases List.mem_cons.1 h with h | h
      · subst h; simp
      · have := splA_size t [] x h
        simp at this ⊢; omega
    · have := splA_size t (acc ++ [c]) x h
      simp at this ⊢; omega
theorem pcs_size {s x : ByteArray} (h : x ∈ pcs s) : x.size ≤ s.size := by
  unfold pcs at h
  obtain ⟨l, hl, rfl⟩ := List.mem_map.1 h
  have := splA_size _ _ _ hl
  have hl2 : s.data.toList.length = s.size := by simp
  rw [hl2] at this
  show l.toArray.size ≤ s.size
  rw [List.size_toArray]
  simpa using this
def okB (x : ByteArray) : Bool := okW x.data.toList
theorem wdB_pcs (s : ByteArray) : wdB s = if (pcs s).all okB then some (pcs s) else none := by
  unfold wdB pcs
  rw [wdsA_splA _ _ rfl]
  have e : ((splA [] s.data.toList).map toB).all okB = (splA [] s.data.toList).all okW := by
    rw [List.all_map]; rfl
  rw [e]
  split <;> rfl
theorem pcs_split (s : ByteArray) : Lib.splitB blank 0 (Lib.countB s blank) s = pcs s := split_law s.size s (Nat.le_refl _)
theorem pcs_len (s : ByteArray) : (pcs s).length = Lib.countB s blank + 1 := by
  rw [← pcs_split, Lib.splitB_all blank (by rw [blank_size]; omega) 0 _ s rfl]
theorem okB_iff (x : ByteArray) : okB x = true ↔ 0 < x.size ∧ ∀ (i : Nat) (h : i < x.size), 33 ≤ ((x[i]).toNat : Int) ∧ ((x[i]).toNat : Int) ≤ 126 := by
  have hl : x.data.toList.length = x.size := by simp
  unfold okB okW
  rw [Bool.and_eq_true, List.all_eq_true]
  constructor
  · rintro ⟨h1, h2⟩
    refine ⟨?_, fun i h => ?_⟩
    · rcases Nat.eq_zero_or_pos x.size with h | h
      · have e : x.data.toList = [] := List.length_eq_zero_iff.1 (hl.trans h)
        rw [e] at h1; simp at h1
      · exact h
    · have := h2 x[i] (by rw [List.mem_iff_getElem]; exact ⟨i, by omega, rfl⟩)
      unfold wrdB at this
      simpa using this
  · rintro ⟨h1, h2⟩
    refine ⟨?_, fun c hc => ?_⟩
    · cases h : x.data.toList with
      | nil => rw [h] at hl; simp at hl; omega
      | cons => rfl
    · obtain ⟨i, hi, rfl⟩ := List.mem_iff_getElem.1 hc
      have := h2 i (by omega)
      unfold wrdB
      rw [Bool.and_eq_true, decide_eq_true_eq, decide_eq_true_eq]
      exact this
end Go.Proofs.YtgjnlgcdpbilfaaDoor
namespace Go.Proofs.YtgjnlgcdpbilfaaDoor
open Go.ChangeShapes Go.WideShapes Go.ChangeAt Go.RowKit
set_option linter.unusedVariables false
set_option linter.unusedSimpArgs false

def RetW (w : World) (o : Option (List ByteArray)) (e : Ending) (w' : World) : Prop :=
  ∃ v, e = .returned (.tuple #[v, .bool o.isSome]) ∧ IsVals w' v ((o.getD []).map Value.string) ∧ Gr w w'
theorem RetW.no {w w' : World} {o : Option (List ByteArray)} (h : o = none) (g : Gr w w') : RetW w o (.returned (.tuple #[.slice none 0 0, .bool false])) w' := by
  subst h
  exact ⟨_, rfl, ⟨none, 0, rfl, by simp, .inl rfl⟩, g⟩
theorem RetW.yes {w w' : World} {o : Option (List ByteArray)} {L : List ByteArray} {v : Value} (h : o = some L) (hv : IsVals w' v (L.map Value.string)) (g : Gr w w') : RetW w o (.returned (.tuple #[v, .bool true])) w' := by
  subst h
  exact ⟨_, rfl, hv, g⟩
def CapOk (v : Value) : Prop := ∀ a n c, v = .slice a n c → n ≤ c
theorem OwnS.cap {B : Nat} {w : World} {v : Value} {L : List ByteArray} (h : OwnS B w v L) : CapOk v := by
  intro a n c e
  obtain ⟨-, h⟩ := h
  rcases h with ⟨rfl, -⟩ | ⟨g, cap, cur, rfl, -, -, hc, -⟩
  · cases e; omega
  · cases e; exact hc
def RetWc (w : World) (o : Option (List ByteArray)) (e : Ending) (w' : World) : Prop :=
  ∃ v, e = .returned (.tuple #[v, .bool o.isSome]) ∧ IsVals w' v ((o.getD []).map Value.string) ∧ CapOk v ∧ Gr w w'
theorem RetWc.no {w w' : World} {o : Option (List ByteArray)} (h : o = none) (g : Gr w w') : RetWc w o (.returned (.tuple #[.slice none 0 0, .bool false])) w' := by
  subst h
  exact ⟨_, rfl, ⟨none, 0, rfl, by simp, .inl rfl⟩, fun a n c e => by cases e; omega, g⟩
theorem RetWc.yes {w w' : World} {o : Option (List ByteArray)} {L : List ByteArray} {v : Value} (h : o = some L) (hv : IsVals w' v (L.map Value.string)) (hc : CapOk v) (g : Gr w w') : RetWc w o (.returned (.tuple #[v, .bool true])) w' := by
  subst h
  exact ⟨_, rfl, hv, hc, g⟩
theorem RetWc.drop {w w' : World} {o : Option (List ByteArray)} {e : Ending} (h : RetWc w o e w') : RetW w o e w' := by
  obtain ⟨v, h1, h2, -, h3⟩ := h
  exact ⟨v, h1, h2, h3⟩
end Go.Proofs.YtgjnlgcdpbilfaaDoor
namespace Go.Proofs.YtgjnlgcdpbilfaaDoor
open Go.ChangeShapes Go.WideShapes Go.ChangeAt Go.RowKit
set_option linter.unusedVariables false
set_option linter.unusedSimpArgs false

theorem vals_row (w : World) (L : List ByteArray) (n : Nat) (h : L.length = n) (hm : L.length ≤ maxLen) :
    IsVals (w.alloc (.cells (L.map Value.string).toArray 9)) (.slice (some ⟨w.heap.size, 0, none⟩) n n) (L.map Value.string) := by
  subst h
  refine ⟨some ⟨w.heap.size, 0, none⟩, L.length, by simp, by simpa using hm, .inr ⟨w.heap.size, 0, rfl, by simp, ?_⟩⟩
  intro i x hx
  rw [World.cell?_alloc_mark]
  simpa using hx
theorem split_any (s : ByteArray) (w : World) (h : w.ShapedOpen Tryd.prog) (hs : s.size ≤ 1048576) :
    Calls Tryd.prog 54 #[.string s, .string blank] w fun e w' => e = .returned (.slice (some ⟨w.heap.size, 0, none⟩) (pcs s).length (pcs s).length) ∧ w' = w.alloc (.cells ((pcs s).map Value.string).toArray 9) := by
  have := Tryd.strings_Split_shaped s blank w h (by omega) (by rw [blank_size]; omega)
  rw [pcs_split, ← pcs_len] at this
  exact this
theorem toList_nil5 {s : ByteArray} : (s.toList = []) ↔ s.size = 0 := by
  rw [ByteArray.toList_eq]
  have hl : s.data.toList.length = s.size := by simp
  rw [← hl, List.length_eq_zero_iff]
theorem bad_none {s : ByteArray} {k : Nat} (hk : k < (pcs s).length) (h : okB (pcs s)[k] = false) : wdB s = none := by
  rw [wdB_pcs, if_neg]
  intro ha
  rw [List.all_eq_true] at ha
  rw [ha _ (List.getElem_mem hk)] at h
  cases h
theorem good_some {s : ByteArray} (h : ∀ (k : Nat) (hk : k < (pcs s).length), okB (pcs s)[k] = true) : wdB s = some (pcs s) := by
  rw [wdB_pcs, if_pos]
  rw [List.all_eq_true]
  intro x hx
  obtain ⟨k, hk, rfl⟩ := List.mem_iff_getElem.1 hx
  exact h k hk
theorem okB_no {x : ByteArray} (h : ¬ (0 < x.size ∧ ∀ (i : Nat) (h : i < x.size), 33 ≤ ((x[i]).toNat : Int) ∧ ((x[i]).toNat : Int) ≤ 126)) : okB x = false := by
  cases hq : okB x with
  | false => rfl
  | true => exact absurd ((okB_iff x).1 hq) h
set_option maxRecDepth 100000 in
set_option maxHeartbeats 1000000 in
theorem words_cap (s : ByteArray) (hs : s.size ≤ 1048576) (w : World) (ht : w.ShapedOpen Tryd.prog) :
    Calls Tryd.prog 31 #[.string s] w (RetWc w (wdB s)) := by
  have hsp := split_any s w ht hs
  have hlen : (pcs s).length ≤ 1048577 := by
    rw [pcs_len]
    have := Lib.countB_le blank (by rw [blank_size]; omega) s.size s (Nat.le_refl _)
    omega
  have hv := vals_row w (pcs s) (pcs s).length rfl (by unfold maxLen; omega)
  have hg : Gr w (w.alloc (.cells ((pcs s).map Value.string).toArray 9)) := (Gr.refl _).alloc _
  obtain ⟨P, hP⟩ : ∃ P, P = pcs s := ⟨_, rfl⟩
  obtain ⟨w1, hw1⟩ : ∃ w1, w1 = w.alloc (.cells ((pcs s).map Value.string).toArray 9) := ⟨_, rfl⟩
  rw [← hw1] at hsp hv hg
  rw [← hP] at hsp hv hlen
  have HB : Hid (∀ (k : Nat) (hk : k < P.length), okB P[k] = false → wdB s = none) := by
    subst hP; exact fun k hk h => bad_none hk h
  have HG : Hid ((∀ (k : Nat) (hk : k < P.length), okB P[k] = true) → wdB s = some P) := by
    subst hP; exact fun h => good_some h
  have HM : Hid (∀ (k : Nat) (hk : k < P.length), P[k].size ≤ s.size) := by
    subst hP; exact fun k hk => pcs_size (List.getElem_mem hk)
  have HS := Lib.hid hsp
  have HV := Lib.hid hv
  clear hP hw1 hsp hv
  go_enter Tryd.func31, Tryd.ntmps31
  go_wp2_with fail
  go_step3
  go_wp2_with fail
  refine HS.out.mono ?_
  rintro e w2 ⟨rfl, rfl⟩
  go_wp2_with fail
  go_step3
  go_wp2_with fail
  go_loopg [6, 7, 12] P.length (fun gh _ _ x12 wx => ∃ k : Nat, k + gh = P.length ∧ x12 = .int .i64 k ∧ Hid (∀ (j : Nat) (hj : j < P.length), j < k → okB P[j] = true) ∧ w2 = wx)
  case atStart => exact ⟨0, by omega, rfl, fun j hj h => by omega, rfl⟩
  case round =>
    obtain ⟨k, hkg, rfl, HA, rfl⟩ := hrel
    have HKG := Lib.hid hkg
    clear hkg
    by_cases hlt : k < P.length
    · obtain ⟨bb, oo, eb, zlt, cx⟩ := vals_at HV.out k hlt
      simp only [Option.some.injEq, Addr.mk.injEq, and_true] at eb
      obtain ⟨rfl, rfl⟩ := eb
      rw [Nat.zero_add] at cx
      have hbad := HB.out k hlt
      have hmx := HM.out k hlt
      have HI := Lib.hid (okB_iff P[k])
      have HA' : Hid (okB P[k] = true → ∀ (j : Nat) (hj : j < P.length), j < k + 1 → okB P[j] = true) := by
        intro h j hj hj2
        by_cases e : j = k
        · subst e; exact h
        · exact HA.out j hj (by omega)
      obtain ⟨x, hx⟩ : ∃ x, x = P[k] := ⟨_, rfl⟩
      rw [← hx] at cx hbad HI HA' hmx
      have HBAD := Lib.hid hbad
      clear hx hbad HA
      have k1 : (k : Int) < (P.length : Int) := by omega
      by_cases h0 : x.size = 0
      · have hz : x.toList.isEmpty = true := by rw [List.isEmpty_iff]; exact toList_nil5.2 h0
        have HN := Lib.hid (HBAD.out (okB_no (fun h => by omega)))
        clear h0 HI HA' HBAD
        go_wp2
        try rw [Exit.noGoto_ret]
        go_ret2
        exact RetWc.no HN.out hg
      · have hz : x.toList.isEmpty = false := by
          cases hq : x.toList.isEmpty with
          | false => rfl
          | true => exact absurd (toList_nil5.1 (List.isEmpty_iff.1 hq)) h0
        have hx0 : 0 < x.size := by omega
        clear h0
        go_wp2_with fail
        go_loopg [7, 24, 35] x.size (fun g2 x7 _ _ wy => ∃ j : Nat, j + g2 = x.size ∧ x7 = .int .i64 j ∧ j < x.size ∧ Hid (∀ (i : Nat) (h : i < x.size), i < j → 33 ≤ ((x[i]).toNat : Int) ∧ ((x[i]).toNat : Int) ≤ 126) ∧ w2 = wy)
        case atStart => exact ⟨0, by omega, rfl, hx0, fun i h h2 => by omega, rfl⟩
        case round =>
          obtain ⟨j, hjg, rfl, hj, HJ, rfl⟩ := hrel
          have HJG := Lib.hid hjg
          clear hjg
          have j1 : (j : Int) < (x.size : Int) := by omega
          by_cases hw : 33 ≤ ((x[j]).toNat : Int) ∧ ((x[j]).toNat : Int) ≤ 126
          · have HJ' : Hid (∀ (i : Nat) (h : i < x.size), i < j + 1 → 33 ≤ ((x[i]).toNat : Int) ∧ ((x[i]).toNat : Int) ≤ 126) := by
              intro i h h2
              by_cases e : i = j
              · subst e; exact hw
              · exact HJ.out i h (by omega)
            obtain ⟨hw1, hw2⟩ := hw
            clear HJ
            by_cases hl : j + 1 = x.size
            · have t1 : ((j : Int) == (x.size : Int) - 1) = true := by simp; omega
              have HN : Hid (∀ (j : Nat) (hj : j < P.length), j < k + 1 → okB P[j] = true) := HA'.out (HI.out.2 ⟨hx0, fun i h => HJ'.out i h (by omega)⟩)
              clear hl HJ' HI
              go_wp2
              go_roundg (P.length - (k + 1))
              case measure => have := HKG.out; omega
              case rel => exact ⟨k + 1, by have := HKG.out; omega, by go_num, HN.out, rfl⟩
            · have t1 : ((j : Int) == (x.size : Int) - 1) = false := by simp; omega
              have hl2 : j + 1 < x.size := by omega
              clear hl
              go_wp2
              go_roundg (x.size - (j + 1))
              case measure => have := HJG.out; omega
              case rel => exact ⟨j + 1, by have := HJG.out; omega, by go_num, hl2, HJ'.out, rfl⟩
          · have HN := Lib.hid (HBAD.out (okB_no (fun h => hw (h.2 j hj))))
            have hw' : ¬ 33 ≤ ((x[j]).toNat : Int) ∨ ¬ ((x[j]).toNat : Int) ≤ 126 := by
              rcases Classical.em (33 ≤ ((x[j]).toNat : Int)) with h | h
              · right; intro h2; exact hw ⟨h, h2⟩
              · exact .inl h
            clear hw HJ HI HA' HBAD
            rcases hw' with hw' | hw'
            all_goals
              go_wp2
              all_goals try rw [Exit.noGoto_ret]
              all_goals go_ret2
              all_goals exact RetWc.no HN.out hg
    · have HN := Lib.hid (HG.out fun j hj => HA.out j hj (by omega))
      clear HA
      go_wp2
      try rw [Exit.noGoto_ret]
      go_ret2
      exact RetWc.yes HN.out HV.out (fun a n c e => by cases e; exact Nat.le_refl _) hg
end Go.Proofs.YtgjnlgcdpbilfaaDoor
