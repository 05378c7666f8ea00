/- Sml: Small: the plan that every group's known builds.
Net1: the net's small methods.
Net2: the net's Next; walk.lies; lamp.Passes.
Net3: the net's Outs.
Net4: the net's Through.
Net5: walk.Step.
Bod: bodies; body.Head.
Ref1: the reference's passes and Lies.
Ref2: the plain tie between the net's element and the reference's kind.
SeeP: How far a head sees: plain.
FinP: What a fine plan is: plain. The small plan is one.
FstP: The first of a list that a test takes: plain.
WrdP: Lines and words: plain. No program. -/
import Derived.Test.YtknmngejjoohdaaGreatDoorRows
import Derived.Test.YtknmngejjoohdaaGreatDoorB15
import Derived.Deep.Cut
import Derived.Test.YtknmngejjoohdaaGreatDoorB12
import Derived.BigRegion
import Derived.Deep.DrawnRows
import Derived.Test.YtknmngejjoohdaaGreatDoorB2
import Derived.Test.YtknmngejjoohdaaGreatDoorB1
import Derived.Test.YtknmngejjoohdaaGreatDoorB3
namespace Go.Proofs.YtknmngejjoohdaaGreatDoor
open Go.ChangeShapes Go.WideShapes Go.ChangeAt Go.RowKit Go.Maps
set_option linter.unusedVariables false
set_option linter.unusedSimpArgs false
def smallP : Pln where
  es := [⟨⟨#[87]⟩, 4, 0⟩, ⟨⟨#[65]⟩, 1, 20⟩, ⟨⟨#[80]⟩, 2, 10⟩, ⟨⟨#[66]⟩, 1, 20⟩, ⟨⟨#[67]⟩, 1, 30⟩, ⟨⟨#[69]⟩, 4, 0⟩]
  js := [⟨⟨0, 0⟩, ⟨1, 0⟩⟩, ⟨⟨1, 1⟩, ⟨2, 0⟩⟩, ⟨⟨2, 1⟩, ⟨3, 0⟩⟩, ⟨⟨3, 1⟩, ⟨5, 0⟩⟩, ⟨⟨2, 2⟩, ⟨4, 0⟩⟩]
  ss := [⟨⟨#[119]⟩, ⟨0, 0⟩, false⟩, ⟨⟨#[97]⟩, ⟨1, 1⟩, false⟩, ⟨⟨#[101]⟩, ⟨5, 0⟩, false⟩, ⟨⟨#[98]⟩, ⟨3, 0⟩, false⟩, ⟨⟨#[99]⟩, ⟨4, 0⟩, false⟩]
  ls := []
  top := 10
  brake := 5
  margin := 15
  throw := 2
  hard := false
theorem join_any (a x b y : Int) (w : World) :
    Calls Tryz.prog 68 #[.int .i64 a, .int .i64 x, .int .i64 b, .int .i64 y] w fun e w' => e = .returned (.agg #[.int .i64 a, .int .i64 x, .int .i64 b, .int .i64 y]) ∧ Gr w w' := by
  go_enter Tryz.func68, Tryz.ntmps68
  go_wp2_with fail
  refine bodyPost_ret (v := .agg #[.int .i64 a, .int .i64 x, .int .i64 b, .int .i64 y]) (by simp [results, Tryz.results68, go_sem]) rfl ⟨rfl, ?_⟩
  exact (Gr.refl _).alloc _
theorem IsRow.setc {w : World} {v : Value} {sz n b o : Nat} {C : Nat → Nat → Value} (h : IsRow w v sz n C) (hne : ∀ bq, v.ownBlock = some bq → bq ≠ b) (u : Value) : IsRow (w.setCell ⟨b, o, none⟩ u) v sz n C := by
  obtain ⟨a, c, rfl, hm, hx⟩ := h
  refine ⟨a, c, rfl, hm, ?_⟩
  rcases hx with hx | ⟨bb, off, rfl, hb, hc⟩
  · exact .inl hx
  · refine .inr ⟨bb, off, rfl, by simpa using hb, fun i j hi hj => ?_⟩
    have hn := hne bb rfl
    rw [World.cell?_setCell_other _ _ _ _ (by intro e; exact hn (by injection e with e1; exact e1.symm))]
    exact hc i j hi hj
theorem row_lit {w : World} {T : TypeId} {cs : Array Value} {sz n c g : Nat} {C : Nat → Nat → Value} (hg : g = w.heap.size) (hm : n ≤ maxLen) (h : ∀ i j, i < n → j < sz → cs[i * sz + j]? = some (C i j)) : IsRow (w.alloc (.cells cs T)) (.slice (some ⟨g, 0, none⟩) n c) sz n C := by
  subst hg
  refine ⟨_, c, rfl, hm, .inr ⟨w.heap.size, 0, rfl, by simp, fun i j hi hj => ?_⟩⟩
  rw [World.cell?_alloc_mark]
  simpa using h i j hi hj
theorem row_es : ∀ i j, i < 6 → j < 3 → (#[Value.string ⟨#[87]⟩, .int .i64 4, .int .i64 0, .string ⟨#[65]⟩, .int .i64 1, .int .i64 20, .string ⟨#[80]⟩, .int .i64 2, .int .i64 10, .string ⟨#[66]⟩, .int .i64 1, .int .i64 20, .string ⟨#[67]⟩, .int .i64 1, .int .i64 30, .string ⟨#[69]⟩, .int .i64 4, .int .i64 0] : Array Value)[i * 3 + j]? = some ((smallP.es.getD i default).c j) := by
  intro i j hi hj
  have h1 : i = 0 ∨ i = 1 ∨ i = 2 ∨ i = 3 ∨ i = 4 ∨ i = 5 := by omega
  have h2 : j = 0 ∨ j = 1 ∨ j = 2 := by omega
  rcases h1 with rfl | rfl | rfl | rfl | rfl | rfl <;> rcases h2 with rfl | rfl | rfl <;> rfl
theorem row_js : ∀ i j, i < 5 → j < 4 → (#[Value.int .i64 0, .int .i64 0, .int .i64 1, .int .i64 0, .int .i64 1, .int .i64 1, .int .i64 2, .int .i64 0, .int .i64 2, .int .i64 1, .int .i64 3, .int .i64 0, .int .i64 3, .int .i64 1, .int .i64 5, .int .i64 0, .int .i64 2, .int .i64 2, .int .i64 4, .int .i64 0] : Array Value)[i * 4 + j]? = some ((smallP.js.getD i default).c j) := by
  intro i j hi hj
  have h1 : i = 0 ∨ i = 1 ∨ i = 2 ∨ i = 3 ∨ i = 4 := by omega
  have h2 : j = 0 ∨ j = 1 ∨ j = 2 ∨ j = 3 := by omega
  rcases h1 with rfl | rfl | rfl | rfl | rfl <;> rcases h2 with rfl | rfl | rfl | rfl <;> rfl
theorem row_ss : ∀ i j, i < 5 → j < 4 → (#[Value.string ⟨#[119]⟩, .int .i64 0, .int .i64 0, .bool false, .string ⟨#[97]⟩, .int .i64 1, .int .i64 1, .bool false, .string ⟨#[101]⟩, .int .i64 5, .int .i64 0, .bool false, .string ⟨#[98]⟩, .int .i64 3, .int .i64 0, .bool false, .string ⟨#[99]⟩, .int .i64 4, .int .i64 0, .bool false] : Array Value)[i * 4 + j]? = some ((smallP.ss.getD i default).c j) := by
  intro i j hi hj
  have h1 : i = 0 ∨ i = 1 ∨ i = 2 ∨ i = 3 ∨ i = 4 := by omega
  have h2 : j = 0 ∨ j = 1 ∨ j = 2 ∨ j = 3 := by omega
  rcases h1 with rfl | rfl | rfl | rfl | rfl <;> rcases h2 with rfl | rfl | rfl | rfl <;> rfl
theorem wx_size (w5 : World) (b : Nat) (E J S : Value) : (((((((((((w5.setCell ⟨b + 1, 1, none⟩ J).setCell ⟨b + 1, 2, none⟩ S).setCell ⟨b, 0, none⟩ E).setCell ⟨b, 1, none⟩ J).setCell ⟨b, 2, none⟩ S).setCell ⟨b, 3, none⟩ (.slice none 0 0)).setCell ⟨b, 4, none⟩ (.int .i64 10)).setCell ⟨b, 5, none⟩ (.int .i64 5)).setCell ⟨b, 6, none⟩ (.int .i64 15)).setCell ⟨b, 7, none⟩ (.int .i64 2)).setCell ⟨b, 8, none⟩ (.bool false)).heap.size = w5.heap.size := by simp
set_option maxRecDepth 100000 in
set_option maxHeartbeats 2000000 in
theorem small_any (w : World) : Calls Tryz.prog 33 #[] w fun e w' => ∃ v, e = .returned v ∧ IsPln w' v smallP ∧ Gr w w' := by
  have hR : Gr w (((w.alloc (.cells #[.slice none 0 0, .slice none 0 0, .slice none 0 0, .slice none 0 0, .int .i64 0, .int .i64 0, .int .i64 0, .int .i64 0, .bool false] 28)).alloc (.cells #[.slice (some ⟨w.heap.size + 1 + 1, 0, none⟩) 6 6, .slice none 0 0, .slice none 0 0, .slice none 0 0, .int .i64 10, .int .i64 5, .int .i64 15, .int .i64 2, .bool false] 28)).alloc (.cells #[.string ⟨#[87]⟩, .int .i64 4, .int .i64 0, .string ⟨#[65]⟩, .int .i64 1, .int .i64 20, .string ⟨#[80]⟩, .int .i64 2, .int .i64 10, .string ⟨#[66]⟩, .int .i64 1, .int .i64 20, .string ⟨#[67]⟩, .int .i64 1, .int .i64 30, .string ⟨#[69]⟩, .int .i64 4, .int .i64 0] 80)) := (((Gr.refl w).alloc _).alloc _).alloc _
  have HSC : Hid (∀ w', Gr (((w.alloc (.cells #[.slice none 0 0, .slice none 0 0, .slice none 0 0, .slice none 0 0, .int .i64 0, .int .i64 0, .int .i64 0, .int .i64 0, .bool false] 28)).alloc (.cells #[.slice (some ⟨w.heap.size + 1 + 1, 0, none⟩) 6 6, .slice none 0 0, .slice none 0 0, .slice none 0 0, .int .i64 10, .int .i64 5, .int .i64 15, .int .i64 2, .bool false] 28)).alloc (.cells #[.string ⟨#[87]⟩, .int .i64 4, .int .i64 0, .string ⟨#[65]⟩, .int .i64 1, .int .i64 20, .string ⟨#[80]⟩, .int .i64 2, .int .i64 10, .string ⟨#[66]⟩, .int .i64 1, .int .i64 20, .string ⟨#[67]⟩, .int .i64 1, .int .i64 30, .string ⟨#[69]⟩, .int .i64 4, .int .i64 0] 80)) w' → w.heap.size + 1 + 1 < w'.heap.size ∧ w'.cell? ⟨w.heap.size, 0, none⟩ = some (Value.slice none 0 0) ∧ w'.cell? ⟨w.heap.size, 1, none⟩ = some (Value.slice none 0 0) ∧ w'.cell? ⟨w.heap.size, 2, none⟩ = some (Value.slice none 0 0) ∧ w'.cell? ⟨w.heap.size, 3, none⟩ = some (Value.slice none 0 0) ∧ w'.cell? ⟨w.heap.size, 4, none⟩ = some (Value.int .i64 0) ∧ w'.cell? ⟨w.heap.size, 5, none⟩ = some (Value.int .i64 0) ∧ w'.cell? ⟨w.heap.size, 6, none⟩ = some (Value.int .i64 0) ∧ w'.cell? ⟨w.heap.size, 7, none⟩ = some (Value.int .i64 0) ∧ w'.cell? ⟨w.heap.size, 8, none⟩ = some (Value.bool false) ∧ w'.cell? ⟨w.heap.size + 1, 0, none⟩ = some (Value.slice (some ⟨w.heap.size + 1 + 1, 0, none⟩) 6 6) ∧ w'.cell? ⟨w.heap.size + 1, 1, none⟩ = some (Value.slice none 0 0) ∧ w'.cell? ⟨w.heap.size + 1, 2, none⟩ = some (Value.slice none 0 0) ∧ w'.cell? ⟨w.heap.size + 1, 3, none⟩ = some (Value.slice none 0 0) ∧ w'.cell? ⟨w.heap.size + 1, 4, none⟩ = some (Value.int .i64 10) ∧ w'.cell? ⟨w.heap.size + 1, 5, none⟩ = some (Value.int .i64 5) ∧ w'.cell? ⟨w.heap.size + 1, 6, none⟩ = some (Value.int .i64 15) ∧ w'.cell? ⟨w.heap.size + 1, 7, none⟩ = some (Value.int .i64 2) ∧ w'.cell? ⟨w.heap.size + 1, 8, none⟩ = some (Value.bool false) ∧ w'.frozen? ⟨w.heap.size, 0, none⟩ = false ∧ w'.frozen? ⟨w.heap.size, 1, none⟩ = false ∧ w'.frozen? ⟨w.heap.size, 2, none⟩ = false ∧ w'.frozen? ⟨w.heap.size, 3, none⟩ = false ∧ w'.frozen? ⟨w.heap.size, 4, none⟩ = false ∧ w'.frozen? ⟨w.heap.size, 5, none⟩ = false ∧ w'.frozen? ⟨w.heap.size, 6, none⟩ = false ∧ w'.frozen? ⟨w.heap.size, 7, none⟩ = false ∧ w'.frozen? ⟨w.heap.size, 8, none⟩ = false ∧ w'.frozen? ⟨w.heap.size + 1, 1, none⟩ = false ∧ w'.frozen? ⟨w.heap.size + 1, 2, none⟩ = false) := by
    intro w' g
    have hz : w.heap.size + 1 + 1 < ((((w.alloc (.cells #[.slice none 0 0, .slice none 0 0, .slice none 0 0, .slice none 0 0, .int .i64 0, .int .i64 0, .int .i64 0, .int .i64 0, .bool false] 28)).alloc (.cells #[.slice (some ⟨w.heap.size + 1 + 1, 0, none⟩) 6 6, .slice none 0 0, .slice none 0 0, .slice none 0 0, .int .i64 10, .int .i64 5, .int .i64 15, .int .i64 2, .bool false] 28)).alloc (.cells #[.string ⟨#[87]⟩, .int .i64 4, .int .i64 0, .string ⟨#[65]⟩, .int .i64 1, .int .i64 20, .string ⟨#[80]⟩, .int .i64 2, .int .i64 10, .string ⟨#[66]⟩, .int .i64 1, .int .i64 20, .string ⟨#[67]⟩, .int .i64 1, .int .i64 30, .string ⟨#[69]⟩, .int .i64 4, .int .i64 0] 80))).heap.size := by simp
    refine ⟨Nat.lt_of_lt_of_le hz g.size, ?_, ?_, ?_, ?_, ?_, ?_, ?_, ?_, ?_, ?_, ?_, ?_, ?_, ?_, ?_, ?_, ?_, ?_, ?_, ?_, ?_, ?_, ?_, ?_, ?_, ?_, ?_, ?_, ?_⟩
    all_goals first
      | exact (g.cell _ _ (by omega)).trans (by go_simp)
      | exact (g.frozen _ _ (by omega)).trans (by go_simp)
  go_enter Tryz.func33, Tryz.ntmps33
  go_wp2_with fail
  refine (join_any _ _ _ _ _).mono ?_
  rintro e w1 ⟨rfl, g1⟩
  go_wp2_with fail
  refine (join_any _ _ _ _ _).mono ?_
  rintro e w2 ⟨rfl, g2⟩
  go_wp2_with fail
  refine (join_any _ _ _ _ _).mono ?_
  rintro e w3 ⟨rfl, g3⟩
  go_wp2_with fail
  refine (join_any _ _ _ _ _).mono ?_
  rintro e w4 ⟨rfl, g4⟩
  go_wp2_with fail
  refine (join_any _ _ _ _ _).mono ?_
  rintro e w5 ⟨rfl, g5⟩
  have gg := (((g1.trans g2).trans g3).trans g4).trans g5
  obtain ⟨z5, r0, r1, r2, r3, r4, r5, r6, r7, r8, p0, p1, p2, p3, p4, p5, p6, p7, p8, f0, f1, f2, f3, f4, f5, f6, f7, f8, k1, k2⟩ := HSC.out _ gg
  have za : w.heap.size < w5.heap.size := by omega
  have zb : w.heap.size + 1 < w5.heap.size := by omega
  go_wp2_with fail
  refine bodyPost_ret (v := plnV smallP (.slice (some ⟨w.heap.size + 1 + 1, 0, none⟩) 6 6) (.slice (some ⟨w5.heap.size, 0, none⟩) 5 5) (.slice (some ⟨w5.heap.size + 1, 0, none⟩) 5 5) (.slice none 0 0)) (by simp [results, Tryz.results33, go_sem, r0, r1, r2, r3, r4, r5, r6, r7, r8, f0, f1, f2, f3, f4, f5, f6, f7, f8, za]; rfl) rfl ?_
  have hE : IsRow w5 (.slice (some ⟨w.heap.size + 1 + 1, 0, none⟩) 6 6) 3 6 (fun i j => (smallP.es.getD i default).c j) :=
    (row_lit (w := ((w.alloc (.cells #[.slice none 0 0, .slice none 0 0, .slice none 0 0, .slice none 0 0, .int .i64 0, .int .i64 0, .int .i64 0, .int .i64 0, .bool false] 28)).alloc (.cells #[.slice (some ⟨w.heap.size + 1 + 1, 0, none⟩) 6 6, .slice none 0 0, .slice none 0 0, .slice none 0 0, .int .i64 10, .int .i64 5, .int .i64 15, .int .i64 2, .bool false] 28))) (by simp) (by unfold maxLen; omega) row_es).gr gg
  have hne : ∀ b, (Value.slice (some ⟨w.heap.size + 1 + 1, 0, none⟩) 6 6).ownBlock = some b → b ≠ w.heap.size ∧ b ≠ w.heap.size + 1 := fun b e => by simp [Value.ownBlock] at e; omega
  have hn0 := fun b e => (hne b e).1
  have hn1 := fun b e => (hne b e).2
  have hE2 := (((((((((((hE.setc (o := 1) hn1 (.slice (some ⟨w5.heap.size, 0, none⟩) 5 5)).setc (o := 2) hn1 (.slice (some ⟨w5.heap.size + 1, 0, none⟩) 5 5)).setc (o := 0) hn0 (.slice (some ⟨w.heap.size + 1 + 1, 0, none⟩) 6 6)).setc (o := 1) hn0 (.slice (some ⟨w5.heap.size, 0, none⟩) 5 5)).setc (o := 2) hn0 (.slice (some ⟨w5.heap.size + 1, 0, none⟩) 5 5)).setc (o := 3) hn0 (.slice none 0 0)).setc (o := 4) hn0 (.int .i64 10)).setc (o := 5) hn0 (.int .i64 5)).setc (o := 6) hn0 (.int .i64 15)).setc (o := 7) hn0 (.int .i64 2)).setc (o := 8) hn0 (.bool false))
  have hb0 : w.heap.size ≤ w.heap.size := Nat.le_refl _
  have hb1 : w.heap.size ≤ w.heap.size + 1 := Nat.le_succ _
  have hg := (hR.trans gg)
  have hg2 := ((((((((((((hg.setCell (p := ⟨w.heap.size + 1, 1, none⟩) hb1 (.slice (some ⟨w5.heap.size, 0, none⟩) 5 5)).setCell (p := ⟨w.heap.size + 1, 2, none⟩) hb1 (.slice (some ⟨w5.heap.size + 1, 0, none⟩) 5 5)).setCell (p := ⟨w.heap.size, 0, none⟩) hb0 (.slice (some ⟨w.heap.size + 1 + 1, 0, none⟩) 6 6)).setCell (p := ⟨w.heap.size, 1, none⟩) hb0 (.slice (some ⟨w5.heap.size, 0, none⟩) 5 5)).setCell (p := ⟨w.heap.size, 2, none⟩) hb0 (.slice (some ⟨w5.heap.size + 1, 0, none⟩) 5 5)).setCell (p := ⟨w.heap.size, 3, none⟩) hb0 (.slice none 0 0)).setCell (p := ⟨w.heap.size, 4, none⟩) hb0 (.int .i64 10)).setCell (p := ⟨w.heap.size, 5, none⟩) hb0 (.int .i64 5)).setCell (p := ⟨w.heap.size, 6, none⟩) hb0 (.int .i64 15)).setCell (p := ⟨w.heap.size, 7, none⟩) hb0 (.int .i64 2)).setCell (p := ⟨w.heap.size, 8, none⟩) hb0 (.bool false)))
  have hz := wx_size w5 w.heap.size (.slice (some ⟨w.heap.size + 1 + 1, 0, none⟩) 6 6) (.slice (some ⟨w5.heap.size, 0, none⟩) 5 5) (.slice (some ⟨w5.heap.size + 1, 0, none⟩) 5 5)
  generalize World.setCell _ ⟨w.heap.size, 8, none⟩ (.bool false) = Wx at hE2 hg2 hz ⊢
  refine ⟨_, rfl, ⟨_, 6, _, 5, _, 5, none, 0, rfl, (hE2.gr ((Gr.refl _).alloc _)).gr ((Gr.refl _).alloc _), ?_, ?_, ?_⟩, (hg2.alloc _).alloc _⟩
  · exact (row_lit (w := Wx) hz.symm (by unfold maxLen; omega) row_js).gr ((Gr.refl _).alloc _)
  · exact row_lit (w := World.alloc Wx _) (by simp [hz]) (by show 5 ≤ maxLen; unfold maxLen; omega) row_ss
  · exact ⟨fun _ => .slice none 0 0, ⟨none, 0, rfl, by unfold maxLen; simp [smallP], .inl rfl⟩, fun i hi => absurd hi (by simp [smallP])⟩
end Go.Proofs.YtknmngejjoohdaaGreatDoor
namespace Go.Proofs.YtknmngejjoohdaaGreatDoor
open Go.ChangeShapes Go.WideShapes Go.ChangeAt Go.RowKit Go.Maps
set_option linter.unusedVariables false
set_option linter.unusedSimpArgs false
end Go.Proofs.YtknmngejjoohdaaGreatDoor
namespace Go.Proofs.YtknmngejjoohdaaGreatDoor
open Go.ChangeShapes Go.WideShapes Go.ChangeAt Go.RowKit Go.Maps
set_option linter.unusedVariables false
set_option linter.unusedSimpArgs false
end Go.Proofs.YtknmngejjoohdaaGreatDoor
namespace Go.Proofs.YtknmngejjoohdaaGreatDoor
open Go.ChangeShapes Go.WideShapes Go.ChangeAt Go.RowKit Go.Maps
set_option linter.unusedVariables false
set_option linter.unusedSimpArgs false
end Go.Proofs.YtknmngejjoohdaaGreatDoor
namespace Go.Proofs.YtknmngejjoohdaaGreatDoor
open Go.ChangeShapes Go.WideShapes Go.ChangeAt Go.RowKit Go.Maps
set_option linter.unusedVariables false
set_option linter.unusedSimpArgs false
end Go.Proofs.YtknmngejjoohdaaGreatDoor
namespace Go.Proofs.YtknmngejjoohdaaGreatDoor
open Go.ChangeShapes Go.WideShapes Go.ChangeAt Go.RowKit Go.Maps
set_option linter.unusedVariables false
set_option linter.unusedSimpArgs false
end Go.Proofs.YtknmngejjoohdaaGreatDoor
namespace Go.Proofs.YtknmngejjoohdaaGreatDoor
open Go.ChangeShapes Go.WideShapes Go.ChangeAt Go.RowKit Go.Maps
set_option linter.unusedVariables false
set_option linter.unusedSimpArgs false
structure Bdy where
  mode : Int
  trail : List Prt
  left : Int
  over : Int
  v : Int
def bdyV (B : Bdy) (t : Value) : Value := .agg #[.int .i64 B.mode, t, .int .i64 B.left, .int .i64 B.over, .int .i64 B.v]
def IsBdy (w : World) (v : Value) (B : Bdy) : Prop := ∃ a c, v = bdyV B (.slice a B.trail.length c) ∧ IsPrts w (.slice a B.trail.length c) B.trail
theorem IsBdy.gr {w w' : World} {v : Value} {B : Bdy} (h : IsBdy w v B) (g : Gr w w') : IsBdy w' v B := by
  obtain ⟨a, c, rfl, h1⟩ := h
  exact ⟨a, c, rfl, h1.gr g⟩
end Go.Proofs.YtknmngejjoohdaaGreatDoor
namespace Go.Proofs.YtknmngejjoohdaaGreatDoor
open Go.ChangeShapes Go.WideShapes Go.ChangeAt Go.RowKit Go.Maps
set_option linter.unusedVariables false
set_option linter.unusedSimpArgs false
end Go.Proofs.YtknmngejjoohdaaGreatDoor
namespace Go.Proofs.YtknmngejjoohdaaGreatDoor
open Go.ChangeShapes Go.WideShapes Go.ChangeAt Go.RowKit Go.Maps
set_option linter.unusedVariables false
end Go.Proofs.YtknmngejjoohdaaGreatDoor
namespace Go.Proofs.YtknmngejjoohdaaGreatDoor
open Go.ChangeShapes Go.WideShapes Go.ChangeAt Go.RowKit Go.Maps
set_option linter.unusedVariables false
theorem I64_of {x : Int} (h0 : -9223372036854775808 ≤ x) (h1 : x ≤ 9223372036854775807) : I64 x := by
  rw [← IntWalk.i64_in x ⟨h0, h1⟩]; exact i64_wrap _
end Go.Proofs.YtknmngejjoohdaaGreatDoor
namespace Go.Proofs.YtknmngejjoohdaaGreatDoor
open Go.ChangeShapes Go.WideShapes Go.ChangeAt Go.RowKit Go.Maps
set_option linter.unusedVariables false
set_option linter.unusedSimpArgs false
theorem fine_chk {P : Pln} (h : fineB P = true) : chk P = 0 := by
  unfold fineB at h
  simp only [Bool.and_eq_true, decide_eq_true_eq] at h
  exact h.2
theorem fine_parts {P : Pln} (h : chk P = 0) : argsB P = true ∧ joinedB P = true ∧ signalsB P = true ∧ linesB P = true := by
  unfold chk at h
  split at h
  · omega
  split at h
  · omega
  split at h
  · omega
  split at h
  · omega
  split at h
  · omega
  split at h
  · omega
  rename_i h1 h2 h3 h4 h5 h6
  exact ⟨by simpa using h2, by simpa using h4, by simpa using h5, by simpa using h6⟩
theorem fine_ele {P : Pln} (h : chk P = 0) : ∀ e ∈ P.es, nmB e.n = true ∧ (1 ≤ e.k ∧ e.k ≤ 4) ∧ 0 ≤ e.l ∧ e.l ≤ 4000 ∧ (e.k ≠ 4 → 1 ≤ e.l) ∧ (e.k = 4 → e.l = 0) := by
  intro e he
  have ha := (fine_parts h).1
  rw [argsB_eq] at ha
  simp only [Bool.and_eq_true, List.all_eq_true] at ha
  have hb := ha.1.1.2 e he
  unfold eleB inB at hb
  simp only [Bool.and_eq_true, Bool.not_eq_true', decide_eq_false_iff_not] at hb
  obtain ⟨⟨h1, h2⟩, h3⟩ := hb
  have hk : 1 ≤ e.k ∧ e.k ≤ 4 := by
    unfold endsK at h2
    omega
  refine ⟨h1, hk, ?_⟩
  by_cases h4 : e.k = 4
  · rw [if_pos h4] at h3
    simp only [decide_eq_true_eq] at h3
    omega
  · rw [if_neg h4] at h3
    simp only [Bool.and_eq_true, decide_eq_true_eq] at h3
    omega
theorem small_ok : PlnOk smallP := by
  have z : ∀ x : Int, 0 ≤ x → x ≤ 100 → I64 x := fun x h0 h1 => I64_of (by omega) (by omega)
  refine ⟨?_, ?_, ?_, ?_, ?_⟩
  · intro e he
    simp only [smallP, List.mem_cons, List.not_mem_nil, or_false] at he
    rcases he with rfl | rfl | rfl | rfl | rfl | rfl <;> exact ⟨z _ (by decide) (by decide), z _ (by decide) (by decide), by decide⟩
  · intro e he
    simp only [smallP, List.mem_cons, List.not_mem_nil, or_false] at he
    rcases he with rfl | rfl | rfl | rfl | rfl <;> exact ⟨z _ (by decide) (by decide), z _ (by decide) (by decide), z _ (by decide) (by decide), z _ (by decide) (by decide)⟩
  · intro e he
    simp only [smallP, List.mem_cons, List.not_mem_nil, or_false] at he
    rcases he with rfl | rfl | rfl | rfl | rfl <;> exact ⟨z _ (by decide) (by decide), z _ (by decide) (by decide), by decide⟩
  · intro e he
    cases he
  · exact ⟨z _ (by decide) (by decide), z _ (by decide) (by decide), z _ (by decide) (by decide), z _ (by decide) (by decide)⟩
theorem small_fine : fineB smallP = true := by kernel_rfl
end Go.Proofs.YtknmngejjoohdaaGreatDoor
namespace Go.Proofs.YtknmngejjoohdaaGreatDoor
set_option linter.unusedVariables false
def fstB {α : Type} (p : α → Bool) : List α → Option Nat
  | [] => none
  | x :: t => if p x then some 0 else (fstB p t).map (· + 1)
def fstN {α : Type} (p : α → Bool) (l : List α) : Int := match fstB p l with | some k => (k : Int) | none => -1
theorem fstB_go {α : Type} (p : α → Bool) : ∀ (l : List α) (k : Nat) (hk : k < l.length), p l[k] = true → (∀ i (hi : i < l.length), i < k → p l[i] = false) → fstB p l = some k
  | [], k, hk, _, _ => absurd hk (by simp)
  | x :: t, 0, _, h, _ => by unfold fstB; rw [if_pos (show p x = true from h)]
  | x :: t, k + 1, hk, h, hn => by
    have h0 := hn 0 (by simp) (by omega)
    unfold fstB
    rw [if_neg (by rw [show p x = false from h0]; decide), fstB_go p t k (by simpa using hk) (by simpa using h) (fun i hi hik => by have := hn (i + 1) (by simpa using hi) (by omega); simpa using this)]
    rfl
theorem fstB_no {α : Type} (p : α → Bool) : ∀ (l : List α), (∀ i (hi : i < l.length), p l[i] = false) → fstB p l = none
  | [], _ => rfl
  | x :: t, hn => by
    have h0 := hn 0 (by simp)
    unfold fstB
    rw [if_neg (by rw [show p x = false from h0]; decide), fstB_no p t (fun i hi => by have := hn (i + 1) (by simpa using hi); simpa using this)]
    rfl
theorem fstB_some {α : Type} {p : α → Bool} : ∀ {l : List α} {k : Nat}, fstB p l = some k → ∃ h : k < l.length, p l[k] = true ∧ ∀ i (hi : i < l.length), i < k → p l[i] = false
  | [], _, h => by cases h
  | x :: t, k, h => by
    unfold fstB at h
    split at h
    · cases h; exact ⟨by simp, by assumption, fun i _ hi => by omega⟩
    · rename_i hne
      rw [Option.map_eq_some_iff] at h
      obtain ⟨m, hm, rfl⟩ := h
      obtain ⟨h1, h2, h3⟩ := fstB_some hm
      refine ⟨by simpa using h1, by simpa using h2, fun i hi hik => ?_⟩
      cases i with
      | zero => simpa using hne
      | succ i => have := h3 i (by simpa using hi) (by omega); simpa using this
theorem fstN_go {α : Type} (p : α → Bool) {l : List α} {k : Nat} (hk : k < l.length) (h : p l[k] = true) (hn : ∀ i (hi : i < l.length), i < k → p l[i] = false) : fstN p l = k := by
  unfold fstN; rw [fstB_go p l k hk h hn]
theorem fstN_no {α : Type} (p : α → Bool) {l : List α} (hn : ∀ i (hi : i < l.length), p l[i] = false) : fstN p l = -1 := by
  unfold fstN; rw [fstB_no p l hn]
theorem fstN_bd {α : Type} (p : α → Bool) (l : List α) : -1 ≤ fstN p l ∧ fstN p l < l.length := by
  unfold fstN
  cases h : fstB p l with
  | none => dsimp only; omega
  | some k => obtain ⟨h1, -⟩ := fstB_some h; dsimp only; omega
end Go.Proofs.YtknmngejjoohdaaGreatDoor
namespace Go.Proofs.YtknmngejjoohdaaGreatDoor
open Go.ChangeShapes Go.WideShapes Go.ChangeAt Go.RowKit
set_option linter.unusedVariables false
set_option linter.unusedSimpArgs false

def toB (l : List UInt8) : ByteArray := ⟨l.toArray⟩
theorem toB_data (s : ByteArray) : toB s.data.toList = s := by
  apply ByteArray.ext; simp [toB]
theorem data_extract (s : ByteArray) (a b : Nat) : (s.extract a b).data.toList = (s.data.toList.drop a).take (b - a) := by
  simp [ByteArray.data_extract, List.extract_eq_take_drop]
def lnsA (acc : List UInt8) : List UInt8 → List (List UInt8)
  | [] => if acc = [] then [] else [acc]
  | c :: t => if c = 10 then acc :: lnsA [] t else lnsA (acc ++ [c]) t
theorem lnsA_pre (t : List UInt8) : ∀ (p acc : List UInt8), (∀ c ∈ p, c ≠ 10) → lnsA acc (p ++ t) = lnsA (acc ++ p) t
  | [], acc, _ => by simp
  | c :: p, acc, h => by
    have hc : c ≠ 10 := h c (by simp)
    simp only [List.cons_append, lnsA, if_neg hc]
    rw [lnsA_pre t p _ fun d hd => h d (by simp [hd])]
    simp
def lnB (s : ByteArray) : List ByteArray := (lnsA [] s.data.toList).map toB
theorem lnB_empty (s : ByteArray) (h : s.data.toList = []) : lnB s = [] := by unfold lnB; rw [h]; rfl
theorem lnB_none (s : ByteArray) (h : s.data.toList ≠ []) (hn : ∀ c ∈ s.data.toList, c ≠ 10) : lnB s = [s] := by
  unfold lnB
  have := lnsA_pre [] s.data.toList [] hn
  rw [List.append_nil] at this
  rw [this]
  simp only [List.nil_append, lnsA, if_neg h, List.map_cons, List.map_nil, toB_data]
theorem take_drop_at {l : List UInt8} {i : Nat} {c : UInt8} (h : l[i]? = some c) : l = l.take i ++ c :: l.drop (i + 1) := by
  have hi : i < l.length := (List.getElem?_eq_some_iff.1 h).1
  have e := List.drop_eq_getElem_cons hi
  rw [List.getElem?_eq_getElem hi] at h
  rw [Option.some.inj h] at e
  rw [← e, List.take_append_drop]
theorem lnB_at (s : ByteArray) (i : Nat) (h : s.data.toList[i]? = some 10) (hn : ∀ c ∈ s.data.toList.take i, c ≠ 10) :
    lnB s = s.extract 0 i :: lnB (s.extract (i + 1) s.size) := by
  have hi : i < s.data.toList.length := (List.getElem?_eq_some_iff.1 h).1
  have e1 : (s.extract 0 i).data.toList = s.data.toList.take i := by rw [data_extract]; simp
  have e2 : (s.extract (i + 1) s.size).data.toList = s.data.toList.drop (i + 1) := by
    rw [data_extract]
    exact List.take_of_length_le (by simp)
  unfold lnB
  rw [e2]
  conv => lhs; rw [take_drop_at h]
  rw [lnsA_pre _ _ _ hn]
  simp only [List.nil_append, lnsA, if_pos, List.map_cons]
  rw [← e1, toB_data]
def lnR (s : ByteArray) (f i : Nat) : List ByteArray := (lnsA (s.extract f i).data.toList (s.data.toList.drop i)).map toB
theorem seg_snoc (s : ByteArray) (f i : Nat) (hf : f ≤ i) (hi : i < s.size) : (s.extract f (i + 1)).data.toList = (s.extract f i).data.toList ++ [s[i]] := by
  have hl : s.data.toList.length = s.size := by simp
  rw [data_extract, data_extract, show i + 1 - f = (i - f) + 1 from by omega, List.take_add_one]
  congr 1
  rw [List.getElem?_drop, show f + (i - f) = i from by omega, List.getElem?_eq_getElem (by omega)]
  rfl
theorem drop_at (s : ByteArray) (i : Nat) (hi : i < s.size) : s.data.toList.drop i = s[i] :: s.data.toList.drop (i + 1) := by
  have hl : s.data.toList.length = s.size := by simp
  rw [List.drop_eq_getElem_cons (by omega)]
  rfl
theorem seg_nil (s : ByteArray) (f : Nat) : (s.extract f f).data.toList = [] := by rw [data_extract]; simp
theorem lnR_start (s : ByteArray) : lnR s 0 0 = lnB s := by unfold lnR lnB; rw [seg_nil]; rfl
theorem lnR_nl (s : ByteArray) (f i : Nat) (hf : f ≤ i) (hi : i < s.size) (h : s[i] = 10) : lnR s f i = s.extract f i :: lnR s (i + 1) (i + 1) := by
  unfold lnR
  rw [drop_at s i hi, seg_nil]
  simp only [lnsA, h, if_pos, List.map_cons, toB_data]
theorem lnR_step (s : ByteArray) (f i : Nat) (hf : f ≤ i) (hi : i < s.size) (h : s[i] ≠ 10) : lnR s f i = lnR s f (i + 1) := by
  unfold lnR
  rw [drop_at s i hi, seg_snoc s f i hf hi]
  simp only [lnsA, if_neg h]
theorem lnR_end (s : ByteArray) (f : Nat) (hf : f ≤ s.size) : lnR s f s.size = if f < s.size then [s.extract f s.size] else [] := by
  have hl : s.data.toList.length = s.size := by simp
  unfold lnR
  rw [List.drop_of_length_le (by omega)]
  by_cases h : f < s.size
  · have hne : (s.extract f s.size).data.toList ≠ [] := by
      intro e
      have := congrArg List.length e
      rw [data_extract] at this
      simp at this
      omega
    rw [if_pos h]
    simp only [lnsA, if_neg hne, List.map_cons, List.map_nil, toB_data]
  · rw [if_neg h, show f = s.size from by omega, seg_nil]; rfl
def wrdB (c : UInt8) : Bool := decide (33 ≤ (c.toNat : Int)) && decide ((c.toNat : Int) ≤ 126)
def wdsA (acc : List UInt8) : List UInt8 → Option (List (List UInt8))
  | [] => if acc = [] then none else some [acc]
  | c :: t => if wrdB c then wdsA (acc ++ [c]) t else if c = 32 ∧ acc ≠ [] then (wdsA [] t).map (acc :: ·) else none
def wdB (s : ByteArray) : Option (List ByteArray) := (wdsA [] s.data.toList).map (·.map toB)
def wdR (s : ByteArray) (f i : Nat) : Option (List ByteArray) := (wdsA (s.extract f i).data.toList (s.data.toList.drop i)).map (·.map toB)
theorem wdR_start (s : ByteArray) : wdR s 0 0 = wdB s := by unfold wdR wdB; rw [seg_nil]; rfl
theorem wdR_step (s : ByteArray) (f i : Nat) (hf : f ≤ i) (hi : i < s.size) (h : wrdB s[i] = true) : wdR s f i = wdR s f (i + 1) := by
  unfold wdR
  rw [drop_at s i hi, seg_snoc s f i hf hi]
  simp only [wdsA, h, if_pos]
theorem seg_ne (s : ByteArray) (f i : Nat) (hf : f < i) (hi : i ≤ s.size) : (s.extract f i).data.toList ≠ [] := by
  intro e
  have hl : s.data.toList.length = s.size := by simp
  have := congrArg List.length e
  rw [data_extract] at this
  simp at this
  omega
theorem wdR_blank (s : ByteArray) (f i : Nat) (hf : f < i) (hi : i < s.size) (h : s[i] = 32) : wdR s f i = (wdR s (i + 1) (i + 1)).map (s.extract f i :: ·) := by
  unfold wdR
  rw [drop_at s i hi, seg_nil]
  have hne := seg_ne s f i hf (by omega)
  have hw : wrdB 32 = false := by decide
  simp only [wdsA, h, hw, if_pos, hne, ne_eq, not_false_eq_true, and_self, Bool.false_eq_true, if_false]
  cases wdsA [] (s.data.toList.drop (i + 1)) with
  | none => rfl
  | some l => simp only [Option.map_some, List.map_cons, toB_data]
theorem wdR_bad (s : ByteArray) (f i : Nat) (hf : f ≤ i) (hi : i < s.size) (h : wrdB s[i] = false) (hb : f = i ∨ s[i] ≠ 32) : wdR s f i = none := by
  unfold wdR
  rw [drop_at s i hi]
  simp only [wdsA, h, Bool.false_eq_true, if_false]
  rw [if_neg]
  · rfl
  · rintro ⟨h1, h2⟩
    rcases hb with hb | hb
    · subst hb; exact h2 (seg_nil s f)
    · exact hb h1
theorem wdR_end (s : ByteArray) (f : Nat) (hf : f ≤ s.size) : wdR s f s.size = if f < s.size then some [s.extract f s.size] else none := by
  have hl : s.data.toList.length = s.size := by simp
  unfold wdR
  rw [List.drop_of_length_le (by omega)]
  by_cases h : f < s.size
  · rw [if_pos h]
    simp only [wdsA, if_neg (seg_ne s f s.size h (by omega)), Option.map_some, List.map_cons, List.map_nil, toB_data]
  · rw [if_neg h, show f = s.size from by omega, seg_nil]; rfl
end Go.Proofs.YtknmngejjoohdaaGreatDoor
