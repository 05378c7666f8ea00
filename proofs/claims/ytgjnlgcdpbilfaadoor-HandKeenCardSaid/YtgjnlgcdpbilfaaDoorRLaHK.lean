/- HandKeen (region 5 printed by gen_lahk.py). -/
import Derived.Test.YtgjnlgcdpbilfaaDoorRows
import Derived.Test.YtgjnlgcdpbilfaaDoorB12
import Derived.Test.YtgjnlgcdpbilfaaDoorRKx
import Derived.Test.YtgjnlgcdpbilfaaDoorB10
import Derived.Test.YtgjnlgcdpbilfaaDoorB14
import Derived.Deep.Cut
import Derived.Deep.CutRange
import Derived.Deep.RegionHeld3
namespace Go.Proofs.YtgjnlgcdpbilfaaDoor
open Go.ChangeShapes Go.WideShapes Go.ChangeAt Go.RowKit Go.Maps
set_option linter.unusedVariables false
set_option linter.unusedSimpArgs false
def KeenS (w w2 : World) (nm : ByteArray) (l t a b mode : Int) (ta : Option Addr) (tn tc : Nat) (left over v : Int) (X : World) : Prop := Gr w2 X ∧ X.cell? ⟨w.heap.size, 0, none⟩ = some (.string nm) ∧ X.cell? ⟨w.heap.size, 1, none⟩ = some (.int .i64 l) ∧ X.cell? ⟨w.heap.size, 2, none⟩ = some (.int .i64 t) ∧ X.cell? ⟨w.heap.size, 3, none⟩ = some (.int .i64 a) ∧ X.cell? ⟨w.heap.size, 4, none⟩ = some (.int .i64 b) ∧ X.cell? ⟨w.heap.size + 1, 0, none⟩ = some (.int .i64 mode) ∧ X.cell? ⟨w.heap.size + 1, 1, none⟩ = some (.slice ta tn tc) ∧ X.cell? ⟨w.heap.size + 1, 2, none⟩ = some (.int .i64 left) ∧ X.cell? ⟨w.heap.size + 1, 3, none⟩ = some (.int .i64 over) ∧ X.cell? ⟨w.heap.size + 1, 4, none⟩ = some (.int .i64 v)
theorem keenS {w w2 X : World} {nm : ByteArray} {l t a b mode : Int} {ta : Option Addr} {tn tc : Nat} {left over v : Int} (g : Gr w2 X) (zm : w.heap.size < w2.heap.size) (zn : w.heap.size + 1 < w2.heap.size) (e0 : w2.cell? ⟨w.heap.size, 0, none⟩ = some (.string nm)) (e1 : w2.cell? ⟨w.heap.size, 1, none⟩ = some (.int .i64 l)) (e2 : w2.cell? ⟨w.heap.size, 2, none⟩ = some (.int .i64 t)) (e3 : w2.cell? ⟨w.heap.size, 3, none⟩ = some (.int .i64 a)) (e4 : w2.cell? ⟨w.heap.size, 4, none⟩ = some (.int .i64 b))
    (f0 : w2.cell? ⟨w.heap.size + 1, 0, none⟩ = some (.int .i64 mode)) (f1 : w2.cell? ⟨w.heap.size + 1, 1, none⟩ = some (.slice ta tn tc)) (f2 : w2.cell? ⟨w.heap.size + 1, 2, none⟩ = some (.int .i64 left)) (f3 : w2.cell? ⟨w.heap.size + 1, 3, none⟩ = some (.int .i64 over)) (f4 : w2.cell? ⟨w.heap.size + 1, 4, none⟩ = some (.int .i64 v)) : KeenS w w2 nm l t a b mode ta tn tc left over v X :=
  ⟨g, (g.cell _ _ zm).trans e0, (g.cell _ _ zm).trans e1, (g.cell _ _ zm).trans e2, (g.cell _ _ zm).trans e3, (g.cell _ _ zm).trans e4, (g.cell _ _ zn).trans f0, (g.cell _ _ zn).trans f1, (g.cell _ _ zn).trans f2, (g.cell _ _ zn).trans f3, (g.cell _ _ zn).trans f4⟩
def Bz (b : Nat) (u v : Value) (w : World) : Prop := b < w.heap.size ∧ w.cell? ⟨b, 0, none⟩ = some u ∧ w.cell? ⟨b, 1, none⟩ = some v ∧ w.frozen? ⟨b, 0, none⟩ = false ∧ w.frozen? ⟨b, 1, none⟩ = false
theorem Bz.new (w : World) (u v : Value) (T : TypeId) : Bz w.heap.size u v (w.alloc (.cells #[u, v] T)) := by
  refine ⟨by simp, ?_, ?_, ?_, ?_⟩ <;> simp
theorem Bz.gr {b : Nat} {u v : Value} {w w' : World} (h : Bz b u v w) (g : Gr w w') : Bz b u v w' := by
  obtain ⟨z, h0, h1, f0, f1⟩ := h
  exact ⟨Nat.lt_of_lt_of_le z g.size, (g.cell _ _ z).trans h0, (g.cell _ _ z).trans h1, (g.frozen _ _ z).trans f0, (g.frozen _ _ z).trans f1⟩
theorem Bz.set {b : Nat} {u v : Value} {w : World} (h : Bz b u v w) (x y : Value) : Bz b x y ((w.setCell ⟨b, 0, none⟩ x).setCell ⟨b, 1, none⟩ y) := by
  obtain ⟨z, h0, h1, f0, f1⟩ := h
  refine ⟨by simpa using z, ?_, ?_, ?_, ?_⟩ <;> go_simp
theorem Bz.keep {b c : Nat} {u v : Value} {w : World} (h : Bz c u v w) (hne : b ≠ c) (x y : Value) : Bz c u v ((w.setCell ⟨b, 0, none⟩ x).setCell ⟨b, 1, none⟩ y) := by
  obtain ⟨z, h0, h1, f0, f1⟩ := h
  have hn : c ≠ b := Ne.symm hne
  refine ⟨by simpa using z, ?_, ?_, ?_, ?_⟩
  · rw [World.cell?_setCell_other _ _ _ _ (by simp [hne, hn]), World.cell?_setCell_other _ _ _ _ (by simp [hne, hn])]; exact h0
  · rw [World.cell?_setCell_other _ _ _ _ (by simp [hne, hn]), World.cell?_setCell_other _ _ _ _ (by simp [hne, hn])]; exact h1
  · go_simp
  · go_simp
set_option maxRecDepth 100000 in
set_option maxHeartbeats 2000000 in
theorem handKeen_walk (sv : Value) (s : Stk) (bv : Value) (B : Bdy) (tick sees : Int) (turn : Bool) (w : World) (ht : w.ShapedOpen Tryd.prog) (hs : IsStk sv s) (hB : IsBdy w bv B ∧ (∀ x ∈ B.trail, PrtOk x) ∧ I64 B.mode ∧ I64 B.left ∧ I64 B.over ∧ I64 B.v) (wt : (Lit.int .i64 tick).wf = true) (ws : (Lit.int .i64 sees).wf = true) :
    Calls Tryd.prog 4 #[sv, bv, .int .i64 tick, .int .i64 sees, .bool turn] w fun e w' => e = .returned (.bool true) ∧ Gr w w' := by
  obtain ⟨nm, l, t, a, b⟩ := s
  obtain ⟨rfl, hsz, -⟩ := hs
  dsimp only at hsz ⊢
  obtain ⟨hB0, -⟩ := hB
  have HBD := Lib.hid (fun w' (g : Gr w w') => hB0.gr g)
  obtain ⟨ta, tc, rfl, ht1⟩ := hB0
  have htm := IsRow.len ht1
  unfold maxLen at htm
  obtain ⟨mode, trail, left, over, v⟩ := B
  unfold bdyV at *
  dsimp only at *
  clear ht1
  have g0 : Gr w ((w.alloc (.cells #[.string nm, .int .i64 l, .int .i64 t, .int .i64 a, .int .i64 b] 40)).alloc (.cells #[.int .i64 mode, .slice ta trail.length tc, .int .i64 left, .int .i64 over, .int .i64 v] 31)) := ((Gr.refl _).alloc _).alloc _
  have HKN := Lib.hid (known25_any _ (shp_gr ht g0))
  have HBX : Hid (∀ w', Gr ((w.alloc (.cells #[.string nm, .int .i64 l, .int .i64 t, .int .i64 a, .int .i64 b] 40)).alloc (.cells #[.int .i64 mode, .slice ta trail.length tc, .int .i64 left, .int .i64 over, .int .i64 v] 31)) w' → w.heap.size < w'.heap.size ∧ w.heap.size + 1 < w'.heap.size ∧ w'.cell? ⟨w.heap.size, 0, none⟩ = some (.string nm) ∧ w'.cell? ⟨w.heap.size, 1, none⟩ = some (.int .i64 l) ∧ w'.cell? ⟨w.heap.size, 2, none⟩ = some (.int .i64 t) ∧ w'.cell? ⟨w.heap.size, 3, none⟩ = some (.int .i64 a) ∧ w'.cell? ⟨w.heap.size, 4, none⟩ = some (.int .i64 b) ∧ w'.cell? ⟨w.heap.size + 1, 0, none⟩ = some (.int .i64 mode) ∧ w'.cell? ⟨w.heap.size + 1, 1, none⟩ = some (.slice ta trail.length tc) ∧ w'.cell? ⟨w.heap.size + 1, 2, none⟩ = some (.int .i64 left) ∧ w'.cell? ⟨w.heap.size + 1, 3, none⟩ = some (.int .i64 over) ∧ w'.cell? ⟨w.heap.size + 1, 4, none⟩ = some (.int .i64 v)) := by
    intro w' g
    have z1 : w.heap.size + 1 < (((w.alloc (.cells #[.string nm, .int .i64 l, .int .i64 t, .int .i64 a, .int .i64 b] 40)).alloc (.cells #[.int .i64 mode, .slice ta trail.length tc, .int .i64 left, .int .i64 over, .int .i64 v] 31))).heap.size := by simp
    have z0 : w.heap.size < (((w.alloc (.cells #[.string nm, .int .i64 l, .int .i64 t, .int .i64 a, .int .i64 b] 40)).alloc (.cells #[.int .i64 mode, .slice ta trail.length tc, .int .i64 left, .int .i64 over, .int .i64 v] 31))).heap.size := by omega
    exact ⟨Nat.lt_of_lt_of_le z0 g.size, Nat.lt_of_lt_of_le z1 g.size, (g.cell _ _ z0).trans (by go_simp), (g.cell _ _ z0).trans (by go_simp), (g.cell _ _ z0).trans (by go_simp), (g.cell _ _ z0).trans (by go_simp), (g.cell _ _ z0).trans (by go_simp), (g.cell _ _ z1).trans (by go_simp), (g.cell _ _ z1).trans (by go_simp), (g.cell _ _ z1).trans (by go_simp), (g.cell _ _ z1).trans (by go_simp), (g.cell _ _ z1).trans (by go_simp)⟩
  have HMY := Lib.hid (fun w' => may_any nm l t a b hsz w')
  have HPT := Lib.hid (mayB_parts (nm := nm) (l := l) (t := t) (a := a) (b := b))
  generalize mayB nm l t a b = m at HMY HPT
  cases m
  · go_enter Tryd.func4, Tryd.ntmps4
    go_wp2_with (first | (go_at_call 5; (with_reducible refine (HKN.out).mono ?_); rintro e w1 ⟨rfl, g1⟩; have gk := g0.trans g1; obtain ⟨zk, zb, c0, c1, c2, c3, c4, d0, d1, d2, d3, d4⟩ := HBX.out _ g1) | (go_at_call 10; (with_reducible refine (HMY.out _).mono ?_); rintro e w2 ⟨rfl, g2⟩; have gm := gk.trans g2; have gb2 := g1.trans g2; obtain ⟨zm, zn, e0, e1, e2, e3, e4, f0, f1, f2, f3, f4⟩ := HBX.out _ gb2) | fail)
    go_ret
    exact ⟨rfl, gm⟩
  obtain ⟨-, -, hT, hA, hBr⟩ := HPT.out rfl
  clear HPT
  by_cases h1 : 100 < trail.length
  · have h1' : 100 < (trail.length : Int) := by omega
    go_enter Tryd.func4, Tryd.ntmps4
    go_wp2_with (first | (go_at_call 5; (with_reducible refine (HKN.out).mono ?_); rintro e w1 ⟨rfl, g1⟩; have gk := g0.trans g1; obtain ⟨zk, zb, c0, c1, c2, c3, c4, d0, d1, d2, d3, d4⟩ := HBX.out _ g1) | (go_at_call 10; (with_reducible refine (HMY.out _).mono ?_); rintro e w2 ⟨rfl, g2⟩; have gm := gk.trans g2; have gb2 := g1.trans g2; obtain ⟨zm, zn, e0, e1, e2, e3, e4, f0, f1, f2, f3, f4⟩ := HBX.out _ gb2) | fail)
    go_ret
    exact ⟨rfl, gm⟩
  have h1' : ¬ 100 < (trail.length : Int) := by omega
  by_cases h2 : mode < 1
  · go_enter Tryd.func4, Tryd.ntmps4
    go_wp2_with (first | (go_at_call 5; (with_reducible refine (HKN.out).mono ?_); rintro e w1 ⟨rfl, g1⟩; have gk := g0.trans g1; obtain ⟨zk, zb, c0, c1, c2, c3, c4, d0, d1, d2, d3, d4⟩ := HBX.out _ g1) | (go_at_call 10; (with_reducible refine (HMY.out _).mono ?_); rintro e w2 ⟨rfl, g2⟩; have gm := gk.trans g2; have gb2 := g1.trans g2; obtain ⟨zm, zn, e0, e1, e2, e3, e4, f0, f1, f2, f3, f4⟩ := HBX.out _ gb2) | fail)
    go_ret
    exact ⟨rfl, gm⟩
  by_cases h3 : 4 < mode
  · go_enter Tryd.func4, Tryd.ntmps4
    go_wp2_with (first | (go_at_call 5; (with_reducible refine (HKN.out).mono ?_); rintro e w1 ⟨rfl, g1⟩; have gk := g0.trans g1; obtain ⟨zk, zb, c0, c1, c2, c3, c4, d0, d1, d2, d3, d4⟩ := HBX.out _ g1) | (go_at_call 10; (with_reducible refine (HMY.out _).mono ?_); rintro e w2 ⟨rfl, g2⟩; have gm := gk.trans g2; have gb2 := g1.trans g2; obtain ⟨zm, zn, e0, e1, e2, e3, e4, f0, f1, f2, f3, f4⟩ := HBX.out _ gb2) | fail)
    go_ret
    exact ⟨rfl, gm⟩
  by_cases h4 : v < 0
  · go_enter Tryd.func4, Tryd.ntmps4
    go_wp2_with (first | (go_at_call 5; (with_reducible refine (HKN.out).mono ?_); rintro e w1 ⟨rfl, g1⟩; have gk := g0.trans g1; obtain ⟨zk, zb, c0, c1, c2, c3, c4, d0, d1, d2, d3, d4⟩ := HBX.out _ g1) | (go_at_call 10; (with_reducible refine (HMY.out _).mono ?_); rintro e w2 ⟨rfl, g2⟩; have gm := gk.trans g2; have gb2 := g1.trans g2; obtain ⟨zm, zn, e0, e1, e2, e3, e4, f0, f1, f2, f3, f4⟩ := HBX.out _ gb2) | fail)
    go_ret
    exact ⟨rfl, gm⟩
  by_cases h5 : 60 < v
  · go_enter Tryd.func4, Tryd.ntmps4
    go_wp2_with (first | (go_at_call 5; (with_reducible refine (HKN.out).mono ?_); rintro e w1 ⟨rfl, g1⟩; have gk := g0.trans g1; obtain ⟨zk, zb, c0, c1, c2, c3, c4, d0, d1, d2, d3, d4⟩ := HBX.out _ g1) | (go_at_call 10; (with_reducible refine (HMY.out _).mono ?_); rintro e w2 ⟨rfl, g2⟩; have gm := gk.trans g2; have gb2 := g1.trans g2; obtain ⟨zm, zn, e0, e1, e2, e3, e4, f0, f1, f2, f3, f4⟩ := HBX.out _ gb2) | fail)
    go_ret
    exact ⟨rfl, gm⟩
  have hkb := kps_bd t a b v sees hT.1 hA.1 hBr.1
  have hkl := kps_law t a b v sees hT.1 hA.1 hBr.1
  have hk1 := nxt_brake t a b v hT.1 hA.1 hBr.1
  have hk2 := acc_val t a b v hT.1 hA.1 hBr.1
  unfold acc at hk2
  have hhd : hld v 0 t = max 0 (min v t) := rfl
  have hkk : -b ≤ kps t a b v sees - max 0 (min v t) ∧ kps t a b v sees - max 0 (min v t) ≤ a := by
    obtain ⟨q1, q2, -⟩ := hkl
    rw [hk1, hhd] at q1
    rw [hk2, hhd] at q2
    omega
  have HA1 := Lib.hid (fun (w' : World) (g : Gr w w') => act_any ⟨1, []⟩ (.agg #[.int .i64 1, .slice none 0 0]) _ ⟨mode, trail, left, over, v⟩ nm l t a b tick sees turn hT hA hBr w' ⟨none, 0, rfl, ⟨none, 0, rfl, by simp, .inl rfl⟩⟩ (HBD.out w' g))
  have HA2 := Lib.hid (fun (w' : World) (g : Gr w w') => act_any ⟨2, []⟩ (.agg #[.int .i64 2, .slice none 0 0]) _ ⟨mode, trail, left, over, v⟩ nm l t a b tick sees turn hT hA hBr w' ⟨none, 0, rfl, ⟨none, 0, rfl, by simp, .inl rfl⟩⟩ (HBD.out w' g))
  have HR1 : Hid (∃ R, actP ⟨1, []⟩ tick t a b ⟨mode, trail, left, over, v⟩ sees turn = R) := ⟨_, rfl⟩
  obtain ⟨⟨r1, t1⟩, hR1⟩ := HR1.out
  have HR2 : Hid (∃ R, actP ⟨2, []⟩ tick t a b ⟨mode, trail, left, over, v⟩ sees turn = R) := ⟨_, rfl⟩
  obtain ⟨⟨r2, t2⟩, hR2⟩ := HR2.out
  rw [hR1] at HA1
  rw [hR2] at HA2
  have HQ1 := Lib.hid hR1
  have HQ2 := Lib.hid hR2
  have HB1 : Hid (∀ w', Gr w w' → Calls Tryd.prog 11 #[.agg #[.int .i64 1, .slice none 0 0], .int .i64 tick, (.agg #[.string nm, .int .i64 l, .int .i64 t, .int .i64 a, .int .i64 b]), .agg #[.int .i64 mode, .slice ta trail.length tc, .int .i64 left, .int .i64 over, .int .i64 v], .int .i64 sees, .bool turn] w' fun e w'' => e = .returned (.agg #[.int .i64 r1, .bool t1]) ∧ Gr w' w'') := fun w' g => HA1.out w' g
  have HB2 : Hid (∀ w', Gr w w' → Calls Tryd.prog 11 #[.agg #[.int .i64 2, .slice none 0 0], .int .i64 tick, (.agg #[.string nm, .int .i64 l, .int .i64 t, .int .i64 a, .int .i64 b]), .agg #[.int .i64 mode, .slice ta trail.length tc, .int .i64 left, .int .i64 over, .int .i64 v], .int .i64 sees, .bool turn] w' fun e w'' => e = .returned (.agg #[.int .i64 r2, .bool t2]) ∧ Gr w' w'') := fun w' g => HA2.out w' g
  clear HA1 HA2 hR1 hR2 HR1 HR2 hkb hkl hk1 hk2 hhd HBD
  have HKK := Lib.hid hkk
  have HAB := Lib.hid hA
  have HBB := Lib.hid hBr
  clear hkk
  go_enter Tryd.func4, Tryd.ntmps4
  go_upto_region 5 with (first | (go_at_call 5; (with_reducible refine (HKN.out).mono ?_); rintro e w1 ⟨rfl, g1⟩; have gk := g0.trans g1; obtain ⟨zk, zb, c0, c1, c2, c3, c4, d0, d1, d2, d3, d4⟩ := HBX.out _ g1) | (go_at_call 10; (with_reducible refine (HMY.out _).mono ?_); rintro e w2 ⟨rfl, g2⟩; have gm := gk.trans g2; have gb2 := g1.trans g2; obtain ⟨zm, zn, e0, e1, e2, e3, e4, f0, f1, f2, f3, f4⟩ := HBX.out _ gb2) | fail)
  have HS := Lib.hid (fun (w' : World) (g : Gr w2 w') => keenS (mode := mode) (v := v) g zm zn e0 e1 e2 e3 e4 f0 f1 f2 f3 f4)
  clear e0 e1 e2 e3 e4 f0 f1 f2 f3 f4 c0 c1 c2 c3 c4 d0 d1 d2 d3 d4 zk zb
  go_cut [11, 12] from 45 to 59 (fun x y wc => ∃ b1 b2 : Nat, x = .pointer (some ⟨b1, 0, none⟩) ∧ y = .pointer (some ⟨b2, 0, none⟩) ∧ Gr w2 wc ∧ Bz b1 (.int .i64 r1) (.bool t1) wc ∧ Bz b2 (.int .i64 r2) (.bool t2) wc)
  case first =>
    clear HKN HBX HMY HKK HAB HBB HQ1 HQ2 h1 h1' h2 h3 h4 h5 hT hA hBr
    refine wp_region_held_drew (S := fun w' => Gr w2 w' ∧ w'.cell? ⟨w.heap.size, 0, none⟩ = some (.string nm) ∧ w'.cell? ⟨w.heap.size, 1, none⟩ = some (.int .i64 l) ∧ w'.cell? ⟨w.heap.size, 2, none⟩ = some (.int .i64 t) ∧ w'.cell? ⟨w.heap.size, 3, none⟩ = some (.int .i64 a) ∧ w'.cell? ⟨w.heap.size, 4, none⟩ = some (.int .i64 b) ∧ w'.cell? ⟨w.heap.size + 1, 0, none⟩ = some (.int .i64 mode) ∧ w'.cell? ⟨w.heap.size + 1, 1, none⟩ = some (.slice ta trail.length tc) ∧ w'.cell? ⟨w.heap.size + 1, 2, none⟩ = some (.int .i64 left) ∧ w'.cell? ⟨w.heap.size + 1, 3, none⟩ = some (.int .i64 over) ∧ w'.cell? ⟨w.heap.size + 1, 4, none⟩ = some (.int .i64 v)) (by kernel_rfl) (HS.out _ (Gr.refl _).drew) (fun hHeld => ?_)
    have G0 : Gr w2 w2.drew := (Gr.refl _).drew
    (refine wpAnyH_take (i := 0) (v := ?_) rfl (by kernel_rfl) (by kernel_rfl) (by kernel_rfl) (fun _ _ _ h => h) (Or.inl ⟨by rfl, ?_⟩) (by assumption) ?_; rotate_left; (focus (intro w hSw; (try dsimp only at hSw); go_simp; try with_reducible rfl)); try simp only [Act.put, List.getElem_toArray, List.getElem_cons_zero, List.getElem_cons_succ, List.setIfInBounds_toArray, List.set_cons_zero, List.set_cons_succ])
    (refine wpAnyH_take (i := 1) (v := ?_) rfl (by kernel_rfl) (by kernel_rfl) (by kernel_rfl) (fun _ _ _ h => h) (Or.inl ⟨by rfl, ?_⟩) (by assumption) ?_; rotate_left; (focus (intro w hSw; (try dsimp only at hSw); go_simp; try with_reducible rfl)); try simp only [Act.put, List.getElem_toArray, List.getElem_cons_zero, List.getElem_cons_succ, List.setIfInBounds_toArray, List.set_cons_zero, List.set_cons_succ])
    (refine wpAnyH_take (i := 2) (v := ?_) rfl (by kernel_rfl) (by kernel_rfl) (by kernel_rfl) (fun _ _ _ h => h) (Or.inl ⟨by rfl, ?_⟩) (by assumption) ?_; rotate_left; (focus (intro w hSw; (try dsimp only at hSw); go_simp; try with_reducible rfl)); try simp only [Act.put, List.getElem_toArray, List.getElem_cons_zero, List.getElem_cons_succ, List.setIfInBounds_toArray, List.set_cons_zero, List.set_cons_succ])
    (refine wpAnyH_take (i := 3) (v := ?_) rfl (by kernel_rfl) (by kernel_rfl) (by kernel_rfl) (fun _ _ _ h => h) (Or.inl ⟨by rfl, ?_⟩) (by assumption) ?_; rotate_left; (focus (intro w hSw; (try dsimp only at hSw); go_simp; try with_reducible rfl)); try simp only [Act.put, List.getElem_toArray, List.getElem_cons_zero, List.getElem_cons_succ, List.setIfInBounds_toArray, List.set_cons_zero, List.set_cons_succ])
    (refine wpAnyH_take (i := 4) (v := ?_) rfl (by kernel_rfl) (by kernel_rfl) (by kernel_rfl) (fun _ _ _ h => h) (Or.inl ⟨by rfl, ?_⟩) (by assumption) ?_; rotate_left; (focus (intro w hSw; (try dsimp only at hSw); go_simp; try with_reducible rfl)); try simp only [Act.put, List.getElem_toArray, List.getElem_cons_zero, List.getElem_cons_succ, List.setIfInBounds_toArray, List.set_cons_zero, List.set_cons_succ])
    (refine wpAnyH_take (i := 5) (v := ?_) rfl (by kernel_rfl) (by kernel_rfl) (by kernel_rfl) (fun _ _ _ h => h) (Or.inl ⟨by rfl, ?_⟩) (by assumption) ?_; rotate_left; (focus (intro w hSw; (try dsimp only at hSw); go_simp; try with_reducible rfl)); try simp only [Act.put, List.getElem_toArray, List.getElem_cons_zero, List.getElem_cons_succ, List.setIfInBounds_toArray, List.set_cons_zero, List.set_cons_succ])
    (refine wpAnyH_take (i := 7) (v := ?_) rfl (by kernel_rfl) (by kernel_rfl) (by kernel_rfl) (fun _ _ _ h => h) (Or.inl ⟨by rfl, ?_⟩) (by assumption) ?_; rotate_left; (focus (intro w hSw; (try dsimp only at hSw); go_simp; try with_reducible rfl)); try simp only [Act.put, List.getElem_toArray, List.getElem_cons_zero, List.getElem_cons_succ, List.setIfInBounds_toArray, List.set_cons_zero, List.set_cons_succ])
    (refine wpAnyH_take (i := 8) (v := ?_) rfl (by kernel_rfl) (by kernel_rfl) (by kernel_rfl) (fun _ _ _ h => h) (Or.inl ⟨by rfl, ?_⟩) (by assumption) ?_; rotate_left; (focus (intro w hSw; (try dsimp only at hSw); go_simp; try with_reducible rfl)); try simp only [Act.put, List.getElem_toArray, List.getElem_cons_zero, List.getElem_cons_succ, List.setIfInBounds_toArray, List.set_cons_zero, List.set_cons_succ])
    (refine wpAnyH_take (i := 9) (v := ?_) rfl (by kernel_rfl) (by kernel_rfl) (by kernel_rfl) (fun _ _ _ h => h) (Or.inl ⟨by rfl, ?_⟩) (by assumption) ?_; rotate_left; (focus (intro w hSw; (try dsimp only at hSw); go_simp; try with_reducible rfl)); try simp only [Act.put, List.getElem_toArray, List.getElem_cons_zero, List.getElem_cons_succ, List.setIfInBounds_toArray, List.set_cons_zero, List.set_cons_succ])
    (refine wpAnyH_take (i := 10) (v := ?_) rfl (by kernel_rfl) (by kernel_rfl) (by kernel_rfl) (fun _ _ _ h => h) (Or.inl ⟨by rfl, ?_⟩) (by assumption) ?_; rotate_left; (focus (intro w hSw; (try dsimp only at hSw); go_simp; try with_reducible rfl)); try simp only [Act.put, List.getElem_toArray, List.getElem_cons_zero, List.getElem_cons_succ, List.setIfInBounds_toArray, List.set_cons_zero, List.set_cons_succ])
    (refine wpAnyH_take (i := 11) (v := ?_) rfl (by kernel_rfl) (by kernel_rfl) (by kernel_rfl) (fun _ _ _ h => h) (Or.inl ⟨by rfl, ?_⟩) (by assumption) ?_; rotate_left; (focus (intro w hSw; (try dsimp only at hSw); go_simp; try with_reducible rfl)); try simp only [Act.put, List.getElem_toArray, List.getElem_cons_zero, List.getElem_cons_succ, List.setIfInBounds_toArray, List.set_cons_zero, List.set_cons_succ])
    (refine wpAnyH_take (i := 12) (v := ?_) rfl (by kernel_rfl) (by kernel_rfl) (by kernel_rfl) (fun _ _ _ h => h) (Or.inl ⟨by rfl, ?_⟩) (by assumption) ?_; rotate_left; (focus (intro w hSw; (try dsimp only at hSw); go_simp; try with_reducible rfl)); try simp only [Act.put, List.getElem_toArray, List.getElem_cons_zero, List.getElem_cons_succ, List.setIfInBounds_toArray, List.set_cons_zero, List.set_cons_succ])
    generalize w2.drew = x0 at *
    refine wpAnyH_ready (rs := [6, 14, 15]) (by kernel_rfl) (by simp) ?_
    refine AllReadyH.cons rfl (fun K hK => ?_) (AllReadyH.cons rfl (fun K hK => ?_) (AllReadyH.cons rfl (fun K hK => ?_) AllReadyH.nil))
    · go_simp
      go_at_call 11
      (with_reducible refine (HB1.out _ (gm.trans G0)).mono ?_)
      rintro e x1 ⟨rfl, q1⟩
      try go_wp2_with fail
      have G1 := G0.trans q1
      refine hK.out _ _ (HS.out _ G1) (fun hHeld2 => ?_)
      clear hK K hHeld
      have hHeld := hHeld2
      clear hHeld2
      try simp only [Act.put, List.getElem_toArray, List.getElem_cons_zero, List.getElem_cons_succ, List.setIfInBounds_toArray, List.set_cons_zero, List.set_cons_succ]
      refine wpAnyH_ready (rs := [13, 14, 15]) (by kernel_rfl) (by simp) ?_
      refine AllReadyH.cons rfl (fun K hK => ?_) (AllReadyH.cons rfl (fun K hK => ?_) (AllReadyH.cons rfl (fun K hK => ?_) AllReadyH.nil))
      · go_simp
        go_at_call 11
        (with_reducible refine (HB2.out _ (gm.trans G1)).mono ?_)
        rintro e x2 ⟨rfl, q2⟩
        try go_wp2_with fail
        have G2 := G1.trans q2
        refine hK.out _ _ (HS.out _ G2) (fun hHeld2 => ?_)
        clear hK K hHeld
        have hHeld := hHeld2
        clear hHeld2
        try simp only [Act.put, List.getElem_toArray, List.getElem_cons_zero, List.getElem_cons_succ, List.setIfInBounds_toArray, List.set_cons_zero, List.set_cons_succ]
        refine wpAnyH_ready (rs := [14, 15]) (by kernel_rfl) (by simp) ?_
        refine AllReadyH.cons rfl (fun K hK => ?_) (AllReadyH.cons rfl (fun K hK => ?_) AllReadyH.nil)
        · go_simp
          have G3 : Gr w2 (x2.alloc (.cells #[.int .i64 0, .bool false] 43)) := G2.alloc _
          have A1 := Bz.new x2 (.int .i64 0) (.bool false) 43
          have hb1 : w2.heap.size ≤ x2.heap.size := G2.size
          refine hK.out _ _ (HS.out _ G3) (fun hHeld2 => ?_)
          clear hK K hHeld
          have hHeld := hHeld2
          clear hHeld2
          try simp only [Act.put, List.getElem_toArray, List.getElem_cons_zero, List.getElem_cons_succ, List.setIfInBounds_toArray, List.set_cons_zero, List.set_cons_succ]
          generalize (x2.alloc (.cells #[.int .i64 0, .bool false] 43)) = x3 at *
          generalize x2.heap.size = b1 at *
          refine wpAnyH_ready (rs := [15]) (by kernel_rfl) (by simp) ?_
          refine AllReadyH.cons rfl (fun K hK => ?_) AllReadyH.nil
          · go_simp
            have G4 : Gr w2 (x3.alloc (.cells #[.int .i64 0, .bool false] 43)) := G3.alloc _
            have A2 := Bz.new x3 (.int .i64 0) (.bool false) 43
            have hb2 : w2.heap.size ≤ x3.heap.size := G3.size
            have hne : b1 ≠ x3.heap.size := Nat.ne_of_lt A1.1
            replace A1 := A1.gr ((Gr.refl x3).alloc (.cells #[.int .i64 0, .bool false] 43))
            refine hK.out _ _ (HS.out _ G4) (fun hHeld2 => ?_)
            clear hK K hHeld
            have hHeld := hHeld2
            clear hHeld2
            try simp only [Act.put, List.getElem_toArray, List.getElem_cons_zero, List.getElem_cons_succ, List.setIfInBounds_toArray, List.set_cons_zero, List.set_cons_succ]
            generalize (x3.alloc (.cells #[.int .i64 0, .bool false] 43)) = x4 at *
            generalize x3.heap.size = b2 at *
            refine wpAnyH_ready (rs := [16]) (by kernel_rfl) (by simp) ?_
            refine AllReadyH.cons rfl (fun K hK => ?_) AllReadyH.nil
            · obtain ⟨s0, s1, s2, s3, s4⟩ := id A1
              go_simp
              have G5 := (G4.setCell (p := ⟨b1, 0, none⟩) hb1 (.int .i64 r1)).setCell (p := ⟨b1, 1, none⟩) hb1 (.bool t1)
              replace A1 := A1.set (.int .i64 r1) (.bool t1)
              replace A2 := A2.keep hne (.int .i64 r1) (.bool t1)
              clear s0 s1 s2 s3 s4
              refine hK.out _ _ (HS.out _ G5) (fun hHeld2 => ?_)
              clear hK K hHeld
              have hHeld := hHeld2
              clear hHeld2
              try simp only [Act.put, List.getElem_toArray, List.getElem_cons_zero, List.getElem_cons_succ, List.setIfInBounds_toArray, List.set_cons_zero, List.set_cons_succ]
              generalize (x4.setCell ⟨b1, 0, none⟩ (.int .i64 r1)).setCell ⟨b1, 1, none⟩ (.bool t1) = x5 at *
              refine wpAnyH_ready (rs := [17]) (by kernel_rfl) (by simp) ?_
              refine AllReadyH.cons rfl (fun K hK => ?_) AllReadyH.nil
              · obtain ⟨s0, s1, s2, s3, s4⟩ := id A2
                go_simp
                have G6 := (G5.setCell (p := ⟨b2, 0, none⟩) hb2 (.int .i64 r2)).setCell (p := ⟨b2, 1, none⟩) hb2 (.bool t2)
                replace A2 := A2.set (.int .i64 r2) (.bool t2)
                replace A1 := A1.keep (Ne.symm hne) (.int .i64 r2) (.bool t2)
                clear s0 s1 s2 s3 s4
                refine hK.out _ _ (HS.out _ G6) (fun hHeld2 => ?_)
                clear hK K hHeld
                have hHeld := hHeld2
                clear hHeld2
                try simp only [Act.put, List.getElem_toArray, List.getElem_cons_zero, List.getElem_cons_succ, List.setIfInBounds_toArray, List.set_cons_zero, List.set_cons_succ]
                generalize (x5.setCell ⟨b2, 0, none⟩ (.int .i64 r2)).setCell ⟨b2, 1, none⟩ (.bool t2) = x6 at *
                refine wpAnyH_done (by kernel_rfl) ?_ _
                go_wp2_with fail
                go_meet
                case rel => exact ⟨_, _, rfl, rfl, G6, A1, A2⟩
        · go_simp
          have G7 : Gr w2 (x2.alloc (.cells #[.int .i64 0, .bool false] 43)) := G2.alloc _
          have A2 := Bz.new x2 (.int .i64 0) (.bool false) 43
          have hb2 : w2.heap.size ≤ x2.heap.size := G2.size
          refine hK.out _ _ (HS.out _ G7) (fun hHeld2 => ?_)
          clear hK K hHeld
          have hHeld := hHeld2
          clear hHeld2
          try simp only [Act.put, List.getElem_toArray, List.getElem_cons_zero, List.getElem_cons_succ, List.setIfInBounds_toArray, List.set_cons_zero, List.set_cons_succ]
          generalize (x2.alloc (.cells #[.int .i64 0, .bool false] 43)) = x7 at *
          generalize x2.heap.size = b2 at *
          refine wpAnyH_ready (rs := [14]) (by kernel_rfl) (by simp) ?_
          refine AllReadyH.cons rfl (fun K hK => ?_) AllReadyH.nil
          · go_simp
            have G8 : Gr w2 (x7.alloc (.cells #[.int .i64 0, .bool false] 43)) := G7.alloc _
            have A1 := Bz.new x7 (.int .i64 0) (.bool false) 43
            have hb1 : w2.heap.size ≤ x7.heap.size := G7.size
            have hne : x7.heap.size ≠ b2 := Nat.ne_of_gt A2.1
            replace A2 := A2.gr ((Gr.refl x7).alloc (.cells #[.int .i64 0, .bool false] 43))
            refine hK.out _ _ (HS.out _ G8) (fun hHeld2 => ?_)
            clear hK K hHeld
            have hHeld := hHeld2
            clear hHeld2
            try simp only [Act.put, List.getElem_toArray, List.getElem_cons_zero, List.getElem_cons_succ, List.setIfInBounds_toArray, List.set_cons_zero, List.set_cons_succ]
            generalize (x7.alloc (.cells #[.int .i64 0, .bool false] 43)) = x8 at *
            generalize x7.heap.size = b1 at *
            refine wpAnyH_ready (rs := [16]) (by kernel_rfl) (by simp) ?_
            refine AllReadyH.cons rfl (fun K hK => ?_) AllReadyH.nil
            · obtain ⟨s0, s1, s2, s3, s4⟩ := id A1
              go_simp
              have G9 := (G8.setCell (p := ⟨b1, 0, none⟩) hb1 (.int .i64 r1)).setCell (p := ⟨b1, 1, none⟩) hb1 (.bool t1)
              replace A1 := A1.set (.int .i64 r1) (.bool t1)
              replace A2 := A2.keep hne (.int .i64 r1) (.bool t1)
              clear s0 s1 s2 s3 s4
              refine hK.out _ _ (HS.out _ G9) (fun hHeld2 => ?_)
              clear hK K hHeld
              have hHeld := hHeld2
              clear hHeld2
              try simp only [Act.put, List.getElem_toArray, List.getElem_cons_zero, List.getElem_cons_succ, List.setIfInBounds_toArray, List.set_cons_zero, List.set_cons_succ]
              generalize (x8.setCell ⟨b1, 0, none⟩ (.int .i64 r1)).setCell ⟨b1, 1, none⟩ (.bool t1) = x9 at *
              refine wpAnyH_ready (rs := [17]) (by kernel_rfl) (by simp) ?_
              refine AllReadyH.cons rfl (fun K hK => ?_) AllReadyH.nil
              · obtain ⟨s0, s1, s2, s3, s4⟩ := id A2
                go_simp
                have G10 := (G9.setCell (p := ⟨b2, 0, none⟩) hb2 (.int .i64 r2)).setCell (p := ⟨b2, 1, none⟩) hb2 (.bool t2)
                replace A2 := A2.set (.int .i64 r2) (.bool t2)
                replace A1 := A1.keep (Ne.symm hne) (.int .i64 r2) (.bool t2)
                clear s0 s1 s2 s3 s4
                refine hK.out _ _ (HS.out _ G10) (fun hHeld2 => ?_)
                clear hK K hHeld
                have hHeld := hHeld2
                clear hHeld2
                try simp only [Act.put, List.getElem_toArray, List.getElem_cons_zero, List.getElem_cons_succ, List.setIfInBounds_toArray, List.set_cons_zero, List.set_cons_succ]
                generalize (x9.setCell ⟨b2, 0, none⟩ (.int .i64 r2)).setCell ⟨b2, 1, none⟩ (.bool t2) = x10 at *
                refine wpAnyH_done (by kernel_rfl) ?_ _
                go_wp2_with fail
                go_meet
                case rel => exact ⟨_, _, rfl, rfl, G10, A1, A2⟩
      · go_simp
        have G11 : Gr w2 (x1.alloc (.cells #[.int .i64 0, .bool false] 43)) := G1.alloc _
        have A1 := Bz.new x1 (.int .i64 0) (.bool false) 43
        have hb1 : w2.heap.size ≤ x1.heap.size := G1.size
        refine hK.out _ _ (HS.out _ G11) (fun hHeld2 => ?_)
        clear hK K hHeld
        have hHeld := hHeld2
        clear hHeld2
        try simp only [Act.put, List.getElem_toArray, List.getElem_cons_zero, List.getElem_cons_succ, List.setIfInBounds_toArray, List.set_cons_zero, List.set_cons_succ]
        generalize (x1.alloc (.cells #[.int .i64 0, .bool false] 43)) = x11 at *
        generalize x1.heap.size = b1 at *
        refine wpAnyH_ready (rs := [13, 15]) (by kernel_rfl) (by simp) ?_
        refine AllReadyH.cons rfl (fun K hK => ?_) (AllReadyH.cons rfl (fun K hK => ?_) AllReadyH.nil)
        · go_simp
          go_at_call 11
          (with_reducible refine (HB2.out _ (gm.trans G11)).mono ?_)
          rintro e x12 ⟨rfl, q12⟩
          try go_wp2_with fail
          have G12 := G11.trans q12
          replace A1 := A1.gr q12
          refine hK.out _ _ (HS.out _ G12) (fun hHeld2 => ?_)
          clear hK K hHeld
          have hHeld := hHeld2
          clear hHeld2
          try simp only [Act.put, List.getElem_toArray, List.getElem_cons_zero, List.getElem_cons_succ, List.setIfInBounds_toArray, List.set_cons_zero, List.set_cons_succ]
          refine wpAnyH_ready (rs := [15]) (by kernel_rfl) (by simp) ?_
          refine AllReadyH.cons rfl (fun K hK => ?_) AllReadyH.nil
          · go_simp
            have G13 : Gr w2 (x12.alloc (.cells #[.int .i64 0, .bool false] 43)) := G12.alloc _
            have A2 := Bz.new x12 (.int .i64 0) (.bool false) 43
            have hb2 : w2.heap.size ≤ x12.heap.size := G12.size
            have hne : b1 ≠ x12.heap.size := Nat.ne_of_lt A1.1
            replace A1 := A1.gr ((Gr.refl x12).alloc (.cells #[.int .i64 0, .bool false] 43))
            refine hK.out _ _ (HS.out _ G13) (fun hHeld2 => ?_)
            clear hK K hHeld
            have hHeld := hHeld2
            clear hHeld2
            try simp only [Act.put, List.getElem_toArray, List.getElem_cons_zero, List.getElem_cons_succ, List.setIfInBounds_toArray, List.set_cons_zero, List.set_cons_succ]
            generalize (x12.alloc (.cells #[.int .i64 0, .bool false] 43)) = x13 at *
            generalize x12.heap.size = b2 at *
            refine wpAnyH_ready (rs := [16]) (by kernel_rfl) (by simp) ?_
            refine AllReadyH.cons rfl (fun K hK => ?_) AllReadyH.nil
            · obtain ⟨s0, s1, s2, s3, s4⟩ := id A1
              go_simp
              have G14 := (G13.setCell (p := ⟨b1, 0, none⟩) hb1 (.int .i64 r1)).setCell (p := ⟨b1, 1, none⟩) hb1 (.bool t1)
              replace A1 := A1.set (.int .i64 r1) (.bool t1)
              replace A2 := A2.keep hne (.int .i64 r1) (.bool t1)
              clear s0 s1 s2 s3 s4
              refine hK.out _ _ (HS.out _ G14) (fun hHeld2 => ?_)
              clear hK K hHeld
              have hHeld := hHeld2
              clear hHeld2
              try simp only [Act.put, List.getElem_toArray, List.getElem_cons_zero, List.getElem_cons_succ, List.setIfInBounds_toArray, List.set_cons_zero, List.set_cons_succ]
              generalize (x13.setCell ⟨b1, 0, none⟩ (.int .i64 r1)).setCell ⟨b1, 1, none⟩ (.bool t1) = x14 at *
              refine wpAnyH_ready (rs := [17]) (by kernel_rfl) (by simp) ?_
              refine AllReadyH.cons rfl (fun K hK => ?_) AllReadyH.nil
              · obtain ⟨s0, s1, s2, s3, s4⟩ := id A2
                go_simp
                have G15 := (G14.setCell (p := ⟨b2, 0, none⟩) hb2 (.int .i64 r2)).setCell (p := ⟨b2, 1, none⟩) hb2 (.bool t2)
                replace A2 := A2.set (.int .i64 r2) (.bool t2)
                replace A1 := A1.keep (Ne.symm hne) (.int .i64 r2) (.bool t2)
                clear s0 s1 s2 s3 s4
                refine hK.out _ _ (HS.out _ G15) (fun hHeld2 => ?_)
                clear hK K hHeld
                have hHeld := hHeld2
                clear hHeld2
                try simp only [Act.put, List.getElem_toArray, List.getElem_cons_zero, List.getElem_cons_succ, List.setIfInBounds_toArray, List.set_cons_zero, List.set_cons_succ]
                generalize (x14.setCell ⟨b2, 0, none⟩ (.int .i64 r2)).setCell ⟨b2, 1, none⟩ (.bool t2) = x15 at *
                refine wpAnyH_done (by kernel_rfl) ?_ _
                go_wp2_with fail
                go_meet
                case rel => exact ⟨_, _, rfl, rfl, G15, A1, A2⟩
        · go_simp
          have G16 : Gr w2 (x11.alloc (.cells #[.int .i64 0, .bool false] 43)) := G11.alloc _
          have A2 := Bz.new x11 (.int .i64 0) (.bool false) 43
          have hb2 : w2.heap.size ≤ x11.heap.size := G11.size
          have hne : b1 ≠ x11.heap.size := Nat.ne_of_lt A1.1
          replace A1 := A1.gr ((Gr.refl x11).alloc (.cells #[.int .i64 0, .bool false] 43))
          refine hK.out _ _ (HS.out _ G16) (fun hHeld2 => ?_)
          clear hK K hHeld
          have hHeld := hHeld2
          clear hHeld2
          try simp only [Act.put, List.getElem_toArray, List.getElem_cons_zero, List.getElem_cons_succ, List.setIfInBounds_toArray, List.set_cons_zero, List.set_cons_succ]
          generalize (x11.alloc (.cells #[.int .i64 0, .bool false] 43)) = x16 at *
          generalize x11.heap.size = b2 at *
          refine wpAnyH_ready (rs := [13]) (by kernel_rfl) (by simp) ?_
          refine AllReadyH.cons rfl (fun K hK => ?_) AllReadyH.nil
          · go_simp
            go_at_call 11
            (with_reducible refine (HB2.out _ (gm.trans G16)).mono ?_)
            rintro e x17 ⟨rfl, q17⟩
            try go_wp2_with fail
            have G17 := G16.trans q17
            replace A1 := A1.gr q17
            replace A2 := A2.gr q17
            refine hK.out _ _ (HS.out _ G17) (fun hHeld2 => ?_)
            clear hK K hHeld
            have hHeld := hHeld2
            clear hHeld2
            try simp only [Act.put, List.getElem_toArray, List.getElem_cons_zero, List.getElem_cons_succ, List.setIfInBounds_toArray, List.set_cons_zero, List.set_cons_succ]
            refine wpAnyH_ready (rs := [16]) (by kernel_rfl) (by simp) ?_
            refine AllReadyH.cons rfl (fun K hK => ?_) AllReadyH.nil
            · obtain ⟨s0, s1, s2, s3, s4⟩ := id A1
              go_simp
              have G18 := (G17.setCell (p := ⟨b1, 0, none⟩) hb1 (.int .i64 r1)).setCell (p := ⟨b1, 1, none⟩) hb1 (.bool t1)
              replace A1 := A1.set (.int .i64 r1) (.bool t1)
              replace A2 := A2.keep hne (.int .i64 r1) (.bool t1)
              clear s0 s1 s2 s3 s4
              refine hK.out _ _ (HS.out _ G18) (fun hHeld2 => ?_)
              clear hK K hHeld
              have hHeld := hHeld2
              clear hHeld2
              try simp only [Act.put, List.getElem_toArray, List.getElem_cons_zero, List.getElem_cons_succ, List.setIfInBounds_toArray, List.set_cons_zero, List.set_cons_succ]
              generalize (x17.setCell ⟨b1, 0, none⟩ (.int .i64 r1)).setCell ⟨b1, 1, none⟩ (.bool t1) = x18 at *
              refine wpAnyH_ready (rs := [17]) (by kernel_rfl) (by simp) ?_
              refine AllReadyH.cons rfl (fun K hK => ?_) AllReadyH.nil
              · obtain ⟨s0, s1, s2, s3, s4⟩ := id A2
                go_simp
                have G19 := (G18.setCell (p := ⟨b2, 0, none⟩) hb2 (.int .i64 r2)).setCell (p := ⟨b2, 1, none⟩) hb2 (.bool t2)
                replace A2 := A2.set (.int .i64 r2) (.bool t2)
                replace A1 := A1.keep (Ne.symm hne) (.int .i64 r2) (.bool t2)
                clear s0 s1 s2 s3 s4
                refine hK.out _ _ (HS.out _ G19) (fun hHeld2 => ?_)
                clear hK K hHeld
                have hHeld := hHeld2
                clear hHeld2
                try simp only [Act.put, List.getElem_toArray, List.getElem_cons_zero, List.getElem_cons_succ, List.setIfInBounds_toArray, List.set_cons_zero, List.set_cons_succ]
                generalize (x18.setCell ⟨b2, 0, none⟩ (.int .i64 r2)).setCell ⟨b2, 1, none⟩ (.bool t2) = x19 at *
                refine wpAnyH_done (by kernel_rfl) ?_ _
                go_wp2_with fail
                go_meet
                case rel => exact ⟨_, _, rfl, rfl, G19, A1, A2⟩
      · go_simp
        have G20 : Gr w2 (x1.alloc (.cells #[.int .i64 0, .bool false] 43)) := G1.alloc _
        have A2 := Bz.new x1 (.int .i64 0) (.bool false) 43
        have hb2 : w2.heap.size ≤ x1.heap.size := G1.size
        refine hK.out _ _ (HS.out _ G20) (fun hHeld2 => ?_)
        clear hK K hHeld
        have hHeld := hHeld2
        clear hHeld2
        try simp only [Act.put, List.getElem_toArray, List.getElem_cons_zero, List.getElem_cons_succ, List.setIfInBounds_toArray, List.set_cons_zero, List.set_cons_succ]
        generalize (x1.alloc (.cells #[.int .i64 0, .bool false] 43)) = x20 at *
        generalize x1.heap.size = b2 at *
        refine wpAnyH_ready (rs := [13, 14]) (by kernel_rfl) (by simp) ?_
        refine AllReadyH.cons rfl (fun K hK => ?_) (AllReadyH.cons rfl (fun K hK => ?_) AllReadyH.nil)
        · go_simp
          go_at_call 11
          (with_reducible refine (HB2.out _ (gm.trans G20)).mono ?_)
          rintro e x21 ⟨rfl, q21⟩
          try go_wp2_with fail
          have G21 := G20.trans q21
          replace A2 := A2.gr q21
          refine hK.out _ _ (HS.out _ G21) (fun hHeld2 => ?_)
          clear hK K hHeld
          have hHeld := hHeld2
          clear hHeld2
          try simp only [Act.put, List.getElem_toArray, List.getElem_cons_zero, List.getElem_cons_succ, List.setIfInBounds_toArray, List.set_cons_zero, List.set_cons_succ]
          refine wpAnyH_ready (rs := [14]) (by kernel_rfl) (by simp) ?_
          refine AllReadyH.cons rfl (fun K hK => ?_) AllReadyH.nil
          · go_simp
            have G22 : Gr w2 (x21.alloc (.cells #[.int .i64 0, .bool false] 43)) := G21.alloc _
            have A1 := Bz.new x21 (.int .i64 0) (.bool false) 43
            have hb1 : w2.heap.size ≤ x21.heap.size := G21.size
            have hne : x21.heap.size ≠ b2 := Nat.ne_of_gt A2.1
            replace A2 := A2.gr ((Gr.refl x21).alloc (.cells #[.int .i64 0, .bool false] 43))
            refine hK.out _ _ (HS.out _ G22) (fun hHeld2 => ?_)
            clear hK K hHeld
            have hHeld := hHeld2
            clear hHeld2
            try simp only [Act.put, List.getElem_toArray, List.getElem_cons_zero, List.getElem_cons_succ, List.setIfInBounds_toArray, List.set_cons_zero, List.set_cons_succ]
            generalize (x21.alloc (.cells #[.int .i64 0, .bool false] 43)) = x22 at *
            generalize x21.heap.size = b1 at *
            refine wpAnyH_ready (rs := [16]) (by kernel_rfl) (by simp) ?_
            refine AllReadyH.cons rfl (fun K hK => ?_) AllReadyH.nil
            · obtain ⟨s0, s1, s2, s3, s4⟩ := id A1
              go_simp
              have G23 := (G22.setCell (p := ⟨b1, 0, none⟩) hb1 (.int .i64 r1)).setCell (p := ⟨b1, 1, none⟩) hb1 (.bool t1)
              replace A1 := A1.set (.int .i64 r1) (.bool t1)
              replace A2 := A2.keep hne (.int .i64 r1) (.bool t1)
              clear s0 s1 s2 s3 s4
              refine hK.out _ _ (HS.out _ G23) (fun hHeld2 => ?_)
              clear hK K hHeld
              have hHeld := hHeld2
              clear hHeld2
              try simp only [Act.put, List.getElem_toArray, List.getElem_cons_zero, List.getElem_cons_succ, List.setIfInBounds_toArray, List.set_cons_zero, List.set_cons_succ]
              generalize (x22.setCell ⟨b1, 0, none⟩ (.int .i64 r1)).setCell ⟨b1, 1, none⟩ (.bool t1) = x23 at *
              refine wpAnyH_ready (rs := [17]) (by kernel_rfl) (by simp) ?_
              refine AllReadyH.cons rfl (fun K hK => ?_) AllReadyH.nil
              · obtain ⟨s0, s1, s2, s3, s4⟩ := id A2
                go_simp
                have G24 := (G23.setCell (p := ⟨b2, 0, none⟩) hb2 (.int .i64 r2)).setCell (p := ⟨b2, 1, none⟩) hb2 (.bool t2)
                replace A2 := A2.set (.int .i64 r2) (.bool t2)
                replace A1 := A1.keep (Ne.symm hne) (.int .i64 r2) (.bool t2)
                clear s0 s1 s2 s3 s4
                refine hK.out _ _ (HS.out _ G24) (fun hHeld2 => ?_)
                clear hK K hHeld
                have hHeld := hHeld2
                clear hHeld2
                try simp only [Act.put, List.getElem_toArray, List.getElem_cons_zero, List.getElem_cons_succ, List.setIfInBounds_toArray, List.set_cons_zero, List.set_cons_succ]
                generalize (x23.setCell ⟨b2, 0, none⟩ (.int .i64 r2)).setCell ⟨b2, 1, none⟩ (.bool t2) = x24 at *
                refine wpAnyH_done (by kernel_rfl) ?_ _
                go_wp2_with fail
                go_meet
                case rel => exact ⟨_, _, rfl, rfl, G24, A1, A2⟩
        · go_simp
          have G25 : Gr w2 (x20.alloc (.cells #[.int .i64 0, .bool false] 43)) := G20.alloc _
          have A1 := Bz.new x20 (.int .i64 0) (.bool false) 43
          have hb1 : w2.heap.size ≤ x20.heap.size := G20.size
          have hne : x20.heap.size ≠ b2 := Nat.ne_of_gt A2.1
          replace A2 := A2.gr ((Gr.refl x20).alloc (.cells #[.int .i64 0, .bool false] 43))
          refine hK.out _ _ (HS.out _ G25) (fun hHeld2 => ?_)
          clear hK K hHeld
          have hHeld := hHeld2
          clear hHeld2
          try simp only [Act.put, List.getElem_toArray, List.getElem_cons_zero, List.getElem_cons_succ, List.setIfInBounds_toArray, List.set_cons_zero, List.set_cons_succ]
          generalize (x20.alloc (.cells #[.int .i64 0, .bool false] 43)) = x25 at *
          generalize x20.heap.size = b1 at *
          refine wpAnyH_ready (rs := [13]) (by kernel_rfl) (by simp) ?_
          refine AllReadyH.cons rfl (fun K hK => ?_) AllReadyH.nil
          · go_simp
            go_at_call 11
            (with_reducible refine (HB2.out _ (gm.trans G25)).mono ?_)
            rintro e x26 ⟨rfl, q26⟩
            try go_wp2_with fail
            have G26 := G25.trans q26
            replace A1 := A1.gr q26
            replace A2 := A2.gr q26
            refine hK.out _ _ (HS.out _ G26) (fun hHeld2 => ?_)
            clear hK K hHeld
            have hHeld := hHeld2
            clear hHeld2
            try simp only [Act.put, List.getElem_toArray, List.getElem_cons_zero, List.getElem_cons_succ, List.setIfInBounds_toArray, List.set_cons_zero, List.set_cons_succ]
            refine wpAnyH_ready (rs := [16]) (by kernel_rfl) (by simp) ?_
            refine AllReadyH.cons rfl (fun K hK => ?_) AllReadyH.nil
            · obtain ⟨s0, s1, s2, s3, s4⟩ := id A1
              go_simp
              have G27 := (G26.setCell (p := ⟨b1, 0, none⟩) hb1 (.int .i64 r1)).setCell (p := ⟨b1, 1, none⟩) hb1 (.bool t1)
              replace A1 := A1.set (.int .i64 r1) (.bool t1)
              replace A2 := A2.keep hne (.int .i64 r1) (.bool t1)
              clear s0 s1 s2 s3 s4
              refine hK.out _ _ (HS.out _ G27) (fun hHeld2 => ?_)
              clear hK K hHeld
              have hHeld := hHeld2
              clear hHeld2
              try simp only [Act.put, List.getElem_toArray, List.getElem_cons_zero, List.getElem_cons_succ, List.setIfInBounds_toArray, List.set_cons_zero, List.set_cons_succ]
              generalize (x26.setCell ⟨b1, 0, none⟩ (.int .i64 r1)).setCell ⟨b1, 1, none⟩ (.bool t1) = x27 at *
              refine wpAnyH_ready (rs := [17]) (by kernel_rfl) (by simp) ?_
              refine AllReadyH.cons rfl (fun K hK => ?_) AllReadyH.nil
              · obtain ⟨s0, s1, s2, s3, s4⟩ := id A2
                go_simp
                have G28 := (G27.setCell (p := ⟨b2, 0, none⟩) hb2 (.int .i64 r2)).setCell (p := ⟨b2, 1, none⟩) hb2 (.bool t2)
                replace A2 := A2.set (.int .i64 r2) (.bool t2)
                replace A1 := A1.keep (Ne.symm hne) (.int .i64 r2) (.bool t2)
                clear s0 s1 s2 s3 s4
                refine hK.out _ _ (HS.out _ G28) (fun hHeld2 => ?_)
                clear hK K hHeld
                have hHeld := hHeld2
                clear hHeld2
                try simp only [Act.put, List.getElem_toArray, List.getElem_cons_zero, List.getElem_cons_succ, List.setIfInBounds_toArray, List.set_cons_zero, List.set_cons_succ]
                generalize (x27.setCell ⟨b2, 0, none⟩ (.int .i64 r2)).setCell ⟨b2, 1, none⟩ (.bool t2) = x28 at *
                refine wpAnyH_done (by kernel_rfl) ?_ _
                go_wp2_with fail
                go_meet
                case rel => exact ⟨_, _, rfl, rfl, G28, A1, A2⟩
    · go_simp
      have G29 : Gr w2 (x0.alloc (.cells #[.int .i64 0, .bool false] 43)) := G0.alloc _
      have A1 := Bz.new x0 (.int .i64 0) (.bool false) 43
      have hb1 : w2.heap.size ≤ x0.heap.size := G0.size
      refine hK.out _ _ (HS.out _ G29) (fun hHeld2 => ?_)
      clear hK K hHeld
      have hHeld := hHeld2
      clear hHeld2
      try simp only [Act.put, List.getElem_toArray, List.getElem_cons_zero, List.getElem_cons_succ, List.setIfInBounds_toArray, List.set_cons_zero, List.set_cons_succ]
      generalize (x0.alloc (.cells #[.int .i64 0, .bool false] 43)) = x29 at *
      generalize x0.heap.size = b1 at *
      refine wpAnyH_ready (rs := [6, 15]) (by kernel_rfl) (by simp) ?_
      refine AllReadyH.cons rfl (fun K hK => ?_) (AllReadyH.cons rfl (fun K hK => ?_) AllReadyH.nil)
      · go_simp
        go_at_call 11
        (with_reducible refine (HB1.out _ (gm.trans G29)).mono ?_)
        rintro e x30 ⟨rfl, q30⟩
        try go_wp2_with fail
        have G30 := G29.trans q30
        replace A1 := A1.gr q30
        refine hK.out _ _ (HS.out _ G30) (fun hHeld2 => ?_)
        clear hK K hHeld
        have hHeld := hHeld2
        clear hHeld2
        try simp only [Act.put, List.getElem_toArray, List.getElem_cons_zero, List.getElem_cons_succ, List.setIfInBounds_toArray, List.set_cons_zero, List.set_cons_succ]
        refine wpAnyH_ready (rs := [13, 15]) (by kernel_rfl) (by simp) ?_
        refine AllReadyH.cons rfl (fun K hK => ?_) (AllReadyH.cons rfl (fun K hK => ?_) AllReadyH.nil)
        · go_simp
          go_at_call 11
          (with_reducible refine (HB2.out _ (gm.trans G30)).mono ?_)
          rintro e x31 ⟨rfl, q31⟩
          try go_wp2_with fail
          have G31 := G30.trans q31
          replace A1 := A1.gr q31
          refine hK.out _ _ (HS.out _ G31) (fun hHeld2 => ?_)
          clear hK K hHeld
          have hHeld := hHeld2
          clear hHeld2
          try simp only [Act.put, List.getElem_toArray, List.getElem_cons_zero, List.getElem_cons_succ, List.setIfInBounds_toArray, List.set_cons_zero, List.set_cons_succ]
          refine wpAnyH_ready (rs := [15]) (by kernel_rfl) (by simp) ?_
          refine AllReadyH.cons rfl (fun K hK => ?_) AllReadyH.nil
          · go_simp
            have G32 : Gr w2 (x31.alloc (.cells #[.int .i64 0, .bool false] 43)) := G31.alloc _
            have A2 := Bz.new x31 (.int .i64 0) (.bool false) 43
            have hb2 : w2.heap.size ≤ x31.heap.size := G31.size
            have hne : b1 ≠ x31.heap.size := Nat.ne_of_lt A1.1
            replace A1 := A1.gr ((Gr.refl x31).alloc (.cells #[.int .i64 0, .bool false] 43))
            refine hK.out _ _ (HS.out _ G32) (fun hHeld2 => ?_)
            clear hK K hHeld
            have hHeld := hHeld2
            clear hHeld2
            try simp only [Act.put, List.getElem_toArray, List.getElem_cons_zero, List.getElem_cons_succ, List.setIfInBounds_toArray, List.set_cons_zero, List.set_cons_succ]
            generalize (x31.alloc (.cells #[.int .i64 0, .bool false] 43)) = x32 at *
            generalize x31.heap.size = b2 at *
            refine wpAnyH_ready (rs := [16]) (by kernel_rfl) (by simp) ?_
            refine AllReadyH.cons rfl (fun K hK => ?_) AllReadyH.nil
            · obtain ⟨s0, s1, s2, s3, s4⟩ := id A1
              go_simp
              have G33 := (G32.setCell (p := ⟨b1, 0, none⟩) hb1 (.int .i64 r1)).setCell (p := ⟨b1, 1, none⟩) hb1 (.bool t1)
              replace A1 := A1.set (.int .i64 r1) (.bool t1)
              replace A2 := A2.keep hne (.int .i64 r1) (.bool t1)
              clear s0 s1 s2 s3 s4
              refine hK.out _ _ (HS.out _ G33) (fun hHeld2 => ?_)
              clear hK K hHeld
              have hHeld := hHeld2
              clear hHeld2
              try simp only [Act.put, List.getElem_toArray, List.getElem_cons_zero, List.getElem_cons_succ, List.setIfInBounds_toArray, List.set_cons_zero, List.set_cons_succ]
              generalize (x32.setCell ⟨b1, 0, none⟩ (.int .i64 r1)).setCell ⟨b1, 1, none⟩ (.bool t1) = x33 at *
              refine wpAnyH_ready (rs := [17]) (by kernel_rfl) (by simp) ?_
              refine AllReadyH.cons rfl (fun K hK => ?_) AllReadyH.nil
              · obtain ⟨s0, s1, s2, s3, s4⟩ := id A2
                go_simp
                have G34 := (G33.setCell (p := ⟨b2, 0, none⟩) hb2 (.int .i64 r2)).setCell (p := ⟨b2, 1, none⟩) hb2 (.bool t2)
                replace A2 := A2.set (.int .i64 r2) (.bool t2)
                replace A1 := A1.keep (Ne.symm hne) (.int .i64 r2) (.bool t2)
                clear s0 s1 s2 s3 s4
                refine hK.out _ _ (HS.out _ G34) (fun hHeld2 => ?_)
                clear hK K hHeld
                have hHeld := hHeld2
                clear hHeld2
                try simp only [Act.put, List.getElem_toArray, List.getElem_cons_zero, List.getElem_cons_succ, List.setIfInBounds_toArray, List.set_cons_zero, List.set_cons_succ]
                generalize (x33.setCell ⟨b2, 0, none⟩ (.int .i64 r2)).setCell ⟨b2, 1, none⟩ (.bool t2) = x34 at *
                refine wpAnyH_done (by kernel_rfl) ?_ _
                go_wp2_with fail
                go_meet
                case rel => exact ⟨_, _, rfl, rfl, G34, A1, A2⟩
        · go_simp
          have G35 : Gr w2 (x30.alloc (.cells #[.int .i64 0, .bool false] 43)) := G30.alloc _
          have A2 := Bz.new x30 (.int .i64 0) (.bool false) 43
          have hb2 : w2.heap.size ≤ x30.heap.size := G30.size
          have hne : b1 ≠ x30.heap.size := Nat.ne_of_lt A1.1
          replace A1 := A1.gr ((Gr.refl x30).alloc (.cells #[.int .i64 0, .bool false] 43))
          refine hK.out _ _ (HS.out _ G35) (fun hHeld2 => ?_)
          clear hK K hHeld
          have hHeld := hHeld2
          clear hHeld2
          try simp only [Act.put, List.getElem_toArray, List.getElem_cons_zero, List.getElem_cons_succ, List.setIfInBounds_toArray, List.set_cons_zero, List.set_cons_succ]
          generalize (x30.alloc (.cells #[.int .i64 0, .bool false] 43)) = x35 at *
          generalize x30.heap.size = b2 at *
          refine wpAnyH_ready (rs := [13]) (by kernel_rfl) (by simp) ?_
          refine AllReadyH.cons rfl (fun K hK => ?_) AllReadyH.nil
          · go_simp
            go_at_call 11
            (with_reducible refine (HB2.out _ (gm.trans G35)).mono ?_)
            rintro e x36 ⟨rfl, q36⟩
            try go_wp2_with fail
            have G36 := G35.trans q36
            replace A1 := A1.gr q36
            replace A2 := A2.gr q36
            refine hK.out _ _ (HS.out _ G36) (fun hHeld2 => ?_)
            clear hK K hHeld
            have hHeld := hHeld2
            clear hHeld2
            try simp only [Act.put, List.getElem_toArray, List.getElem_cons_zero, List.getElem_cons_succ, List.setIfInBounds_toArray, List.set_cons_zero, List.set_cons_succ]
            refine wpAnyH_ready (rs := [16]) (by kernel_rfl) (by simp) ?_
            refine AllReadyH.cons rfl (fun K hK => ?_) AllReadyH.nil
            · obtain ⟨s0, s1, s2, s3, s4⟩ := id A1
              go_simp
              have G37 := (G36.setCell (p := ⟨b1, 0, none⟩) hb1 (.int .i64 r1)).setCell (p := ⟨b1, 1, none⟩) hb1 (.bool t1)
              replace A1 := A1.set (.int .i64 r1) (.bool t1)
              replace A2 := A2.keep hne (.int .i64 r1) (.bool t1)
              clear s0 s1 s2 s3 s4
              refine hK.out _ _ (HS.out _ G37) (fun hHeld2 => ?_)
              clear hK K hHeld
              have hHeld := hHeld2
              clear hHeld2
              try simp only [Act.put, List.getElem_toArray, List.getElem_cons_zero, List.getElem_cons_succ, List.setIfInBounds_toArray, List.set_cons_zero, List.set_cons_succ]
              generalize (x36.setCell ⟨b1, 0, none⟩ (.int .i64 r1)).setCell ⟨b1, 1, none⟩ (.bool t1) = x37 at *
              refine wpAnyH_ready (rs := [17]) (by kernel_rfl) (by simp) ?_
              refine AllReadyH.cons rfl (fun K hK => ?_) AllReadyH.nil
              · obtain ⟨s0, s1, s2, s3, s4⟩ := id A2
                go_simp
                have G38 := (G37.setCell (p := ⟨b2, 0, none⟩) hb2 (.int .i64 r2)).setCell (p := ⟨b2, 1, none⟩) hb2 (.bool t2)
                replace A2 := A2.set (.int .i64 r2) (.bool t2)
                replace A1 := A1.keep (Ne.symm hne) (.int .i64 r2) (.bool t2)
                clear s0 s1 s2 s3 s4
                refine hK.out _ _ (HS.out _ G38) (fun hHeld2 => ?_)
                clear hK K hHeld
                have hHeld := hHeld2
                clear hHeld2
                try simp only [Act.put, List.getElem_toArray, List.getElem_cons_zero, List.getElem_cons_succ, List.setIfInBounds_toArray, List.set_cons_zero, List.set_cons_succ]
                generalize (x37.setCell ⟨b2, 0, none⟩ (.int .i64 r2)).setCell ⟨b2, 1, none⟩ (.bool t2) = x38 at *
                refine wpAnyH_done (by kernel_rfl) ?_ _
                go_wp2_with fail
                go_meet
                case rel => exact ⟨_, _, rfl, rfl, G38, A1, A2⟩
      · go_simp
        have G39 : Gr w2 (x29.alloc (.cells #[.int .i64 0, .bool false] 43)) := G29.alloc _
        have A2 := Bz.new x29 (.int .i64 0) (.bool false) 43
        have hb2 : w2.heap.size ≤ x29.heap.size := G29.size
        have hne : b1 ≠ x29.heap.size := Nat.ne_of_lt A1.1
        replace A1 := A1.gr ((Gr.refl x29).alloc (.cells #[.int .i64 0, .bool false] 43))
        refine hK.out _ _ (HS.out _ G39) (fun hHeld2 => ?_)
        clear hK K hHeld
        have hHeld := hHeld2
        clear hHeld2
        try simp only [Act.put, List.getElem_toArray, List.getElem_cons_zero, List.getElem_cons_succ, List.setIfInBounds_toArray, List.set_cons_zero, List.set_cons_succ]
        generalize (x29.alloc (.cells #[.int .i64 0, .bool false] 43)) = x39 at *
        generalize x29.heap.size = b2 at *
        refine wpAnyH_ready (rs := [6]) (by kernel_rfl) (by simp) ?_
        refine AllReadyH.cons rfl (fun K hK => ?_) AllReadyH.nil
        · go_simp
          go_at_call 11
          (with_reducible refine (HB1.out _ (gm.trans G39)).mono ?_)
          rintro e x40 ⟨rfl, q40⟩
          try go_wp2_with fail
          have G40 := G39.trans q40
          replace A1 := A1.gr q40
          replace A2 := A2.gr q40
          refine hK.out _ _ (HS.out _ G40) (fun hHeld2 => ?_)
          clear hK K hHeld
          have hHeld := hHeld2
          clear hHeld2
          try simp only [Act.put, List.getElem_toArray, List.getElem_cons_zero, List.getElem_cons_succ, List.setIfInBounds_toArray, List.set_cons_zero, List.set_cons_succ]
          refine wpAnyH_ready (rs := [13]) (by kernel_rfl) (by simp) ?_
          refine AllReadyH.cons rfl (fun K hK => ?_) AllReadyH.nil
          · go_simp
            go_at_call 11
            (with_reducible refine (HB2.out _ (gm.trans G40)).mono ?_)
            rintro e x41 ⟨rfl, q41⟩
            try go_wp2_with fail
            have G41 := G40.trans q41
            replace A1 := A1.gr q41
            replace A2 := A2.gr q41
            refine hK.out _ _ (HS.out _ G41) (fun hHeld2 => ?_)
            clear hK K hHeld
            have hHeld := hHeld2
            clear hHeld2
            try simp only [Act.put, List.getElem_toArray, List.getElem_cons_zero, List.getElem_cons_succ, List.setIfInBounds_toArray, List.set_cons_zero, List.set_cons_succ]
            refine wpAnyH_ready (rs := [16]) (by kernel_rfl) (by simp) ?_
            refine AllReadyH.cons rfl (fun K hK => ?_) AllReadyH.nil
            · obtain ⟨s0, s1, s2, s3, s4⟩ := id A1
              go_simp
              have G42 := (G41.setCell (p := ⟨b1, 0, none⟩) hb1 (.int .i64 r1)).setCell (p := ⟨b1, 1, none⟩) hb1 (.bool t1)
              replace A1 := A1.set (.int .i64 r1) (.bool t1)
              replace A2 := A2.keep hne (.int .i64 r1) (.bool t1)
              clear s0 s1 s2 s3 s4
              refine hK.out _ _ (HS.out _ G42) (fun hHeld2 => ?_)
              clear hK K hHeld
              have hHeld := hHeld2
              clear hHeld2
              try simp only [Act.put, List.getElem_toArray, List.getElem_cons_zero, List.getElem_cons_succ, List.setIfInBounds_toArray, List.set_cons_zero, List.set_cons_succ]
              generalize (x41.setCell ⟨b1, 0, none⟩ (.int .i64 r1)).setCell ⟨b1, 1, none⟩ (.bool t1) = x42 at *
              refine wpAnyH_ready (rs := [17]) (by kernel_rfl) (by simp) ?_
              refine AllReadyH.cons rfl (fun K hK => ?_) AllReadyH.nil
              · obtain ⟨s0, s1, s2, s3, s4⟩ := id A2
                go_simp
                have G43 := (G42.setCell (p := ⟨b2, 0, none⟩) hb2 (.int .i64 r2)).setCell (p := ⟨b2, 1, none⟩) hb2 (.bool t2)
                replace A2 := A2.set (.int .i64 r2) (.bool t2)
                replace A1 := A1.keep (Ne.symm hne) (.int .i64 r2) (.bool t2)
                clear s0 s1 s2 s3 s4
                refine hK.out _ _ (HS.out _ G43) (fun hHeld2 => ?_)
                clear hK K hHeld
                have hHeld := hHeld2
                clear hHeld2
                try simp only [Act.put, List.getElem_toArray, List.getElem_cons_zero, List.getElem_cons_succ, List.setIfInBounds_toArray, List.set_cons_zero, List.set_cons_succ]
                generalize (x42.setCell ⟨b2, 0, none⟩ (.int .i64 r2)).setCell ⟨b2, 1, none⟩ (.bool t2) = x43 at *
                refine wpAnyH_done (by kernel_rfl) ?_ _
                go_wp2_with fail
                go_meet
                case rel => exact ⟨_, _, rfl, rfl, G43, A1, A2⟩
    · go_simp
      have G44 : Gr w2 (x0.alloc (.cells #[.int .i64 0, .bool false] 43)) := G0.alloc _
      have A2 := Bz.new x0 (.int .i64 0) (.bool false) 43
      have hb2 : w2.heap.size ≤ x0.heap.size := G0.size
      refine hK.out _ _ (HS.out _ G44) (fun hHeld2 => ?_)
      clear hK K hHeld
      have hHeld := hHeld2
      clear hHeld2
      try simp only [Act.put, List.getElem_toArray, List.getElem_cons_zero, List.getElem_cons_succ, List.setIfInBounds_toArray, List.set_cons_zero, List.set_cons_succ]
      generalize (x0.alloc (.cells #[.int .i64 0, .bool false] 43)) = x44 at *
      generalize x0.heap.size = b2 at *
      refine wpAnyH_ready (rs := [6, 14]) (by kernel_rfl) (by simp) ?_
      refine AllReadyH.cons rfl (fun K hK => ?_) (AllReadyH.cons rfl (fun K hK => ?_) AllReadyH.nil)
      · go_simp
        go_at_call 11
        (with_reducible refine (HB1.out _ (gm.trans G44)).mono ?_)
        rintro e x45 ⟨rfl, q45⟩
        try go_wp2_with fail
        have G45 := G44.trans q45
        replace A2 := A2.gr q45
        refine hK.out _ _ (HS.out _ G45) (fun hHeld2 => ?_)
        clear hK K hHeld
        have hHeld := hHeld2
        clear hHeld2
        try simp only [Act.put, List.getElem_toArray, List.getElem_cons_zero, List.getElem_cons_succ, List.setIfInBounds_toArray, List.set_cons_zero, List.set_cons_succ]
        refine wpAnyH_ready (rs := [13, 14]) (by kernel_rfl) (by simp) ?_
        refine AllReadyH.cons rfl (fun K hK => ?_) (AllReadyH.cons rfl (fun K hK => ?_) AllReadyH.nil)
        · go_simp
          go_at_call 11
          (with_reducible refine (HB2.out _ (gm.trans G45)).mono ?_)
          rintro e x46 ⟨rfl, q46⟩
          try go_wp2_with fail
          have G46 := G45.trans q46
          replace A2 := A2.gr q46
          refine hK.out _ _ (HS.out _ G46) (fun hHeld2 => ?_)
          clear hK K hHeld
          have hHeld := hHeld2
          clear hHeld2
          try simp only [Act.put, List.getElem_toArray, List.getElem_cons_zero, List.getElem_cons_succ, List.setIfInBounds_toArray, List.set_cons_zero, List.set_cons_succ]
          refine wpAnyH_ready (rs := [14]) (by kernel_rfl) (by simp) ?_
          refine AllReadyH.cons rfl (fun K hK => ?_) AllReadyH.nil
          · go_simp
            have G47 : Gr w2 (x46.alloc (.cells #[.int .i64 0, .bool false] 43)) := G46.alloc _
            have A1 := Bz.new x46 (.int .i64 0) (.bool false) 43
            have hb1 : w2.heap.size ≤ x46.heap.size := G46.size
            have hne : x46.heap.size ≠ b2 := Nat.ne_of_gt A2.1
            replace A2 := A2.gr ((Gr.refl x46).alloc (.cells #[.int .i64 0, .bool false] 43))
            refine hK.out _ _ (HS.out _ G47) (fun hHeld2 => ?_)
            clear hK K hHeld
            have hHeld := hHeld2
            clear hHeld2
            try simp only [Act.put, List.getElem_toArray, List.getElem_cons_zero, List.getElem_cons_succ, List.setIfInBounds_toArray, List.set_cons_zero, List.set_cons_succ]
            generalize (x46.alloc (.cells #[.int .i64 0, .bool false] 43)) = x47 at *
            generalize x46.heap.size = b1 at *
            refine wpAnyH_ready (rs := [16]) (by kernel_rfl) (by simp) ?_
            refine AllReadyH.cons rfl (fun K hK => ?_) AllReadyH.nil
            · obtain ⟨s0, s1, s2, s3, s4⟩ := id A1
              go_simp
              have G48 := (G47.setCell (p := ⟨b1, 0, none⟩) hb1 (.int .i64 r1)).setCell (p := ⟨b1, 1, none⟩) hb1 (.bool t1)
              replace A1 := A1.set (.int .i64 r1) (.bool t1)
              replace A2 := A2.keep hne (.int .i64 r1) (.bool t1)
              clear s0 s1 s2 s3 s4
              refine hK.out _ _ (HS.out _ G48) (fun hHeld2 => ?_)
              clear hK K hHeld
              have hHeld := hHeld2
              clear hHeld2
              try simp only [Act.put, List.getElem_toArray, List.getElem_cons_zero, List.getElem_cons_succ, List.setIfInBounds_toArray, List.set_cons_zero, List.set_cons_succ]
              generalize (x47.setCell ⟨b1, 0, none⟩ (.int .i64 r1)).setCell ⟨b1, 1, none⟩ (.bool t1) = x48 at *
              refine wpAnyH_ready (rs := [17]) (by kernel_rfl) (by simp) ?_
              refine AllReadyH.cons rfl (fun K hK => ?_) AllReadyH.nil
              · obtain ⟨s0, s1, s2, s3, s4⟩ := id A2
                go_simp
                have G49 := (G48.setCell (p := ⟨b2, 0, none⟩) hb2 (.int .i64 r2)).setCell (p := ⟨b2, 1, none⟩) hb2 (.bool t2)
                replace A2 := A2.set (.int .i64 r2) (.bool t2)
                replace A1 := A1.keep (Ne.symm hne) (.int .i64 r2) (.bool t2)
                clear s0 s1 s2 s3 s4
                refine hK.out _ _ (HS.out _ G49) (fun hHeld2 => ?_)
                clear hK K hHeld
                have hHeld := hHeld2
                clear hHeld2
                try simp only [Act.put, List.getElem_toArray, List.getElem_cons_zero, List.getElem_cons_succ, List.setIfInBounds_toArray, List.set_cons_zero, List.set_cons_succ]
                generalize (x48.setCell ⟨b2, 0, none⟩ (.int .i64 r2)).setCell ⟨b2, 1, none⟩ (.bool t2) = x49 at *
                refine wpAnyH_done (by kernel_rfl) ?_ _
                go_wp2_with fail
                go_meet
                case rel => exact ⟨_, _, rfl, rfl, G49, A1, A2⟩
        · go_simp
          have G50 : Gr w2 (x45.alloc (.cells #[.int .i64 0, .bool false] 43)) := G45.alloc _
          have A1 := Bz.new x45 (.int .i64 0) (.bool false) 43
          have hb1 : w2.heap.size ≤ x45.heap.size := G45.size
          have hne : x45.heap.size ≠ b2 := Nat.ne_of_gt A2.1
          replace A2 := A2.gr ((Gr.refl x45).alloc (.cells #[.int .i64 0, .bool false] 43))
          refine hK.out _ _ (HS.out _ G50) (fun hHeld2 => ?_)
          clear hK K hHeld
          have hHeld := hHeld2
          clear hHeld2
          try simp only [Act.put, List.getElem_toArray, List.getElem_cons_zero, List.getElem_cons_succ, List.setIfInBounds_toArray, List.set_cons_zero, List.set_cons_succ]
          generalize (x45.alloc (.cells #[.int .i64 0, .bool false] 43)) = x50 at *
          generalize x45.heap.size = b1 at *
          refine wpAnyH_ready (rs := [13]) (by kernel_rfl) (by simp) ?_
          refine AllReadyH.cons rfl (fun K hK => ?_) AllReadyH.nil
          · go_simp
            go_at_call 11
            (with_reducible refine (HB2.out _ (gm.trans G50)).mono ?_)
            rintro e x51 ⟨rfl, q51⟩
            try go_wp2_with fail
            have G51 := G50.trans q51
            replace A1 := A1.gr q51
            replace A2 := A2.gr q51
            refine hK.out _ _ (HS.out _ G51) (fun hHeld2 => ?_)
            clear hK K hHeld
            have hHeld := hHeld2
            clear hHeld2
            try simp only [Act.put, List.getElem_toArray, List.getElem_cons_zero, List.getElem_cons_succ, List.setIfInBounds_toArray, List.set_cons_zero, List.set_cons_succ]
            refine wpAnyH_ready (rs := [16]) (by kernel_rfl) (by simp) ?_
            refine AllReadyH.cons rfl (fun K hK => ?_) AllReadyH.nil
            · obtain ⟨s0, s1, s2, s3, s4⟩ := id A1
              go_simp
              have G52 := (G51.setCell (p := ⟨b1, 0, none⟩) hb1 (.int .i64 r1)).setCell (p := ⟨b1, 1, none⟩) hb1 (.bool t1)
              replace A1 := A1.set (.int .i64 r1) (.bool t1)
              replace A2 := A2.keep hne (.int .i64 r1) (.bool t1)
              clear s0 s1 s2 s3 s4
              refine hK.out _ _ (HS.out _ G52) (fun hHeld2 => ?_)
              clear hK K hHeld
              have hHeld := hHeld2
              clear hHeld2
              try simp only [Act.put, List.getElem_toArray, List.getElem_cons_zero, List.getElem_cons_succ, List.setIfInBounds_toArray, List.set_cons_zero, List.set_cons_succ]
              generalize (x51.setCell ⟨b1, 0, none⟩ (.int .i64 r1)).setCell ⟨b1, 1, none⟩ (.bool t1) = x52 at *
              refine wpAnyH_ready (rs := [17]) (by kernel_rfl) (by simp) ?_
              refine AllReadyH.cons rfl (fun K hK => ?_) AllReadyH.nil
              · obtain ⟨s0, s1, s2, s3, s4⟩ := id A2
                go_simp
                have G53 := (G52.setCell (p := ⟨b2, 0, none⟩) hb2 (.int .i64 r2)).setCell (p := ⟨b2, 1, none⟩) hb2 (.bool t2)
                replace A2 := A2.set (.int .i64 r2) (.bool t2)
                replace A1 := A1.keep (Ne.symm hne) (.int .i64 r2) (.bool t2)
                clear s0 s1 s2 s3 s4
                refine hK.out _ _ (HS.out _ G53) (fun hHeld2 => ?_)
                clear hK K hHeld
                have hHeld := hHeld2
                clear hHeld2
                try simp only [Act.put, List.getElem_toArray, List.getElem_cons_zero, List.getElem_cons_succ, List.setIfInBounds_toArray, List.set_cons_zero, List.set_cons_succ]
                generalize (x52.setCell ⟨b2, 0, none⟩ (.int .i64 r2)).setCell ⟨b2, 1, none⟩ (.bool t2) = x53 at *
                refine wpAnyH_done (by kernel_rfl) ?_ _
                go_wp2_with fail
                go_meet
                case rel => exact ⟨_, _, rfl, rfl, G53, A1, A2⟩
      · go_simp
        have G54 : Gr w2 (x44.alloc (.cells #[.int .i64 0, .bool false] 43)) := G44.alloc _
        have A1 := Bz.new x44 (.int .i64 0) (.bool false) 43
        have hb1 : w2.heap.size ≤ x44.heap.size := G44.size
        have hne : x44.heap.size ≠ b2 := Nat.ne_of_gt A2.1
        replace A2 := A2.gr ((Gr.refl x44).alloc (.cells #[.int .i64 0, .bool false] 43))
        refine hK.out _ _ (HS.out _ G54) (fun hHeld2 => ?_)
        clear hK K hHeld
        have hHeld := hHeld2
        clear hHeld2
        try simp only [Act.put, List.getElem_toArray, List.getElem_cons_zero, List.getElem_cons_succ, List.setIfInBounds_toArray, List.set_cons_zero, List.set_cons_succ]
        generalize (x44.alloc (.cells #[.int .i64 0, .bool false] 43)) = x54 at *
        generalize x44.heap.size = b1 at *
        refine wpAnyH_ready (rs := [6]) (by kernel_rfl) (by simp) ?_
        refine AllReadyH.cons rfl (fun K hK => ?_) AllReadyH.nil
        · go_simp
          go_at_call 11
          (with_reducible refine (HB1.out _ (gm.trans G54)).mono ?_)
          rintro e x55 ⟨rfl, q55⟩
          try go_wp2_with fail
          have G55 := G54.trans q55
          replace A1 := A1.gr q55
          replace A2 := A2.gr q55
          refine hK.out _ _ (HS.out _ G55) (fun hHeld2 => ?_)
          clear hK K hHeld
          have hHeld := hHeld2
          clear hHeld2
          try simp only [Act.put, List.getElem_toArray, List.getElem_cons_zero, List.getElem_cons_succ, List.setIfInBounds_toArray, List.set_cons_zero, List.set_cons_succ]
          refine wpAnyH_ready (rs := [13]) (by kernel_rfl) (by simp) ?_
          refine AllReadyH.cons rfl (fun K hK => ?_) AllReadyH.nil
          · go_simp
            go_at_call 11
            (with_reducible refine (HB2.out _ (gm.trans G55)).mono ?_)
            rintro e x56 ⟨rfl, q56⟩
            try go_wp2_with fail
            have G56 := G55.trans q56
            replace A1 := A1.gr q56
            replace A2 := A2.gr q56
            refine hK.out _ _ (HS.out _ G56) (fun hHeld2 => ?_)
            clear hK K hHeld
            have hHeld := hHeld2
            clear hHeld2
            try simp only [Act.put, List.getElem_toArray, List.getElem_cons_zero, List.getElem_cons_succ, List.setIfInBounds_toArray, List.set_cons_zero, List.set_cons_succ]
            refine wpAnyH_ready (rs := [16]) (by kernel_rfl) (by simp) ?_
            refine AllReadyH.cons rfl (fun K hK => ?_) AllReadyH.nil
            · obtain ⟨s0, s1, s2, s3, s4⟩ := id A1
              go_simp
              have G57 := (G56.setCell (p := ⟨b1, 0, none⟩) hb1 (.int .i64 r1)).setCell (p := ⟨b1, 1, none⟩) hb1 (.bool t1)
              replace A1 := A1.set (.int .i64 r1) (.bool t1)
              replace A2 := A2.keep hne (.int .i64 r1) (.bool t1)
              clear s0 s1 s2 s3 s4
              refine hK.out _ _ (HS.out _ G57) (fun hHeld2 => ?_)
              clear hK K hHeld
              have hHeld := hHeld2
              clear hHeld2
              try simp only [Act.put, List.getElem_toArray, List.getElem_cons_zero, List.getElem_cons_succ, List.setIfInBounds_toArray, List.set_cons_zero, List.set_cons_succ]
              generalize (x56.setCell ⟨b1, 0, none⟩ (.int .i64 r1)).setCell ⟨b1, 1, none⟩ (.bool t1) = x57 at *
              refine wpAnyH_ready (rs := [17]) (by kernel_rfl) (by simp) ?_
              refine AllReadyH.cons rfl (fun K hK => ?_) AllReadyH.nil
              · obtain ⟨s0, s1, s2, s3, s4⟩ := id A2
                go_simp
                have G58 := (G57.setCell (p := ⟨b2, 0, none⟩) hb2 (.int .i64 r2)).setCell (p := ⟨b2, 1, none⟩) hb2 (.bool t2)
                replace A2 := A2.set (.int .i64 r2) (.bool t2)
                replace A1 := A1.keep (Ne.symm hne) (.int .i64 r2) (.bool t2)
                clear s0 s1 s2 s3 s4
                refine hK.out _ _ (HS.out _ G58) (fun hHeld2 => ?_)
                clear hK K hHeld
                have hHeld := hHeld2
                clear hHeld2
                try simp only [Act.put, List.getElem_toArray, List.getElem_cons_zero, List.getElem_cons_succ, List.setIfInBounds_toArray, List.set_cons_zero, List.set_cons_succ]
                generalize (x57.setCell ⟨b2, 0, none⟩ (.int .i64 r2)).setCell ⟨b2, 1, none⟩ (.bool t2) = x58 at *
                refine wpAnyH_done (by kernel_rfl) ?_ _
                go_wp2_with fail
                go_meet
                case rel => exact ⟨_, _, rfl, rfl, G58, A1, A2⟩
  case rest =>
    obtain ⟨b1, b2, rfl, rfl, gc, A1, A2⟩ := hcut
    obtain ⟨z1, y0, y1, -, -⟩ := A1
    obtain ⟨z2, u0, u1, -, -⟩ := A2
    obtain ⟨-, e0, e1, e2, e3, e4, f0, f1, f2, f3, f4⟩ := HS.out _ gc
    have hq1 := HQ1.out
    have hq2 := HQ2.out
    unfold actP at hq1 hq2
    dsimp only at hq1 hq2
    have hkk := HKK.out
    have hA := HAB.out
    have hBr := HBB.out
    have tb : IntKind.i64.wrap (-b) = -b := IntWalk.i64_in _ (by omega)
    clear HQ1 HQ2 HKK HAB HBB HS HB1 HB2 HKN HBX HMY hT
    rcases turn_ways turn v mode with ⟨rfl, rfl, rfl⟩ | ways
    · simp at hq1 hq2
      obtain ⟨rfl, rfl⟩ := hq1
      obtain ⟨rfl, rfl⟩ := hq2
      go_wp2_with fail
      go_ret
      exact ⟨rfl, gm.trans gc⟩
    · have hnt : ¬ (turn = true ∧ v = 0 ∧ mode = 2) := by
        rintro ⟨rfl, rfl, rfl⟩
        rcases ways with h | ⟨-, h⟩ | ⟨-, -, h⟩
        · cases h
        · exact absurd h (by decide)
        · exact absurd h (by decide)
      rw [if_neg (fun h => hnt h.2), if_pos rfl] at hq1
      rw [if_neg (fun h => hnt h.2), if_neg (by decide), if_pos rfl] at hq2
      simp only [Prod.mk.injEq] at hq1 hq2
      obtain ⟨rfl, rfl⟩ := hq1
      obtain ⟨hC, rfl⟩ := hq2
      rw [hC] at hkk
      have k1 : -b ≤ r2 := hkk.1
      have k2 : r2 ≤ a := hkk.2
      have k3 : a ≤ 10 := hA.2
      clear hC hkk hnt hA hBr
      rcases ways with rfl | ⟨rfl, hv⟩ | ⟨rfl, hv, hm⟩
      · go_wp2_with fail
        go_ret
        exact ⟨rfl, gm.trans gc⟩
      · go_wp2_with fail
        go_ret
        exact ⟨rfl, gm.trans gc⟩
      · go_wp2_with fail
        go_ret
        exact ⟨rfl, gm.trans gc⟩
end Go.Proofs.YtgjnlgcdpbilfaaDoor
