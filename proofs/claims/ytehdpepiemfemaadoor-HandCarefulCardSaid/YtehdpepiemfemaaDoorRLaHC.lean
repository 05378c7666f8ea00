/- HandCareful. -/
import Derived.Test.YtehdpepiemfemaaDoorRows
import Derived.Test.YtehdpepiemfemaaDoorRKn25
import Derived.Test.YtehdpepiemfemaaDoorB3
import Derived.Test.YtehdpepiemfemaaDoorB2
import Derived.Test.YtehdpepiemfemaaDoorROpnS
namespace Go.Proofs.YtehdpepiemfemaaDoor
open Go.ChangeShapes Go.WideShapes Go.ChangeAt Go.RowKit Go.Maps
set_option linter.unusedVariables false
set_option linter.unusedSimpArgs false
/-- a want between the rates is had -/
theorem nxt_want (t a b V K : Int) (h0 : 0 ≤ V) (h1 : V ≤ t) (k0 : 0 ≤ K) (k1 : K ≤ t) (ka : K ≤ V + a) (kb : V - b ≤ K) : nxt t a b V (K - V) false = K := by
  unfold nxt wnt
  rw [hld_id V 0 t h0 h1, if_neg (by decide), hld_id (K - V) (-b) a (by omega) (by omega), hld_id _ 0 t (by omega) (by omega)]
  omega
def CarR (t b : Int) (n : Nat) (W : World) (nm : ByteArray) (l a : Int) (B : Nat) (x y z : Value) (wr : World) : Prop :=
  ∃ (V left : Int) (k : Nat), x = .int .i64 V ∧ y = .int .i64 left ∧ z = .int .u8 k ∧ k ≤ n ∧ 0 ≤ V ∧ V ≤ t ∧ 0 ≤ left ∧ left ≤ 65535 ∧ stopD t b V ≤ left ∧ Gr W wr ∧ Box wr B nm l t a b
theorem bdy1_is {w : World} {b c : Nat} {m e x left over v : Int} (hb : b < w.heap.size) (h0 : w.cell? ⟨b, 0, none⟩ = some (.int .i64 e)) (h1 : w.cell? ⟨b, 1, none⟩ = some (.int .i64 x)) : IsBdy w (.agg #[.int .i64 m, .slice (some ⟨b, 0, none⟩) 1 c, .int .i64 left, .int .i64 over, .int .i64 v]) ⟨m, [⟨e, x⟩], left, over, v⟩ :=
  ⟨_, c, rfl, ⟨_, c, rfl, by unfold maxLen; simp, .inr ⟨b, 0, rfl, hb, fun i j hi hj => by
    have e : i = 0 := by have : i < 1 := hi; omega
    subst e
    match j, hj with
    | 0, _ => exact h0
    | 1, _ => exact h1⟩⟩⟩
theorem new2c' {w w' : World} {x y : Value} {t : TypeId} (g : Gr (w.alloc (.cells #[x, y] t)) w') : w.heap.size < w'.heap.size ∧ w'.cell? ⟨w.heap.size, 0, none⟩ = some x ∧ w'.cell? ⟨w.heap.size, 1, none⟩ = some y := by
  have hz : w.heap.size < (w.alloc (.cells #[x, y] t)).heap.size := by simp
  exact ⟨Nat.lt_of_lt_of_le hz g.size, (g.cell _ _ hz).trans (by rw [World.cell?_alloc_mark]; rfl), (g.cell _ _ hz).trans (by rw [World.cell?_alloc_mark]; rfl)⟩
set_option maxRecDepth 100000 in
set_option maxHeartbeats 2000000 in
theorem handCareful_walk (v : Value) (s : Stk) (v1 v2 v3 : Int) (w : World) (ht : w.ShapedOpen Tryd.prog) (hs : IsStk v s) (w1 : (Lit.int .u8 v1).wf = true) (w2 : (Lit.int .u16 v2).wf = true) (w3 : (Lit.int .u8 v3).wf = true) :
    Calls Tryd.prog 3 #[v, .int .u8 v1, .int .u16 v2, .int .u8 v3] w fun e w' => e = .returned (.bool true) ∧ Gr w w' := by
  obtain ⟨nm, l, t, a, b⟩ := s
  obtain ⟨rfl, hsz, -⟩ := hs
  dsimp only at hsz ⊢
  have b1 : 0 ≤ v1 ∧ v1 ≤ 255 := by simpa [Lit.wf, IntKind.min, IntKind.max, IntKind.signed, IntKind.bits] using w1
  have b2 : 0 ≤ v2 ∧ v2 ≤ 65535 := by simpa [Lit.wf, IntKind.min, IntKind.max, IntKind.signed, IntKind.bits] using w2
  have b3 : 0 ≤ v3 ∧ v3 ≤ 255 := by simpa [Lit.wf, IntKind.min, IntKind.max, IntKind.signed, IntKind.bits] using w3
  clear w1 w2 w3
  obtain ⟨n, rfl⟩ := Int.eq_ofNat_of_zero_le b3.1
  have g0 : Gr w (w.alloc (.cells #[.string nm, .int .i64 l, .int .i64 t, .int .i64 a, .int .i64 b] 23)) := (Gr.refl _).alloc _
  have HKN := Lib.hid (known25_any _ (shp_gr ht g0))
  have HBX := Lib.hid (fun (w' : World) (g : Gr (w.alloc (.cells #[.string nm, .int .i64 l, .int .i64 t, .int .i64 a, .int .i64 b] 23)) w') => And.intro ((Box.new w nm l t a b 23).gr g).lt ((Box.new w nm l t a b 23).gr g).five)
  have HMY := Lib.hid (fun w' => may_any nm l t a b hsz w')
  have HPT := Lib.hid (mayB_parts (nm := nm) (l := l) (t := t) (a := a) (b := b))
  generalize mayB nm l t a b = m at HMY HPT
  cases m
  · go_enter Tryd.func3, Tryd.ntmps3
    go_wp2_with (first | (go_at_call 6; (with_reducible refine (HKN.out).mono ?_); rintro e w1 ⟨rfl, g1⟩; have gk := g0.trans g1; obtain ⟨zk, c0, c1, c2, c3, c4⟩ := HBX.out _ g1) | (go_at_call 7; (with_reducible refine (HMY.out _).mono ?_); rintro e w2 ⟨rfl, g2⟩; have gm := gk.trans g2; have gb2 := g1.trans g2; obtain ⟨zm, e0, e1, e2, e3, e4⟩ := HBX.out _ gb2) | fail)
    go_ret
    exact ⟨rfl, gm⟩
  obtain ⟨-, -, ht1, ha1, hb1⟩ := HPT.out rfl
  clear HPT
  by_cases h1 : t < v1
  · go_enter Tryd.func3, Tryd.ntmps3
    go_wp2_with (first | (go_at_call 6; (with_reducible refine (HKN.out).mono ?_); rintro e w1 ⟨rfl, g1⟩; have gk := g0.trans g1; obtain ⟨zk, c0, c1, c2, c3, c4⟩ := HBX.out _ g1) | (go_at_call 7; (with_reducible refine (HMY.out _).mono ?_); rintro e w2 ⟨rfl, g2⟩; have gm := gk.trans g2; have gb2 := g1.trans g2; obtain ⟨zm, e0, e1, e2, e3, e4⟩ := HBX.out _ gb2) | fail)
    go_ret
    exact ⟨rfl, gm⟩
  have HST := Lib.hid (fun (V : Int) w' => refStop24_any nm l t a b V ht1 ha1 hb1 w')
  by_cases h2 : v2 < stopD t b v1
  · go_enter Tryd.func3, Tryd.ntmps3
    go_wp2_with (first | (go_at_call 6; (with_reducible refine (HKN.out).mono ?_); rintro e w1 ⟨rfl, g1⟩; have gk := g0.trans g1; obtain ⟨zk, c0, c1, c2, c3, c4⟩ := HBX.out _ g1) | (go_at_call 7; (with_reducible refine (HMY.out _).mono ?_); rintro e w2 ⟨rfl, g2⟩; have gm := gk.trans g2; have gb2 := g1.trans g2; obtain ⟨zm, e0, e1, e2, e3, e4⟩ := HBX.out _ gb2) | (go_at_call 8; (with_reducible refine (HST.out _ _).mono ?_); rintro e w3 ⟨rfl, g3⟩; have gs := gm.trans g3; have gb3 := gb2.trans g3) | fail)
    go_ret
    exact ⟨rfl, gs⟩
  go_enter Tryd.func3, Tryd.ntmps3
  go_wp2_with (first | (go_at_call 6; (with_reducible refine (HKN.out).mono ?_); rintro e w1 ⟨rfl, g1⟩; have gk := g0.trans g1; obtain ⟨zk, c0, c1, c2, c3, c4⟩ := HBX.out _ g1) | (go_at_call 7; (with_reducible refine (HMY.out _).mono ?_); rintro e w2 ⟨rfl, g2⟩; have gm := gk.trans g2; have gb2 := g1.trans g2; obtain ⟨zm, e0, e1, e2, e3, e4⟩ := HBX.out _ gb2) | (go_at_call 8; (with_reducible refine (HST.out _ _).mono ?_); rintro e w3 ⟨rfl, g3⟩; have gs := gm.trans g3; have gb3 := gb2.trans g3) | fail)
  have hbx : Box w3 w.heap.size nm l t a b := (Box.new w nm l t a b 23).gr gb3
  clear c0 c1 c2 c3 c4 e0 e1 e2 e3 e4 HKN HMY HBX zk zm
  go_loopw [9, 10, 40] (fun x y z wr => CarR t b n w nm l a w.heap.size x y z wr) (fun _ _ z _ => n - (intOf z).toNat)
  case atStart => exact ⟨v1, v2, 0, rfl, rfl, rfl, Nat.zero_le _, b1.1, by omega, b2.1, b2.2, by omega, gs, hbx⟩
  case round =>
    clear hbx h1 h2 gs gm gk g1 g2 g3 gb2 gb3
    obtain ⟨V, left, k, rfl, rfl, rfl, hk, hv0, hv1, hl0, hl1, hst, g, hB⟩ := hrel
    have HB := Lib.hid hB
    obtain ⟨i0, c0, c1, c2, c3, c4⟩ := hB
    by_cases hlt : k < n
    · have hlt1 : (k : Int) < (n : Int) := by omega
      obtain ⟨q1, q2, q3, q4, q5⟩ := kept_step t a b V left ht1 ha1.1 hb1.1 hv0 hv1 hst
      have hsd := stopD_bd t b (kps t a b V left) ht1 hb1.1
      have HAC : Hid (∀ w' (bv : Value), IsBdy w' bv ⟨2, [⟨0, 0⟩], left, 0, V⟩ → Calls Tryd.prog 9 #[.agg #[.int .i64 2, .slice none 0 0], .int .i64 k, .agg #[.string nm, .int .i64 l, .int .i64 t, .int .i64 a, .int .i64 b], bv, .int .i64 left, .bool false] w' fun e w'' => e = .returned (.agg #[.int .i64 (kps t a b V left - V), .bool false]) ∧ Gr w' w'') := fun w' bv hb => by
        have := act_any ⟨2, []⟩ _ bv ⟨2, [⟨0, 0⟩], left, 0, V⟩ nm l t a b k left false ht1 ha1 hb1 w' ⟨none, 0, rfl, ⟨none, 0, rfl, by simp, .inl rfl⟩⟩ hb
        have e : actP ⟨2, []⟩ k t a b ⟨2, [⟨0, 0⟩], left, 0, V⟩ left false = (kps t a b V left - V, false) := by
          unfold actP
          simp
          omega
        rw [e] at this
        exact this
      have HNX : Hid (∀ w', Calls Tryd.prog 10 #[.agg #[.string nm, .int .i64 l, .int .i64 t, .int .i64 a, .int .i64 b], .int .i64 V, .int .i64 (kps t a b V left - V), .bool false] w' fun e w'' => e = .returned (.int .i64 (kps t a b V left)) ∧ Gr w' w'') := fun w' => by
        have := refNext_any nm l t a b V (kps t a b V left - V) false ht1 ha1 hb1 w'
        rw [nxt_want t a b V _ hv0 hv1 q4 q5 q2 q3] at this
        exact this
      generalize kps t a b V left = K at HAC HNX q1 q2 q3 q4 q5 hsd
      go_wp2_with (first | (go_at_call 9; (with_reducible refine (HAC.out _ _ ?_).mono ?_); (exact bdy1_is (by simp; omega) (by go_simp) (by go_simp)); rintro e w4 ⟨rfl, g4⟩; have gr4 := (g.alloc _).alloc _ |>.trans g4; obtain ⟨j0, d0, d1, d2, d3, d4⟩ := HB.out.gr ((((Gr.refl _).alloc _).alloc _).trans g4)) | (go_at_call 10; (with_reducible refine (HNX.out _).mono ?_); rintro e w5 ⟨rfl, g5⟩; obtain ⟨z5, a0, a1⟩ := new2c' g5; have gr5 := (gr4.alloc _).trans g5; have HB5 := Lib.hid (HB.out.gr (((((Gr.refl _).alloc _).alloc _).trans g4).alloc _ |>.trans g5))) | fail)
      go_roundw
      case rel => exact ⟨K, left - K, k + 1, rfl, by first | rfl | exact congrArg (Value.int .i64) (by omega), by first | go_num | exact congrArg (Value.int .u8) (by omega), by omega, q4, q5, by omega, by omega, by omega, gr5, HB5.out⟩
      case measure => simp [intOf]; omega
    · obtain rfl : k = n := by omega
      go_wp2_with (first | (go_at_call 8; (with_reducible refine (HST.out _ _).mono ?_); rintro e w4 ⟨rfl, g4⟩) | fail)
      go_ret
      exact ⟨ret_bool (by first | rfl | exact decide_eq_true hst | simpa using hst), g.trans g4⟩
end Go.Proofs.YtehdpepiemfemaaDoor
