/- Mbg: the reference's MayBody: a derailed body; any body.
SeeM: Who has more signals at Clear sees no less far: plain.
OpnI: Opening slices inside other data: of integers; of structs.
OpnB: Opening a body.
OpnL: Opening a plan.
OpnS: Opening a kind of trains.
OpnV: (as Opn1, the integers alone) Opening arguments of this program's types.
Crd0: From a row's listed tables (utf8's alone) to what the contracts ask of a world: the memory's shape. -/
import Derived.Test.YtgjnlgcdpbilfaaDoorRows
import Derived.Test.YtgjnlgcdpbilfaaDoorB13
import Derived.Deep.Cut
import Derived.Deep.DrawnRows
import Derived.Test.YtgjnlgcdpbilfaaDoorB10
import Derived.Test.YtgjnlgcdpbilfaaDoorB1
import Derived.Deep.Slices
import Derived.Deep.Fields
import Derived.ChangeSame
import Derived.Test.YtgjnlgcdpbilfaaDoorB2
import Derived.Deep.Grids
import Derived.Test.YtgjnlgcdpbilfaaDoorB11
import Derived.Stop.LaidErr
import Derived.Lay
import Derived.LaidMore
import Derived.Lib.LaidU8
namespace Go.Proofs.YtgjnlgcdpbilfaaDoor
open Go.ChangeShapes Go.WideShapes Go.ChangeAt Go.RowKit Go.Maps
set_option linter.unusedVariables false
set_option linter.unusedSimpArgs false
attribute [local go_sem ↓] Go.wp_at_zero Go.wp_at_succ
set_option maxRecDepth 100000 in
set_option maxHeartbeats 8000000 in
theorem mayBody_c (pv bv : Value) (P : Pln) (B : Bdy) (len : Int) (w : World) (hP : IsPln w pv P) (hf : chk P = 0) (hB : IsBdy w bv B) (hn : B.trail.length ≤ 5000) (hmode : B.mode = 4) :
    Calls Tryd.prog 7 #[pv, .int .i64 len, bv] w (RetB (BdyOk B) w) := by
  have HPI := Lib.hid hP
  obtain ⟨a1, c1, a2, c2, a3, c3, a4, c4, rfl, -⟩ := hP
  obtain ⟨ta, tc, rfl, ht⟩ := hB
  have HT := Lib.hid ht
  have htm := IsRow.len ht
  unfold maxLen at htm
  obtain ⟨mode, T, left, over, v⟩ := B
  unfold bdyV
  dsimp only at *
  have HMD := Lib.hid hmode
  clear hmode
  have hW : Gr w ((w.alloc (.cells #[.slice a1 P.es.length c1, .slice a2 P.js.length c2, .slice a3 P.ss.length c3, .slice a4 P.ls.length c4, .int .i64 P.top, .int .i64 P.brake, .int .i64 P.margin, .int .i64 P.throw, .bool P.hard] 27)).alloc (.cells #[.int .i64 mode, .slice ta T.length tc, .int .i64 left, .int .i64 over, .int .i64 v] 31)) := ((Gr.refl _).alloc _).alloc _
  have HBX : Hid (∀ w', Gr ((w.alloc (.cells #[.slice a1 P.es.length c1, .slice a2 P.js.length c2, .slice a3 P.ss.length c3, .slice a4 P.ls.length c4, .int .i64 P.top, .int .i64 P.brake, .int .i64 P.margin, .int .i64 P.throw, .bool P.hard] 27)).alloc (.cells #[.int .i64 mode, .slice ta T.length tc, .int .i64 left, .int .i64 over, .int .i64 v] 31)) w' → Gr w w' ∧ PBox w' w.heap.size P (.slice a1 P.es.length c1) (.slice a2 P.js.length c2) (.slice a3 P.ss.length c3) (.slice a4 P.ls.length c4) ∧ w.heap.size < w'.heap.size ∧ w'.cell? ⟨w.heap.size, 0, none⟩ = some (.slice a1 P.es.length c1) ∧ w'.cell? ⟨w.heap.size, 1, none⟩ = some (.slice a2 P.js.length c2) ∧ w'.cell? ⟨w.heap.size, 2, none⟩ = some (.slice a3 P.ss.length c3) ∧ w'.cell? ⟨w.heap.size, 3, none⟩ = some (.slice a4 P.ls.length c4) ∧ w'.cell? ⟨w.heap.size, 4, none⟩ = some (.int .i64 P.top) ∧ w'.cell? ⟨w.heap.size, 5, none⟩ = some (.int .i64 P.brake) ∧ w'.cell? ⟨w.heap.size, 6, none⟩ = some (.int .i64 P.margin) ∧ w'.cell? ⟨w.heap.size, 7, none⟩ = some (.int .i64 P.throw) ∧ w'.cell? ⟨w.heap.size, 8, none⟩ = some (.bool P.hard) ∧ w.heap.size + 1 < w'.heap.size ∧ w'.cell? ⟨w.heap.size + 1, 0, none⟩ = some (.int .i64 mode) ∧ w'.cell? ⟨w.heap.size + 1, 1, none⟩ = some (.slice ta T.length tc) ∧ w'.cell? ⟨w.heap.size + 1, 2, none⟩ = some (.int .i64 left) ∧ w'.cell? ⟨w.heap.size + 1, 3, none⟩ = some (.int .i64 over) ∧ w'.cell? ⟨w.heap.size + 1, 4, none⟩ = some (.int .i64 v)) := by
    intro w' g
    have hb := (PBox.new w P (.slice a1 P.es.length c1) (.slice a2 P.js.length c2) (.slice a3 P.ss.length c3) (.slice a4 P.ls.length c4)).gr (((Gr.refl _).alloc _).trans g)
    obtain ⟨z, q0, q1, q2, q3, q4, q5, q6, q7, q8⟩ := id hb
    have hz : w.heap.size + 1 < (((w.alloc (.cells #[.slice a1 P.es.length c1, .slice a2 P.js.length c2, .slice a3 P.ss.length c3, .slice a4 P.ls.length c4, .int .i64 P.top, .int .i64 P.brake, .int .i64 P.margin, .int .i64 P.throw, .bool P.hard] 27)).alloc (.cells #[.int .i64 mode, .slice ta T.length tc, .int .i64 left, .int .i64 over, .int .i64 v] 31))).heap.size := by simp
    exact ⟨hW.trans g, hb, z, q0, q1, q2, q3, q4, q5, q6, q7, q8, Nat.lt_of_lt_of_le hz g.size, (g.cell _ _ hz).trans (by go_simp), (g.cell _ _ hz).trans (by go_simp), (g.cell _ _ hz).trans (by go_simp), (g.cell _ _ hz).trans (by go_simp), (g.cell _ _ hz).trans (by go_simp)⟩
  have HKD := Lib.hid (fun (m : Int) (w' : World) (g : Gr w w') => kindE_any _ P m w' (HPI.out.gr g))
  have HLN := Lib.hid (fun (m : Int) (w' : World) (g : Gr w w') => length_any _ P m w' (HPI.out.gr g))
  have HLB : Hid (∀ m, 0 ≤ lenP P m ∧ lenP P m ≤ 4000) := fun m => by rw [← eleAt_len]; have := fine_len hf m; omega
  have HNX := Lib.hid (fun (x : Prt) (w' : World) (g : Gr w w') => refNextP_any _ P x w' (HPI.out.gr g))
  have HCN := Lib.hid (fun (w' : World) (g : Gr w w') => chained_any _ _ P T w' (HPI.out.gr g) (HT.out.gr g) hn)
  unfold plnV at HKD HLN HNX HCN ⊢
  clear HPI ht
  by_cases l0 : len < 1
  · go_enter Tryd.func7, Tryd.ntmps7
    (go_wp2_with fail; go_ret; exact RetB.no (hW))
  by_cases l1 : 4000 < len
  · go_enter Tryd.func7, Tryd.ntmps7
    (go_wp2_with fail; go_ret; exact RetB.no (hW))
  have sw := still_ways left over v
  have n1 : (mode == 1) = false := beqF (by have := HMD.out; omega)
  have n3 : (mode == 3) = false := beqF (by have := HMD.out; omega)
  have n5 : (mode == 4) = true := beqT HMD.out
  have n6 : (mode == 2) = false := beqF (by have := HMD.out; omega)
  have hOK : mode = 2 ∨ mode = 4 → T ≠ [] → 0 ≤ left → BdyOk ⟨mode, T, left, over, v⟩ := fun h hne hl => ⟨fun _ => ⟨hne, hl⟩, fun h' => by
    dsimp only at h' ⊢
    rcases h with h | h
    · exact absurd (.inr h) h'
    · exact .inl h⟩
  have HOK := Lib.hid hOK
  clear hOK
  have m24 : mode = 2 ∨ mode = 4 := .inr HMD.out
  · have HQ := Lib.hid (HOK.out m24)
    clear HOK m24
    go_enter Tryd.func7, Tryd.ntmps7
    go_upto_region 3 with (fail)
    go_cut [7] from 20 (fun x wc => Hid (∃ b, x = .bool b) ∧ wc = ((w.alloc (.cells #[.slice a1 P.es.length c1, .slice a2 P.js.length c2, .slice a3 P.ss.length c3, .slice a4 P.ls.length c4, .int .i64 P.top, .int .i64 P.brake, .int .i64 P.margin, .int .i64 P.throw, .bool P.hard] 27)).alloc (.cells #[.int .i64 mode, .slice ta T.length tc, .int .i64 left, .int .i64 over, .int .i64 v] 31)))
    case first =>
      rcases sw with ⟨rfl, rfl, rfl⟩ | h1 | ⟨h1, h2⟩ | ⟨h1, h2, h3⟩
      all_goals
        go_wp2_with fail
        go_meet
        case rel => exact ⟨⟨_, rfl⟩, rfl⟩
    case rest =>
      clear sw
      obtain ⟨hx0, rfl⟩ := hcut
      obtain ⟨bq, rfl⟩ := hx0.out
      clear hx0
      · cases bq
        · (go_wp2_with fail; go_ret; exact RetB.no (hW))
        go_upto_region 16 with (first | (go_at_call 18; (with_reducible refine (HCN.out _ hW).mono ?_); rintro e w2 ⟨m, rfl, g2, hm⟩; rcases m with _ | _; all_goals (have gw2 := hW.trans g2; obtain ⟨-, hb2, zb2, u0, u1, u2, u3, u4, u5, u6, u7, u8, zc2, s0, s1, s2, s3, s4⟩ := HBX.out _ g2)) | fail)
        · go_wp2_with fail
          go_ret
          exact RetB.no gw2
        have hne := hm (by trivial)
        clear hm
        have hlen : 0 < T.length := List.length_pos_iff.2 hne
        have hll : T.length - 1 < T.length := by omega
        obtain ⟨bb, o, hs, z, y0, y1⟩ := HT.out.at (T.length - 1) hll
        subst hs
        have z3 := Nat.lt_of_lt_of_le z gw2.size
        have y0 := (gw2.cell _ _ z).trans y0
        have y1 := (gw2.cell _ _ z).trans y1
        generalize T[T.length - 1] = q at y0 y1
        obtain ⟨qe, qx⟩ := q
        dsimp only at y0 y1
        have j0 : (0 : Int) ≤ (T.length : Int) - 1 := by omega
        have j1 : (T.length : Int) - 1 < (T.length : Int) := by omega
        have tj : IntKind.i64.wrap ((T.length : Int) - 1) = ((T.length - 1 : Nat) : Int) := by rw [IntWalk.i64_in _ (by omega)]; omega
        have tn : ((T.length : Int) - 1).toNat = T.length - 1 := by omega
        go_upto_region 17 with (fail)
        have HLQ := Lib.hid (HLN.out qe)
        have hlb := HLB.out qe
        generalize lenP P qe = LN at HLQ hlb
        have gA : Gr w2 (w2.alloc (.cells #[.int .i64 qe, .int .i64 qx] 50)) := (Gr.refl _).alloc _
        have zl : w2.heap.size < (w2.alloc (.cells #[.int .i64 qe, .int .i64 qx] 50)).heap.size := by simp
        have q0 : (w2.alloc (.cells #[.int .i64 qe, .int .i64 qx] 50)).cell? ⟨w2.heap.size, 0, none⟩ = some (.int .i64 qe) := by rw [World.cell?_alloc_mark]; rfl
        have q1 : (w2.alloc (.cells #[.int .i64 qe, .int .i64 qx] 50)).cell? ⟨w2.heap.size, 1, none⟩ = some (.int .i64 qx) := by rw [World.cell?_alloc_mark]; rfl
        clear u0 u1 u2 u3 u4 u5 u6 u7 u8 s0 s1 s2 s3 s4 y0 y1 zb2 zc2
        generalize w2.alloc (.cells #[.int .i64 qe, .int .i64 qx] 50) = wr at *
        have gwr := gw2.trans gA
        have gWr := g2.trans gA
        obtain ⟨-, -, zb2, u0, u1, u2, u3, u4, u5, u6, u7, u8, zc2, s0, s1, s2, s3, s4⟩ := HBX.out _ gWr
        have hcb := fun (i : GrW wr) (o : Nat) => GrW.cell zb2 i o
        have hcc := fun (i : GrW wr) (o : Nat) => GrW.cell zc2 i o
        have hcl := fun (i : GrW wr) (o : Nat) => GrW.cell zl i o
        by_cases e1 : left < 0
        · ((refine wp_region_gr (by kernel_rfl) (by kernel_rfl) ?_; (repeat (go_big_quiet_step ((go_at_call 19; exact Calls.gr_of (HLQ.out _ (gwr.trans (GrW.gr _))))))); refine wpQuiet_nil ?_; intro wz hz; obtain ⟨iz, hz⟩ := hz; obtain ⟨wn, gn⟩ := iz; dsimp only at hz; obtain rfl := hz.symm); go_wp2_with fail; go_ret; exact RetB.no (gwr.trans gn))
        have tc1 : ¬ left < 0 := e1
        by_cases e2 : LN ≤ left
        · ((refine wp_region_gr (by kernel_rfl) (by kernel_rfl) ?_; (repeat (go_big_quiet_step ((go_at_call 19; exact Calls.gr_of (HLQ.out _ (gwr.trans (GrW.gr _))))))); refine wpQuiet_nil ?_; intro wz hz; obtain ⟨iz, hz⟩ := hz; obtain ⟨wn, gn⟩ := iz; dsimp only at hz; obtain rfl := hz.symm); go_wp2_with fail; go_ret; exact RetB.no (gwr.trans gn))
        have tc2 : ¬ LN ≤ left := e2
        by_cases e3 : v < 0
        · ((refine wp_region_gr (by kernel_rfl) (by kernel_rfl) ?_; (repeat (go_big_quiet_step ((go_at_call 19; exact Calls.gr_of (HLQ.out _ (gwr.trans (GrW.gr _))))))); refine wpQuiet_nil ?_; intro wz hz; obtain ⟨iz, hz⟩ := hz; obtain ⟨wn, gn⟩ := iz; dsimp only at hz; obtain rfl := hz.symm); go_wp2_with fail; go_ret; exact RetB.no (gwr.trans gn))
        have tc3 : ¬ v < 0 := e3
        by_cases e4 : 60 < v
        · ((refine wp_region_gr (by kernel_rfl) (by kernel_rfl) ?_; (repeat (go_big_quiet_step ((go_at_call 19; exact Calls.gr_of (HLQ.out _ (gwr.trans (GrW.gr _))))))); refine wpQuiet_nil ?_; intro wz hz; obtain ⟨iz, hz⟩ := hz; obtain ⟨wn, gn⟩ := iz; dsimp only at hz; obtain rfl := hz.symm); go_wp2_with fail; go_ret; exact RetB.no (gwr.trans gn))
        have tc4 : ¬ 60 < v := e4
        by_cases e5 : over < 0
        · ((refine wp_region_gr (by kernel_rfl) (by kernel_rfl) ?_; (repeat (go_big_quiet_step ((go_at_call 19; exact Calls.gr_of (HLQ.out _ (gwr.trans (GrW.gr _))))))); refine wpQuiet_nil ?_; intro wz hz; obtain ⟨iz, hz⟩ := hz; obtain ⟨wn, gn⟩ := iz; dsimp only at hz; obtain rfl := hz.symm); go_wp2_with fail; go_ret; exact RetB.no (gwr.trans gn))
        have tc5 : ¬ over < 0 := e5
        by_cases e6 : len ≤ over
        · ((refine wp_region_gr (by kernel_rfl) (by kernel_rfl) ?_; (repeat (go_big_quiet_step ((go_at_call 19; exact Calls.gr_of (HLQ.out _ (gwr.trans (GrW.gr _))))))); refine wpQuiet_nil ?_; intro wz hz; obtain ⟨iz, hz⟩ := hz; obtain ⟨wn, gn⟩ := iz; dsimp only at hz; obtain rfl := hz.symm); go_wp2_with fail; go_ret; exact RetB.no (gwr.trans gn))
        have tc6 : ¬ len ≤ over := e6
        (refine wp_region_gr (by kernel_rfl) (by kernel_rfl) ?_; (repeat (go_big_quiet_step ((go_at_call 19; exact Calls.gr_of (HLQ.out _ (gwr.trans (GrW.gr _))))))); refine wpQuiet_nil ?_; intro wz hz; obtain ⟨iz, hz⟩ := hz; obtain ⟨wn, gn⟩ := iz; dsimp only at hz; obtain rfl := hz.symm)
        obtain ⟨-, -, zb3, u0, u1, u2, u3, u4, u5, u6, u7, u8, zc3, s0, s1, s2, s3, s4⟩ := HBX.out _ (gWr.trans gn)
        have q0 := (gn.cell _ _ zl).trans q0
        have q1 := (gn.cell _ _ zl).trans q1
        have gwn := gwr.trans gn
        have gWn := gWr.trans gn
        obtain ⟨ye, yx, ok, hR⟩ := prtR_form (nextL P.js ⟨qe, qx⟩)
        have HNQ : Hid (∀ w', Gr w w' → Calls Tryd.prog 20 #[(.agg #[.slice a1 P.es.length c1, .slice a2 P.js.length c2, .slice a3 P.ss.length c3, .slice a4 P.ls.length c4, .int .i64 P.top, .int .i64 P.brake, .int .i64 P.margin, .int .i64 P.throw, .bool P.hard]), .agg #[.int .i64 qe, .int .i64 qx]] w' fun e w'' => e = .returned (.tuple #[.agg #[.int .i64 ye, .int .i64 yx], .bool ok]) ∧ Gr w' w'') := fun w' g => by have := HNX.out ⟨qe, qx⟩ w' g; rw [hR] at this; exact this
        clear hR hcb hcc hcl
        have HKY := Lib.hid (HKD.out ye)
        generalize kindP P ye = KY at HKY
        go_upto_region 20 with (first | (go_at_call 20; (with_reducible refine (HNQ.out _ gwn).mono ?_); rintro e w4 ⟨rfl, g4⟩) | fail)
        have hY : Gr w4 (w4.alloc (.cells #[.int .i64 ye, .int .i64 yx] 50)) := (Gr.refl _).alloc _
        have zy : w4.heap.size < (w4.alloc (.cells #[.int .i64 ye, .int .i64 yx] 50)).heap.size := by simp
        have v0 : (w4.alloc (.cells #[.int .i64 ye, .int .i64 yx] 50)).cell? ⟨w4.heap.size, 0, none⟩ = some (.int .i64 ye) := by rw [World.cell?_alloc_mark]; rfl
        clear u0 u1 u2 u3 u4 u5 u6 u7 u8 s0 s1 s2 s3 s4 q0 q1
        generalize w4.alloc (.cells #[.int .i64 ye, .int .i64 yx] 50) = w5 at *
        have gw5 := (gwn.trans g4).trans hY
        have gW5 := (gWn.trans g4).trans hY
        obtain ⟨-, -, zb5, u0, u1, u2, u3, u4, u5, u6, u7, u8, zc5, s0, s1, s2, s3, s4⟩ := HBX.out _ gW5
        have S5 := Lib.hid (And.intro s1 (And.intro s2 s3))
        go_cut [147] from 129 (fun x wc => Hid (∃ b, x = .bool b) ∧ Gr w5 wc)
        case first =>
          by_cases d1 : 0 < over
          · by_cases d2 : 0 < left
            · go_wp2_with fail
              go_meet
              case rel => exact ⟨⟨_, rfl⟩, Gr.refl _⟩
            · cases ok
              · go_wp2_with fail
                go_meet
                case rel => exact ⟨⟨_, rfl⟩, Gr.refl _⟩
              · go_wp2_with (first | (go_at_call 17; (with_reducible refine (HKY.out _ gw5).mono ?_); rintro e w6 ⟨rfl, g6⟩) | fail)
                go_meet
                case rel => exact ⟨⟨_, rfl⟩, g6⟩
          · go_wp2_with fail
            go_meet
            case rel => exact ⟨⟨_, rfl⟩, Gr.refl _⟩
        case rest =>
          obtain ⟨hx0, g6⟩ := hcut
          obtain ⟨b6, rfl⟩ := hx0.out
          clear hx0 u0 u1 u2 u3 u4 u5 u6 u7 u8 s0 s1 s2 s3 s4 v0
          obtain ⟨-, -, zb6, -, -, -, -, -, -, -, -, -, zc6, -, s1, -, s3, -⟩ := HBX.out _ (gW5.trans g6)
          have gw6 := gw5.trans g6
          have gW6 := gW5.trans g6
          cases b6
          rotate_left
          · go_wp2_with fail
            go_ret
            exact RetB.no gw6
          have two : IntKind.i64.wrap (len - over) = len - over := IntWalk.i64_in _ (by omega)
          go_wp2_with fail
          clear s1 s3
          go_loopw [11, 12] (fun x y w7 => ∃ (r : Int) (k : Nat), x = .int .i64 r ∧ y = .int .i64 ((k : Int) - 1) ∧ k ≤ T.length ∧ -(4000 * ((T.length : Int) - k)) ≤ r ∧ r ≤ 4000 + 4000 * ((T.length : Int) - k) ∧ Gr wc w7) (fun _ y _ => (intOf y + 1).toNat)
          case atStart => exact ⟨_, T.length, rfl, congrArg (Value.int .i64) (by omega), Nat.le_refl _, by omega, by omega, Gr.refl _⟩
          case round =>
            clear j0 j1 tj tn two
            obtain ⟨r, k, rfl, rfl, hk, hr0, hr1, g7⟩ := hrel
            have gw7 := gw6.trans g7
            have gW7 := gW6.trans g7
            by_cases hk0 : 0 < k
            · have j0 : (0 : Int) ≤ (k : Int) - 1 := by omega
              have j1 : (k : Int) - 1 < (T.length : Int) := by omega
              have tn : ((k : Int) - 1).toNat = k - 1 := by omega
              obtain ⟨b2, o2, hs2, z2, x0, -⟩ := (HT.out.gr gw7).at (k - 1) (by omega)
              simp only [Option.some.injEq, Addr.mk.injEq, and_true] at hs2
              obtain ⟨rfl, rfl⟩ := hs2
              obtain ⟨b3, o3, hs3, z3', x00, -⟩ := (HT.out.gr gw7).at 0 (by omega)
              simp only [Option.some.injEq, Addr.mk.injEq, and_true] at hs3
              obtain ⟨rfl, rfl⟩ := hs3
              rw [Nat.zero_mul, Nat.add_zero] at x00
              have HLK := Lib.hid (HLN.out T[k - 1].e)
              have hlk := HLB.out T[k - 1].e
              have HK0 := Lib.hid (HKD.out (T[0]'(by omega)).e)
              generalize lenP P T[k - 1].e = LK at HLK hlk
              generalize kindP P (T[0]'(by omega)).e = KK at HK0
              generalize T[k - 1].e = te at x0 HLK
              generalize (T[0]'(by omega)).e = t0e at x00 HK0
              obtain ⟨-, -, zb7, u0, u1, u2, u3, u4, u5, u6, u7, u8, zc7, s0, s1, s2, s3, s4⟩ := HBX.out _ gW7
              have hcb := fun (i : GrW _) (o : Nat) => GrW.cell zb7 i o
              have hcc := fun (i : GrW _) (o : Nat) => GrW.cell zc7 i o
              have hct := fun (i : GrW _) (o : Nat) => GrW.cell z2 i o
              go_wp2_with fail
              (refine wp_region_gr (by kernel_rfl) (by kernel_rfl) ?_; (repeat (go_big_quiet_step ((go_at_call 19; exact Calls.gr_of (HLK.out _ (gw7.trans (GrW.gr _))))))); refine wpQuiet_nil ?_; intro wz hz; obtain ⟨iz, hz⟩ := hz; obtain ⟨wn, gn⟩ := iz; dsimp only at hz; obtain rfl := hz.symm)
              obtain ⟨-, -, zb8, u0, u1, u2, u3, u4, u5, u6, u7, u8, zc8, s0, s1, s2, s3, s4⟩ := HBX.out _ (gW7.trans gn)
              have gw8 := gw7.trans gn
              have gl8 := g7.trans gn
              have x00 := (gn.cell _ _ z2).trans x00
              have z8 := Nat.lt_of_lt_of_le z2 gn.size
              have tT : IntKind.i64.wrap ((T.length : Int) - 1) = (T.length : Int) - 1 := IntWalk.i64_in _ (by omega)
              have tr : IntKind.i64.wrap (LK - left) = LK - left := IntWalk.i64_in _ (by omega)
              have tk2 : IntKind.i64.wrap ((k : Int) - 1 - 1) = (k : Int) - 1 - 1 := IntWalk.i64_in _ (by omega)
              clear hcb hcc hct x0 zb7 zc7
              by_cases kT : k = T.length
              · have tk : ((k : Int) - 1 == (T.length : Int) - 1) = true := beqT (by omega)
                clear kT
                by_cases k1 : k = 1
                · have tk1 : ((k : Int) - 1 == 0) = true := beqT (by omega)
                  clear k1
                  have tz : (0 : Int) < (T.length : Int) := (by omega)
                  go_upto_region 30 with (fail)
                  have hcb := fun (i : GrW _) (o : Nat) => GrW.cell zb8 i o
                  have hcc := fun (i : GrW _) (o : Nat) => GrW.cell zc8 i o
                  have hct := fun (i : GrW _) (o : Nat) => GrW.cell z8 i o
                  by_cases r1 : 1 ≤ r
                  · by_cases r2 : r ≤ (LK - left)
                    · (refine wp_region_gr (by kernel_rfl) (by kernel_rfl) ?_; (repeat (go_big_quiet_step (fail))); refine wpQuiet_nil ?_; intro wz hz; obtain ⟨iz, hz⟩ := hz; obtain ⟨wn, gn⟩ := iz; dsimp only at hz; obtain rfl := hz.symm)
                      (go_wp2_with fail; go_ret; exact RetB.any (fun _ => HQ.out hne (by omega)) (gw8.trans gn))
                    · have tr2 : ¬ r ≤ (LK - left) := r2
                      (refine wp_region_gr (by kernel_rfl) (by kernel_rfl) ?_; (repeat (go_big_quiet_step ((go_at_call 17; exact Calls.gr_of (HK0.out _ (gw8.trans (GrW.gr _))))))); refine wpQuiet_nil ?_; intro wz hz; obtain ⟨iz, hz⟩ := hz; obtain ⟨wn, gn⟩ := iz; dsimp only at hz; obtain rfl := hz.symm)
                      (go_wp2_with fail; go_ret; exact RetB.any (fun _ => HQ.out hne (by omega)) (gw8.trans gn))
                  · have tr1 : ¬ 1 ≤ r := r1
                    (refine wp_region_gr (by kernel_rfl) (by kernel_rfl) ?_; (repeat (go_big_quiet_step (fail))); refine wpQuiet_nil ?_; intro wz hz; obtain ⟨iz, hz⟩ := hz; obtain ⟨wn, gn⟩ := iz; dsimp only at hz; obtain rfl := hz.symm)
                    (go_wp2_with fail; go_ret; exact RetB.any (fun _ => HQ.out hne (by omega)) (gw8.trans gn))
                · have tk1 : ((k : Int) - 1 == 0) = false := beqF (by omega)
                  clear k1
                  have tw : IntKind.i64.wrap (r - (LK - left)) = r - (LK - left) := IntWalk.i64_in _ (by omega)
                  go_wp2_with fail
                  go_roundw
                  case rel => exact ⟨_, k - 1, rfl, congrArg (Value.int .i64) (by omega), by omega, by omega, by omega, gl8⟩
                  case measure => simp [intOf]; omega
              · have tk : ((k : Int) - 1 == (T.length : Int) - 1) = false := beqF (by omega)
                clear kT
                by_cases k1 : k = 1
                · have tk1 : ((k : Int) - 1 == 0) = true := beqT (by omega)
                  clear k1
                  have tz : (0 : Int) < (T.length : Int) := (by omega)
                  go_upto_region 30 with (fail)
                  have hcb := fun (i : GrW _) (o : Nat) => GrW.cell zb8 i o
                  have hcc := fun (i : GrW _) (o : Nat) => GrW.cell zc8 i o
                  have hct := fun (i : GrW _) (o : Nat) => GrW.cell z8 i o
                  by_cases r1 : 1 ≤ r
                  · by_cases r2 : r ≤ LK
                    · (refine wp_region_gr (by kernel_rfl) (by kernel_rfl) ?_; (repeat (go_big_quiet_step (fail))); refine wpQuiet_nil ?_; intro wz hz; obtain ⟨iz, hz⟩ := hz; obtain ⟨wn, gn⟩ := iz; dsimp only at hz; obtain rfl := hz.symm)
                      (go_wp2_with fail; go_ret; exact RetB.any (fun _ => HQ.out hne (by omega)) (gw8.trans gn))
                    · have tr2 : ¬ r ≤ LK := r2
                      (refine wp_region_gr (by kernel_rfl) (by kernel_rfl) ?_; (repeat (go_big_quiet_step ((go_at_call 17; exact Calls.gr_of (HK0.out _ (gw8.trans (GrW.gr _))))))); refine wpQuiet_nil ?_; intro wz hz; obtain ⟨iz, hz⟩ := hz; obtain ⟨wn, gn⟩ := iz; dsimp only at hz; obtain rfl := hz.symm)
                      (go_wp2_with fail; go_ret; exact RetB.any (fun _ => HQ.out hne (by omega)) (gw8.trans gn))
                  · have tr1 : ¬ 1 ≤ r := r1
                    (refine wp_region_gr (by kernel_rfl) (by kernel_rfl) ?_; (repeat (go_big_quiet_step (fail))); refine wpQuiet_nil ?_; intro wz hz; obtain ⟨iz, hz⟩ := hz; obtain ⟨wn, gn⟩ := iz; dsimp only at hz; obtain rfl := hz.symm)
                    (go_wp2_with fail; go_ret; exact RetB.any (fun _ => HQ.out hne (by omega)) (gw8.trans gn))
                · have tk1 : ((k : Int) - 1 == 0) = false := beqF (by omega)
                  clear k1
                  have tw : IntKind.i64.wrap (r - LK) = r - LK := IntWalk.i64_in _ (by omega)
                  go_wp2_with fail
                  go_roundw
                  case rel => exact ⟨_, k - 1, rfl, congrArg (Value.int .i64) (by omega), by omega, by omega, by omega, gl8⟩
                  case measure => simp [intOf]; omega
            · have j0 : ¬ (0 : Int) ≤ (k : Int) - 1 := by omega
              go_wp2_with fail
              go_ret
              exact RetB.no gw7
theorem mayBody_any (pv bv : Value) (P : Pln) (B : Bdy) (len : Int) (w : World) (hP : IsPln w pv P) (hf : chk P = 0) (hB : IsBdy w bv B) (hn : B.trail.length ≤ 5000) :
    Calls Tryd.prog 7 #[pv, .int .i64 len, bv] w (RetB (BdyOk B) w) := by
  by_cases h2 : B.mode = 2
  · exact mayBody_b pv bv P B len w hP hf hB hn h2
  by_cases h4 : B.mode = 4
  · exact mayBody_c pv bv P B len w hP hf hB hn h4
  exact mayBody_a pv bv P B len w hP hf hB hn (fun h => h.elim h2 h4)
end Go.Proofs.YtgjnlgcdpbilfaaDoor
namespace Go.Proofs.YtgjnlgcdpbilfaaDoor
open Go.ChangeShapes Go.WideShapes Go.ChangeAt Go.RowKit Go.Maps
set_option linter.unusedVariables false
theorem seesL_low (P : Pln) (pos L : List Int) : ∀ (n : Nat) (h : Prt) (left : Int), min left 4000 ≤ seesL P pos L n h left
  | 0, _, left => by show min left 4000 ≤ 4000; omega
  | n + 1, h, left => by
    unfold seesL
    split
    · omega
    split
    · omega
    split
    · have := seesL_low P pos L n (stepP P pos h).1 (left + max (eleAt P (stepP P pos h).1.e).l 1)
      omega
    split <;> omega
theorem seesL_high (P : Pln) (pos L : List Int) : ∀ (n : Nat) (h : Prt) (left : Int), seesL P pos L n h left ≤ 4000
  | 0, _, left => by show (4000 : Int) ≤ 4000; omega
  | n + 1, h, left => by
    unfold seesL
    split
    · omega
    split
    · omega
    split
    · exact seesL_high P pos L n _ _
    split <;> omega
theorem stopsB_mono {P : Pln} {L M : List Int} (hm : ∀ i, passP L i = true → passP M i = true) (h : Prt) (hs : stopsB P M h = true) : stopsB P L h = true := by
  unfold stopsB at hs ⊢
  cases hr : readsL P.ss h with
  | none => rw [hr] at hs; exact absurd hs (by simp)
  | some i =>
    rw [hr] at hs
    dsimp only at hs ⊢
    cases hp : passP L i
    · rfl
    · rw [hm i hp] at hs; exact absurd hs (by simp)
theorem seesL_mono {P : Pln} (pos : List Int) {L M : List Int} (hm : ∀ i, passP L i = true → passP M i = true) : ∀ (n : Nat) (h : Prt) (left : Int), seesL P pos L n h left ≤ seesL P pos M n h left
  | 0, _, left => Int.le_refl _
  | n + 1, h, left => by
    by_cases hl : 4000 ≤ left
    · rw [seesL_far P pos L _ h left hl, seesL_far P pos M _ h left hl]; exact Int.le_refl _
    have hlow := seesL_low P pos M (n + 1) h left
    rw [seesL_succ P pos L n h left (by omega)]
    cases hs : stopsB P L h
    · have hs2 : stopsB P M h = false := by
        cases hq : stopsB P M h
        · rfl
        · rw [stopsB_mono hm h hq] at hs; cases hs
      rw [seesL_succ P pos M n h left (by omega), hs2]
      simp only [Bool.false_eq_true, if_false]
      split
      · exact seesL_mono pos hm n _ _
      split <;> exact Int.le_refl _
    · rw [if_pos rfl]; omega
theorem seesP_mono {P : Pln} (pos : List Int) {L M : List Int} (B : Bdy) (hm : ∀ i, passP L i = true → passP M i = true) : seesP P pos L B ≤ seesP P pos M B ∧ 0 ≤ seesP P pos L B ∧ seesP P pos M B ≤ 4000 ∧ (B.mode = 2 → B.trail ≠ [] → 0 ≤ B.left → min B.left 4000 ≤ seesP P pos L B) := by
  unfold seesP
  cases hq : B.trail.getLast? with
  | none =>
    refine ⟨Int.le_refl _, Int.le_refl _, by dsimp only; omega, fun _ hne => ?_⟩
    exact absurd (List.getLast?_eq_none_iff.1 hq) hne
  | some h =>
    dsimp only
    by_cases h4 : B.mode = 4
    · rw [if_pos h4, if_pos h4]
      exact ⟨Int.le_refl _, Int.le_refl _, by decide, fun h => by omega⟩
    rw [if_neg h4, if_neg h4]
    by_cases ho : 0 < B.over
    · rw [if_pos ho, if_pos ho]
      exact ⟨Int.le_refl _, by decide, by decide, fun _ _ _ => by omega⟩
    rw [if_neg ho, if_neg ho]
    have h1 := seesL_low P pos L 4000 h (max B.left 0)
    have h2 := seesL_high P pos M 4000 h (max B.left 0)
    have h3 := seesL_mono (P := P) pos hm 4000 h (max B.left 0)
    exact ⟨h3, by omega, h2, fun _ _ h => by omega⟩
theorem passP_set (L : List Int) (k : Nat) (i : Nat) (h : passP L i = true) : passP (L.set k 2) i = true := by
  unfold passP at h ⊢
  split at h
  · rename_i hi
    rw [dif_pos (by simpa using hi), List.getElem_set]
    split
    · simp
    · exact h
  · cases h
end Go.Proofs.YtgjnlgcdpbilfaaDoor
namespace Go.Proofs.YtgjnlgcdpbilfaaDoor
open Go.Joins Go.ChangeShapes Go.WideShapes Go.RowKit Go.Deep
set_option linter.unusedVariables false
set_option linter.unusedSimpArgs false
section
variable {H : Type} {enc : TypeId × Value → H} {W : World} {base n : Nat} {sp : Nat → Bool} {held : Bool} {v : Value} {y : DataW H × List MemPlace}
theorem trod_ints (h : DataW.trod enc Tryd.prog W base sp held n 28 [v] = some y) :
    ∃ zs : List Int, IsVals W v (zs.map (Value.int .i64)) ∧ ∀ x ∈ zs, (Lit.int .i64 x).wf = true := by
  rcases open_ints Tryd.underlying28 Tryd.underlying3 (by kernel_rfl) h with ⟨hcs, _⟩ | ⟨x, l, c, zs, hcs, _, hl, hm, hz, _, hcell, hwz⟩
  · simp only [List.cons.injEq, and_true] at hcs
    subst hcs
    exact ⟨[], ⟨none, 0, rfl, by simp, .inl rfl⟩, by simp⟩
  · simp only [List.cons.injEq, and_true] at hcs
    subst hcs
    have hzl : l ≤ zs.length := by rw [hz]; split <;> omega
    have hlen : ((zs.take l).map (Value.int .i64)).length = l := by simp; omega
    refine ⟨zs.take l, ⟨some x, c, by rw [hlen], by rw [hlen]; omega, vals_of fun i y hy => ?_⟩, fun n hn => hwz n (List.mem_of_mem_take hn)⟩
    have hi : i < l := by
      have := (List.getElem?_eq_some_iff.1 hy).1
      omega
    rw [hcell i (by omega)]
    simp only [List.getElem?_map, List.getElem?_take, if_pos hi] at hy
    rw [List.getElem?_eq_getElem (by omega)] at hy
    simp only [Option.map_some, Option.some.injEq] at hy
    rw [← hy, List.getD_eq_getElem?_getD, List.getElem?_eq_getElem (by omega)]
    rfl
theorem trod_rows {t e : TypeId} {sz : Nat} (ht : Tryd.prog.underlying t = some (.slice e)) (hC : Tryd.prog.cellsOf e = sz) (hs : 0 < sz) (h : DataW.trod enc Tryd.prog W base sp held n t [v] = some y) :
    ∃ a l c, v = .slice a l c ∧ l ≤ maxLen ∧ (l = 0 ∨ ∃ b o, a = some ⟨b, o, none⟩ ∧ b < W.heap.size ∧ ∀ i, i < l → ∃ (cs : List Value) (m : Nat) (z : DataW H × List MemPlace), cs.length = sz ∧ (∀ j u, cs[j]? = some u → W.cell? ⟨b, o + i * sz + j, none⟩ = some u) ∧ DataW.trod enc Tryd.prog W base sp held m e cs = some z) := by
  rcases open_slice ht h with ⟨hcs, _⟩ | ⟨a, len, cap, m, k, D, Pl, hcs, hb, hl, hm, hmm, hx, hi⟩
  · simp only [List.cons.injEq, and_true] at hcs
    subst hcs
    exact ⟨none, 0, 0, rfl, by simp, .inl rfl⟩
  · simp only [List.cons.injEq, and_true] at hcs
    subst hcs
    refine ⟨some a, len, cap, rfl, by omega, ?_⟩
    rcases Nat.eq_zero_or_pos len with h0 | h0
    · exact .inl h0
    · right
      have hmle : len ≤ m := by rw [hmm]; split <;> omega
      have key : ∀ i, i < len → ∃ (cs : List Value) (z : DataW H × List MemPlace), cs.length = sz ∧ (∀ j u, cs[j]? = some u → W.cell? (a.add (i * sz + j)) = some u) ∧ DataW.trod enc Tryd.prog W base sp held k e cs = some z := by
        intro i hil
        obtain ⟨cs', hc, ht'⟩ := hi i (by omega)
        rw [hC] at hc
        obtain ⟨_, hcl, hat⟩ := World.cells?_some hc
        refine ⟨cs', _, by omega, fun j u hj => ?_, ht'⟩
        have hjl : j < cs'.length := (List.getElem?_eq_some_iff.1 hj).1
        rw [← Go.Deep.add_add, hat j (by omega), hj]
      obtain ⟨cs0, -, hl0, h00, -⟩ := key 0 h0
      have hc0 : W.cell? (a.add (0 * sz + 0)) = some (cs0[0]'(by omega)) := h00 0 _ (List.getElem?_eq_getElem (by omega))
      obtain ⟨b, off, spot⟩ := a
      have hc0' : W.cell? (⟨b, off, spot⟩ : Addr) = some (cs0[0]'(by omega)) := by simpa [Addr.add] using hc0
      have hspot : spot = none := by simpa using World.cell?_spot hc0'
      subst hspot
      have hp : ∀ j, (⟨b, off, none⟩ : Addr).add j = ⟨b, off + j, none⟩ := fun j => Go.WideShapes.add_plain _ _ _
      refine ⟨b, off, rfl, cell_lt hc0', fun i hil => ?_⟩
      obtain ⟨cs, z, h1, h2, h3⟩ := key i hil
      exact ⟨cs, k, z, h1, fun j u hj => by have := h2 j u hj; rw [hp] at this; rw [show off + i * sz + j = off + (i * sz + j) from by omega]; exact this, h3⟩
end
end Go.Proofs.YtgjnlgcdpbilfaaDoor
namespace Go.Proofs.YtgjnlgcdpbilfaaDoor
open Go.Joins Go.ChangeShapes Go.WideShapes Go.RowKit Go.Deep
set_option linter.unusedVariables false
set_option linter.unusedSimpArgs false
theorem cellsBody : Tryd.prog.cellsOf 31 = 5 := by kernel_rfl
theorem list_of {α : Type} {n : Nat} {Q : Nat → α → Prop} (h : ∀ i, i < n → ∃ x, Q i x) : ∃ L : List α, L.length = n ∧ ∀ i (hi : i < L.length), Q i L[i] := by
  induction n with
  | zero => exact ⟨[], rfl, fun i hi => absurd hi (by simp)⟩
  | succ n ih =>
    obtain ⟨L, hl, hL⟩ := ih fun i hi => h i (by omega)
    obtain ⟨x, hx⟩ := h n (by omega)
    refine ⟨L ++ [x], by simp [hl], fun i hi => ?_⟩
    by_cases e : i < L.length
    · rw [List.getElem_append_left e]; exact hL i e
    · have : i = n := by simp at hi; omega
      subst this
      rw [List.getElem_append_right (by omega)]
      simp [hl]
      exact hx
section
variable {H : Type} {enc : TypeId × Value → H} {W : World} {base n : Nat} {sp : Nat → Bool} {held : Bool} {v : Value} {y : DataW H × List MemPlace}

set_option maxRecDepth 100000 in
theorem trod_prt {cs : List Value} (h : DataW.trod enc Tryd.prog W base sp held n 50 cs = some y) : ∃ x : Prt, cs = x.cs ∧ PrtOk x := by
  obtain ⟨xs, m, _, _, hc, hx, hg⟩ := DataW.trod_struct Tryd.underlying50 h
  have hl : cs.length = 2 := hc.trans (by kernel_rfl)
  have h0 := hg 0 _ rfl
  have h1 := hg 1 _ rfl
  have hxl : xs.length = 2 := hx
  match cs, hl, xs, hxl with
  | [c0, c1], _, [y0, y1], _ =>
    obtain ⟨a, e0, -, wa⟩ := DataW.trod_int (x := y0) Tryd.underlying3 (by simpa [int_cells] using h0)
    obtain ⟨b, e1, -, wb⟩ := DataW.trod_int (x := y1) Tryd.underlying3 (by simpa [int_cells] using h1)
    simp only [List.cons.injEq, and_true] at e0 e1
    subst e0 e1
    exact ⟨⟨a, b⟩, rfl, wa, wb⟩
set_option maxRecDepth 100000 in
theorem trod_prts (h : DataW.trod enc Tryd.prog W base sp held n 29 [v] = some y) : ∃ l : List Prt, IsPrts W v l ∧ ∀ x ∈ l, PrtOk x := by
  obtain ⟨a, l, c, rfl, hm, hx⟩ := trod_rows (sz := 2) Tryd.underlying29 prt_cells (by omega) h
  rcases hx with rfl | ⟨b, o, rfl, hb, hi⟩
  · exact ⟨[], ⟨a, c, rfl, hm, .inl rfl⟩, by simp⟩
  · have key : ∀ i, i < l → ∃ x : Prt, (∀ j, j < 2 → W.cell? ⟨b, o + i * 2 + j, none⟩ = some (x.c j)) ∧ PrtOk x := by
      intro i hil
      obtain ⟨cs, m, z, hl, hc, ht⟩ := hi i hil
      obtain ⟨x, rfl, hok⟩ := trod_prt ht
      refine ⟨x, fun j hj => ?_, hok⟩
      match j, hj with
      | 0, _ => exact hc 0 _ rfl
      | 1, _ => exact hc 1 _ rfl
    obtain ⟨L, hL, hP⟩ := list_of key
    refine ⟨L, ⟨some ⟨b, o, none⟩, c, by rw [hL], by rw [hL]; exact hm, .inr ⟨b, o, rfl, hb, fun i j hi hj => ?_⟩⟩, fun x hx => ?_⟩
    · show _ = some ((L.getD i default).c j)
      rw [getD_at _ _ hi]
      exact (hP i hi).1 j hj
    · obtain ⟨i, hi, rfl⟩ := List.getElem_of_mem hx
      exact (hP i hi).2
end
set_option maxRecDepth 100000 in
theorem open_bdy {H : Type} {enc : TypeId × Value → H} {W : World} {r : Reach} {b0 base : Nat} {sp : Nat → Bool} {held : Bool} {v : Value} {d : DataW H} {p : List MemPlace}
    (hv : Value.okWide Tryd.prog W r b0 31 v) (h : DataW.Trod enc Tryd.prog W base sp held 31 v d p) (_lt : ∀ x ∈ p, x.block < W.heap.size) :
    ∃ B : Bdy, IsBdy W v B ∧ (∀ x ∈ B.trail, PrtOk x) ∧ I64 B.mode ∧ I64 B.left ∧ I64 B.over ∧ I64 B.v := by
  obtain ⟨v0, v1, v2, v3, v4, y0, y1, y2, y3, y4, n, rfl, -, -, h0, h1, h2, h3, h4⟩ := open_agg5 Tryd.underlying31 (by kernel_rfl) cellsBody hv h
  obtain ⟨m, e0, -, w0⟩ := DataW.trod_int Tryd.underlying3 h0
  obtain ⟨l, e2, -, w2⟩ := DataW.trod_int Tryd.underlying3 h2
  obtain ⟨o, e3, -, w3⟩ := DataW.trod_int Tryd.underlying3 h3
  obtain ⟨s, e4, -, w4⟩ := DataW.trod_int Tryd.underlying3 h4
  obtain ⟨T, hT, hok⟩ := trod_prts h1
  simp only [List.cons.injEq, and_true] at e0 e2 e3 e4
  subst e0 e2 e3 e4
  obtain ⟨a, c, rfl, -⟩ := id hT
  exact ⟨⟨m, T, l, o, s⟩, ⟨a, c, rfl, hT⟩, hok, w0, w2, w3, w4⟩
end Go.Proofs.YtgjnlgcdpbilfaaDoor
namespace Go.Proofs.YtgjnlgcdpbilfaaDoor
open Go.Joins Go.ChangeShapes Go.WideShapes Go.RowKit Go.Deep
set_option linter.unusedVariables false
set_option linter.unusedSimpArgs false
theorem cellsPlan : Tryd.prog.cellsOf 27 = 9 := by kernel_rfl
theorem cellsElem : Tryd.prog.cellsOf 72 = 3 := by kernel_rfl
theorem cellsJoin : Tryd.prog.cellsOf 74 = 4 := by kernel_rfl
theorem cellsSignal : Tryd.prog.cellsOf 77 = 4 := by kernel_rfl
theorem cellsLine : Tryd.prog.cellsOf 85 = 2 := by kernel_rfl
theorem cells1 : Tryd.prog.cellsOf 3 = 1 ∧ Tryd.prog.cellsOf 9 = 1 ∧ Tryd.prog.cellsOf 4 = 1 ∧ Tryd.prog.cellsOf 28 = 1 ∧ Tryd.prog.cellsOf 22 = 1 ∧ Tryd.prog.cellsOf 23 = 1 ∧ Tryd.prog.cellsOf 24 = 1 ∧ Tryd.prog.cellsOf 25 = 1 := by
  refine ⟨?_, ?_, ?_, ?_, ?_, ?_, ?_, ?_⟩ <;> kernel_rfl
section
variable {H : Type} {enc : TypeId × Value → H} {W : World} {base n : Nat} {sp : Nat → Bool} {held : Bool} {v : Value} {y : DataW H × List MemPlace}
set_option maxRecDepth 100000 in
theorem trod_ele {cs : List Value} (h : DataW.trod enc Tryd.prog W base sp held n 72 cs = some y) : ∃ e : Ele, cs = [.string e.n, .int .i64 e.k, .int .i64 e.l] ∧ I64 e.k ∧ I64 e.l ∧ e.n.size ≤ maxLen := by
  obtain ⟨xs, m, _, _, hc, hx, hg⟩ := DataW.trod_struct Tryd.underlying72 h
  have hl : cs.length = 3 := hc.trans cellsElem
  obtain ⟨ci, cstr, -⟩ := cells1
  have h0 := hg 0 _ rfl
  have h1 := hg 1 _ rfl
  have h2 := hg 2 _ rfl
  have hxl : xs.length = 3 := hx
  match cs, hl, xs, hxl with
  | [c0, c1, c2], _, [y0, y1, y2], _ =>
    obtain ⟨nm, e0, -, ws⟩ := DataW.trod_string (x := y0) Tryd.underlying9 (by simpa [cstr] using h0)
    obtain ⟨a, e1, -, wa⟩ := DataW.trod_int (x := y1) Tryd.underlying3 (by simpa [ci] using h1)
    obtain ⟨b, e2, -, wb⟩ := DataW.trod_int (x := y2) Tryd.underlying3 (by simpa [ci] using h2)
    simp only [List.cons.injEq, and_true] at e0 e1 e2
    subst e0 e1 e2
    exact ⟨⟨nm, a, b⟩, rfl, wa, wb, ws⟩
set_option maxRecDepth 100000 in
theorem trod_jn {cs : List Value} (h : DataW.trod enc Tryd.prog W base sp held n 74 cs = some y) : ∃ j : Jn, cs = [.int .i64 j.a.e, .int .i64 j.a.x, .int .i64 j.b.e, .int .i64 j.b.x] ∧ PrtOk j.a ∧ PrtOk j.b := by
  obtain ⟨xs, m, _, _, hc, hx, hg⟩ := DataW.trod_struct Tryd.underlying74 h
  have hl : cs.length = 4 := hc.trans cellsJoin
  have h0 := hg 0 _ rfl
  have h1 := hg 1 _ rfl
  have hxl : xs.length = 2 := hx
  match cs, hl, xs, hxl with
  | [c0, c1, c2, c3], _, [y0, y1], _ =>
    obtain ⟨a, e0, wa⟩ := trod_prt (y := y0) (cs := [c0, c1]) (by simpa [prt_cells] using h0)
    obtain ⟨b, e1, wb⟩ := trod_prt (y := y1) (cs := [c2, c3]) (by simpa [prt_cells] using h1)
    unfold Prt.cs at e0 e1
    simp only [List.cons.injEq, and_true] at e0 e1
    obtain ⟨rfl, rfl⟩ := e0
    obtain ⟨rfl, rfl⟩ := e1
    exact ⟨⟨a, b⟩, rfl, wa, wb⟩
set_option maxRecDepth 100000 in
theorem trod_sg {cs : List Value} (h : DataW.trod enc Tryd.prog W base sp held n 77 cs = some y) : ∃ s : Sg, cs = [.string s.n, .int .i64 s.at_.e, .int .i64 s.at_.x, .bool s.auto] ∧ PrtOk s.at_ ∧ s.n.size ≤ maxLen := by
  obtain ⟨xs, m, _, _, hc, hx, hg⟩ := DataW.trod_struct Tryd.underlying77 h
  have hl : cs.length = 4 := hc.trans cellsSignal
  obtain ⟨ci, cstr, cb, -⟩ := cells1
  have h0 := hg 0 _ rfl
  have h1 := hg 1 _ rfl
  have h2 := hg 2 _ rfl
  have hxl : xs.length = 3 := hx
  match cs, hl, xs, hxl with
  | [c0, c1, c2, c3], _, [y0, y1, y2], _ =>
    obtain ⟨nm, e0, -, ws⟩ := DataW.trod_string (x := y0) Tryd.underlying9 (by simpa [cstr] using h0)
    obtain ⟨a, e1, wa⟩ := trod_prt (y := y1) (cs := [c1, c2]) (by simpa [prt_cells] using h1)
    obtain ⟨b, e2, -⟩ := DataW.trod_bool (x := y2) Tryd.underlying4 (by simpa [cb] using h2)
    unfold Prt.cs at e1
    simp only [List.cons.injEq, and_true] at e0 e1 e2
    obtain ⟨rfl, rfl⟩ := e1
    subst e0 e2
    exact ⟨⟨nm, a, b⟩, rfl, wa, ws⟩
set_option maxRecDepth 100000 in
theorem trod_ln {cs : List Value} (h : DataW.trod enc Tryd.prog W base sp held n 85 cs = some y) : ∃ (l : Ln) (u : Value), cs = [.string l.n, u] ∧ IsVals W u (l.es.map (Value.int .i64)) ∧ l.n.size ≤ maxLen ∧ ∀ e ∈ l.es, I64 e := by
  obtain ⟨xs, m, _, _, hc, hx, hg⟩ := DataW.trod_struct Tryd.underlying85 h
  have hl : cs.length = 2 := hc.trans cellsLine
  obtain ⟨ci, cstr, cb, cs1, -⟩ := cells1
  have h0 := hg 0 _ rfl
  have h1 := hg 1 _ rfl
  have hxl : xs.length = 2 := hx
  match cs, hl, xs, hxl with
  | [c0, c1], _, [y0, y1], _ =>
    obtain ⟨nm, e0, -, ws⟩ := DataW.trod_string (x := y0) Tryd.underlying9 (by simpa [cstr] using h0)
    obtain ⟨zs, hz, wz⟩ := trod_ints (y := y1) (v := c1) (by simpa [cs1] using h1)
    simp only [List.cons.injEq, and_true] at e0
    subst e0
    exact ⟨⟨nm, zs⟩, c1, rfl, hz, ws, wz⟩
theorem trod_rowL {α : Type} {t e : TypeId} {sz : Nat} {C : α → Nat → Value} {Q : α → Prop} (ht : Tryd.prog.underlying t = some (.slice e)) (hC : Tryd.prog.cellsOf e = sz) (hs : 0 < sz) (h : DataW.trod enc Tryd.prog W base sp held n t [v] = some y)
    (hel : ∀ (cs : List Value) (m : Nat) (z : DataW H × List MemPlace), DataW.trod enc Tryd.prog W base sp held m e cs = some z → ∃ x : α, (∀ j, j < sz → cs[j]? = some (C x j)) ∧ Q x) :
    ∃ L : List α, (∀ x ∈ L, Q x) ∧ ∀ (D : Nat → Nat → Value), (∀ i j (hi : i < L.length), D i j = C L[i] j) → IsRow W v sz L.length D := by
  obtain ⟨a, l, c, rfl, hm, hx⟩ := trod_rows ht hC hs h
  rcases hx with rfl | ⟨b, o, rfl, hb, hi⟩
  · exact ⟨[], by simp, fun D _ => ⟨a, c, rfl, hm, .inl rfl⟩⟩
  · have key : ∀ i, i < l → ∃ x : α, (∀ j, j < sz → W.cell? ⟨b, o + i * sz + j, none⟩ = some (C x j)) ∧ Q x := by
      intro i hil
      obtain ⟨cs, m, z, hl, hc, ht'⟩ := hi i hil
      obtain ⟨x, hx, hq⟩ := hel cs m z ht'
      exact ⟨x, fun j hj => hc j _ (hx j hj), hq⟩
    obtain ⟨L, hL, hP⟩ := list_of key
    refine ⟨L, fun x hx => ?_, fun D hD => ⟨some ⟨b, o, none⟩, c, by rw [hL], by rw [hL]; exact hm, .inr ⟨b, o, rfl, hb, fun i j hi hj => ?_⟩⟩⟩
    · obtain ⟨i, hi, rfl⟩ := List.getElem_of_mem hx
      exact (hP i hi).2
    · rw [hD i j hi]; exact (hP i hi).1 j hj
end
set_option maxRecDepth 100000 in
theorem open_pln {H : Type} {enc : TypeId × Value → H} {W : World} {r : Reach} {b0 base : Nat} {sp : Nat → Bool} {held : Bool} {v : Value} {d : DataW H} {p : List MemPlace}
    (hv : Value.okWide Tryd.prog W r b0 27 v) (h : DataW.Trod enc Tryd.prog W base sp held 27 v d p) (_lt : ∀ x ∈ p, x.block < W.heap.size) :
    ∃ P : Pln, IsPln W v P ∧ PlnOk P := by
  obtain ⟨cs, rfl, hsz⟩ := okWide_struct Tryd.underlying27 hv
  obtain ⟨l⟩ := cs
  obtain ⟨ci, cstr, cb, c28, c1, c2, c3, c4⟩ := cells1
  match l, hsz.trans cellsPlan with
  | [v0, v1, v2, v3, v4, v5, v6, v7, v8], _ =>
    obtain ⟨fuel, hf⟩ := h
    obtain ⟨xs, n, _, hx, _, hlen, hg⟩ := DataW.trod_struct Tryd.underlying27 hf
    have h0 := hg 0 _ rfl
    have h1 := hg 1 _ rfl
    have h2 := hg 2 _ rfl
    have h3 := hg 3 _ rfl
    have h4 := hg 4 _ rfl
    have h5 := hg 5 _ rfl
    have h6 := hg 6 _ rfl
    have h7 := hg 7 _ rfl
    have h8 := hg 8 _ rfl
    match xs, hlen with
    | [y0, y1, y2, y3, y4, y5, y6, y7, y8], _ =>
      obtain ⟨E, hE, kE⟩ := trod_rowL (C := fun (e : Ele) j => e.c j) (Q := fun e => I64 e.k ∧ I64 e.l ∧ e.n.size ≤ maxLen) (y := y0) (v := v0) Tryd.underlying22 cellsElem (by omega) (by simpa [Value.cells, c1] using h0) (fun cs m z hz => by
        obtain ⟨e, rfl, q⟩ := trod_ele hz
        exact ⟨e, fun j hj => by match j, hj with | 0, _ => rfl | 1, _ => rfl | 2, _ => rfl, q⟩)
      obtain ⟨J, hJ, kJ⟩ := trod_rowL (C := fun (e : Jn) j => e.c j) (Q := fun e => PrtOk e.a ∧ PrtOk e.b) (y := y1) (v := v1) Tryd.underlying23 cellsJoin (by omega) (by simpa [Value.cells, c2] using h1) (fun cs m z hz => by
        obtain ⟨e, rfl, q⟩ := trod_jn hz
        exact ⟨e, fun j hj => by match j, hj with | 0, _ => rfl | 1, _ => rfl | 2, _ => rfl | 3, _ => rfl, q⟩)
      obtain ⟨S, hS, kS⟩ := trod_rowL (C := fun (e : Sg) j => e.c j) (Q := fun e => PrtOk e.at_ ∧ e.n.size ≤ maxLen) (y := y2) (v := v2) Tryd.underlying24 cellsSignal (by omega) (by simpa [Value.cells, c3] using h2) (fun cs m z hz => by
        obtain ⟨e, rfl, q⟩ := trod_sg hz
        exact ⟨e, fun j hj => by match j, hj with | 0, _ => rfl | 1, _ => rfl | 2, _ => rfl | 3, _ => rfl, q⟩)
      obtain ⟨L, hL, kL⟩ := trod_rowL (C := fun (e : Ln × Value) j => if j = 0 then .string e.1.n else e.2) (Q := fun e => IsVals W e.2 (e.1.es.map (Value.int .i64)) ∧ e.1.n.size ≤ maxLen ∧ ∀ x ∈ e.1.es, I64 x) (y := y3) (v := v3) Tryd.underlying25 cellsLine (by omega) (by simpa [Value.cells, c4] using h3) (fun cs m z hz => by
        obtain ⟨e, u, rfl, q⟩ := trod_ln hz
        exact ⟨(e, u), fun j hj => by match j, hj with | 0, _ => rfl | 1, _ => rfl, q⟩)
      obtain ⟨n4, e4, -, w4⟩ := DataW.trod_int (x := y4) Tryd.underlying3 (by simpa [Value.cells, ci] using h4)
      obtain ⟨n5, e5, -, w5⟩ := DataW.trod_int (x := y5) Tryd.underlying3 (by simpa [Value.cells, ci] using h5)
      obtain ⟨n6, e6, -, w6⟩ := DataW.trod_int (x := y6) Tryd.underlying3 (by simpa [Value.cells, ci] using h6)
      obtain ⟨n7, e7, -, w7⟩ := DataW.trod_int (x := y7) Tryd.underlying3 (by simpa [Value.cells, ci] using h7)
      obtain ⟨n8, e8, -⟩ := DataW.trod_bool (x := y8) Tryd.underlying4 (by simpa [Value.cells, cb] using h8)
      simp only [List.cons.injEq, and_true] at e4 e5 e6 e7 e8
      subst e4 e5 e6 e7 e8
      have rE : IsEles W v0 E := kE _ (fun i j hi => by rw [getD_at _ _ hi])
      have rJ : IsJns W v1 J := kJ _ (fun i j hi => by rw [getD_at _ _ hi])
      have rS : IsSgs W v2 S := kS _ (fun i j hi => by rw [getD_at _ _ hi])
      have rL : IsLns W v3 (L.map (·.1)) := by
        refine ⟨fun i => (L.getD i (default, .slice none 0 0)).2, ?_, fun i hi => ?_⟩
        · have := kL (fun i j => if j = 0 then .string ((L.map (fun z : Ln × Value => z.1)).getD i default).n else (L.getD i (default, .slice none 0 0)).2) (fun i j hi => by
            have e1 : (L.map (·.1)).getD i default = L[i].1 := by rw [List.getD_eq_getElem?_getD, List.getElem?_map, List.getElem?_eq_getElem hi]; rfl
            have e2 : L.getD i (default, .slice none 0 0) = L[i] := by rw [List.getD_eq_getElem?_getD, List.getElem?_eq_getElem hi]; rfl
            rw [e1, e2])
          simpa using this
        · have hi' : i < L.length := by simpa using hi
          have e1 : (L.map (·.1)).getD i default = L[i].1 := by rw [List.getD_eq_getElem?_getD, List.getElem?_map, List.getElem?_eq_getElem hi']; rfl
          have e2 : L.getD i (default, .slice none 0 0) = L[i] := by rw [List.getD_eq_getElem?_getD, List.getElem?_eq_getElem hi']; rfl
          show IsVals W (L.getD i (default, .slice none 0 0)).2 _
          rw [e1, e2]
          exact (hL _ (List.getElem_mem hi')).1
      obtain ⟨a1, q1, rfl, -⟩ := id rE
      obtain ⟨a2, q2, rfl, -⟩ := id rJ
      obtain ⟨a3, q3, rfl, -⟩ := id rS
      obtain ⟨_, ⟨a4, q4, rfl, -⟩, -⟩ := id rL
      refine ⟨⟨E, J, S, L.map (·.1), n4, n5, n6, n7, n8⟩, ⟨a1, q1, a2, q2, a3, q3, a4, q4, rfl, rE, rJ, rS, rL⟩, hE, fun j hj => ?_, fun s hs => ?_, fun x hx => ?_, w4, w5, w6, w7⟩
      · have := hJ j hj; exact ⟨this.1.1, this.1.2, this.2.1, this.2.2⟩
      · have := hS s hs; exact ⟨this.1.1, this.1.2, this.2⟩
      · obtain ⟨z, hz, rfl⟩ := List.mem_map.1 hx
        exact (hL z hz).2
end Go.Proofs.YtgjnlgcdpbilfaaDoor
namespace Go.Proofs.YtgjnlgcdpbilfaaDoor
open Go.Joins Go.ChangeShapes Go.WideShapes Go.RowKit Go.Deep
set_option linter.unusedVariables false
set_option linter.unusedSimpArgs false
end Go.Proofs.YtgjnlgcdpbilfaaDoor
namespace Go.Proofs.YtgjnlgcdpbilfaaDoor
open Go.Joins Go.ChangeShapes Go.WideShapes Go.RowKit Go.Deep
set_option linter.unusedVariables false
set_option linter.unusedSimpArgs false
set_option maxRecDepth 100000 in
theorem open_ints_vals {H : Type} {enc : TypeId × Value → H} {W : World} {r : Reach} {b0 base : Nat} {sp : Nat → Bool} {held : Bool} {v : Value} {d : DataW H} {p : List MemPlace}
    (hv : Value.okWide Tryd.prog W r b0 28 v) (h : DataW.Trod enc Tryd.prog W base sp held 28 v d p) (_lt : ∀ x ∈ p, x.block < W.heap.size) :
    ∃ zs : List Int, IsVals W v (zs.map (Value.int .i64)) ∧ ∀ n ∈ zs, (Lit.int .i64 n).wf = true := by
  obtain ⟨a0, len0, cap0, rfl⟩ := okWide_slice Tryd.underlying28 hv
  obtain ⟨fuel, hf⟩ := h
  rcases open_ints Tryd.underlying28 Tryd.underlying3 (by kernel_rfl) hf with ⟨hcs, _⟩ | ⟨x, l, c, zs, hcs, _, hl, hm, hz, _, hcell, hwz⟩
  · simp [Value.cells] at hcs
    obtain ⟨rfl, rfl, rfl⟩ := hcs
    exact ⟨[], ⟨none, 0, rfl, by decide, .inl rfl⟩, by simp⟩
  · simp [Value.cells] at hcs
    obtain ⟨rfl, rfl, rfl⟩ := hcs
    have hzl : len0 ≤ zs.length := by rw [hz]; split <;> omega
    have hlen : ((zs.take len0).map (Value.int .i64)).length = len0 := by simp; omega
    refine ⟨zs.take len0, ⟨some x, cap0, by rw [hlen], by rw [hlen]; omega, vals_of fun i y hy => ?_⟩, fun n hn => hwz n (List.mem_of_mem_take hn)⟩
    have hi : i < len0 := by
      have := (List.getElem?_eq_some_iff.1 hy).1
      omega
    rw [hcell i (by omega)]
    simp only [List.getElem?_map, List.getElem?_take, if_pos hi] at hy
    rw [List.getElem?_eq_getElem (by omega)] at hy
    simp only [Option.map_some, Option.some.injEq] at hy
    rw [← hy, List.getD_eq_getElem?_getD, List.getElem?_eq_getElem (by omega)]
    rfl
end Go.Proofs.YtgjnlgcdpbilfaaDoor
namespace Go.Proofs.YtgjnlgcdpbilfaaDoor
open Go.Lib
set_option maxRecDepth 100000
set_option linter.unusedVariables false
def laidRows : List (String × DataW Unit) := [("unicode/utf8.acceptRanges", Rows.laid_unicode_utf8_acceptRanges), ("unicode/utf8.first", Rows.laid_unicode_utf8_first)]
theorem laidRows_plain (w : World) : laidMetH Tryd.prog laidRows w = laidMet Tryd.prog laidRows w := MakeChecks.laidMetH_plain _ _ _ (by kernel_rfl)
theorem tabs_of {w : World} (hL : laidMetH Tryd.prog laidRows w) (hsh : w.ShapedOpen Tryd.prog) : w.ShapedOpen Tryd.prog := hsh
theorem laid_witness (os : Os) (args : Array Value) : laidMetH Tryd.prog laidRows ((World.laidAll Tryd.prog os laidRows).forCall (fun _ _ => 0) ⟨#[], args, []⟩).memory := by
  rw [laidRows_plain]
  exact laidMet_laidAll _ (by kernel_rfl) (by kernel_rfl)
theorem laid_shaped (os : Os) (args : Array Value) : ((World.laidAll Tryd.prog os laidRows).forCall (fun _ _ => 0) ⟨#[], args, []⟩).Shaped Tryd.prog :=
  World.shaped_of_ZipB (by kernel_rfl) (by kernel_rfl)
end Go.Proofs.YtgjnlgcdpbilfaaDoor
