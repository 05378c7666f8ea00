/- the reference's MayBody: a derailed body; any body. -/
import Derived.Test.YtaanepadgoefhaaGreatDoorRows
import Derived.Test.YtaanepadgoefhaaGreatDoorRMbf
import Derived.Deep.Cut
import Derived.Deep.DrawnRows
namespace Go.Proofs.YtaanepadgoefhaaGreatDoor
open Go.ChangeShapes Go.WideShapes Go.ChangeAt Go.RowKit Go.Maps
set_option linter.unusedVariables false
set_option linter.unusedSimpArgs false
attribute [local go_sem ↓] Go.wp_at_zero Go.wp_at_succ
set_option maxRecDepth 100000 in
set_option maxHeartbeats 8000000 in
theorem mayBody_c (pv bv : Value) (P : Pln) (B : Bdy) (len : Int) (w : World) (hP : IsPln w pv P) (hf : chk P = 0) (hB : IsBdy w bv B) (hn : B.trail.length ≤ 5000) (hmode : B.mode = 4) :
    Calls Tryz.prog 14 #[pv, .int .i64 len, bv] w (RetB (BdyOk B) w) := by
  have HPI := Lib.hid hP
  obtain ⟨a1, c1, a2, c2, a3, c3, a4, c4, rfl, -⟩ := hP
  obtain ⟨ta, tc, rfl, ht⟩ := hB
  have HT := Lib.hid ht
  have htm := IsRow.len ht
  unfold maxLen at htm
  obtain ⟨mode, T, left, over, v⟩ := B
  unfold bdyV
  dsimp only at *
  have HMD := Lib.hid hmode
  clear hmode
  have hW : Gr w ((w.alloc (.cells #[.slice a1 P.es.length c1, .slice a2 P.js.length c2, .slice a3 P.ss.length c3, .slice a4 P.ls.length c4, .int .i64 P.top, .int .i64 P.brake, .int .i64 P.margin, .int .i64 P.throw, .bool P.hard] 27)).alloc (.cells #[.int .i64 mode, .slice ta T.length tc, .int .i64 left, .int .i64 over, .int .i64 v] 33)) := ((Gr.refl _).alloc _).alloc _
  have HBX : Hid (∀ w', Gr ((w.alloc (.cells #[.slice a1 P.es.length c1, .slice a2 P.js.length c2, .slice a3 P.ss.length c3, .slice a4 P.ls.length c4, .int .i64 P.top, .int .i64 P.brake, .int .i64 P.margin, .int .i64 P.throw, .bool P.hard] 27)).alloc (.cells #[.int .i64 mode, .slice ta T.length tc, .int .i64 left, .int .i64 over, .int .i64 v] 33)) w' → Gr w w' ∧ PBox w' w.heap.size P (.slice a1 P.es.length c1) (.slice a2 P.js.length c2) (.slice a3 P.ss.length c3) (.slice a4 P.ls.length c4) ∧ w.heap.size < w'.heap.size ∧ w'.cell? ⟨w.heap.size, 0, none⟩ = some (.slice a1 P.es.length c1) ∧ w'.cell? ⟨w.heap.size, 1, none⟩ = some (.slice a2 P.js.length c2) ∧ w'.cell? ⟨w.heap.size, 2, none⟩ = some (.slice a3 P.ss.length c3) ∧ w'.cell? ⟨w.heap.size, 3, none⟩ = some (.slice a4 P.ls.length c4) ∧ w'.cell? ⟨w.heap.size, 4, none⟩ = some (.int .i64 P.top) ∧ w'.cell? ⟨w.heap.size, 5, none⟩ = some (.int .i64 P.brake) ∧ w'.cell? ⟨w.heap.size, 6, none⟩ = some (.int .i64 P.margin) ∧ w'.cell? ⟨w.heap.size, 7, none⟩ = some (.int .i64 P.throw) ∧ w'.cell? ⟨w.heap.size, 8, none⟩ = some (.bool P.hard) ∧ w.heap.size + 1 < w'.heap.size ∧ w'.cell? ⟨w.heap.size + 1, 0, none⟩ = some (.int .i64 mode) ∧ w'.cell? ⟨w.heap.size + 1, 1, none⟩ = some (.slice ta T.length tc) ∧ w'.cell? ⟨w.heap.size + 1, 2, none⟩ = some (.int .i64 left) ∧ w'.cell? ⟨w.heap.size + 1, 3, none⟩ = some (.int .i64 over) ∧ w'.cell? ⟨w.heap.size + 1, 4, none⟩ = some (.int .i64 v)) := by
    intro w' g
    have hb := (PBox.new w P (.slice a1 P.es.length c1) (.slice a2 P.js.length c2) (.slice a3 P.ss.length c3) (.slice a4 P.ls.length c4)).gr (((Gr.refl _).alloc _).trans g)
    obtain ⟨z, q0, q1, q2, q3, q4, q5, q6, q7, q8⟩ := id hb
    have hz : w.heap.size + 1 < (((w.alloc (.cells #[.slice a1 P.es.length c1, .slice a2 P.js.length c2, .slice a3 P.ss.length c3, .slice a4 P.ls.length c4, .int .i64 P.top, .int .i64 P.brake, .int .i64 P.margin, .int .i64 P.throw, .bool P.hard] 27)).alloc (.cells #[.int .i64 mode, .slice ta T.length tc, .int .i64 left, .int .i64 over, .int .i64 v] 33))).heap.size := by simp
    exact ⟨hW.trans g, hb, z, q0, q1, q2, q3, q4, q5, q6, q7, q8, Nat.lt_of_lt_of_le hz g.size, (g.cell _ _ hz).trans (by go_simp), (g.cell _ _ hz).trans (by go_simp), (g.cell _ _ hz).trans (by go_simp), (g.cell _ _ hz).trans (by go_simp), (g.cell _ _ hz).trans (by go_simp)⟩
  have HKD := Lib.hid (fun (m : Int) (w' : World) (g : Gr w w') => kindE_any _ P m w' (HPI.out.gr g))
  have HLN := Lib.hid (fun (m : Int) (w' : World) (g : Gr w w') => length_any _ P m w' (HPI.out.gr g))
  have HLB : Hid (∀ m, 0 ≤ lenP P m ∧ lenP P m ≤ 4000) := fun m => by rw [← eleAt_len]; have := fine_len hf m; omega
  have HNX := Lib.hid (fun (x : Prt) (w' : World) (g : Gr w w') => refNextP_any _ P x w' (HPI.out.gr g))
  have HCN := Lib.hid (fun (w' : World) (g : Gr w w') => chained_any _ _ P T w' (HPI.out.gr g) (HT.out.gr g) hn)
  unfold plnV at HKD HLN HNX HCN ⊢
  clear HPI ht
  by_cases l0 : len < 1
  · go_enter Tryz.func14, Tryz.ntmps14
    (go_wp2_with fail; go_ret; exact RetB.no (hW))
  by_cases l1 : 4000 < len
  · go_enter Tryz.func14, Tryz.ntmps14
    (go_wp2_with fail; go_ret; exact RetB.no (hW))
  have sw := still_ways left over v
  have n1 : (mode == 1) = false := beqF (by have := HMD.out; omega)
  have n3 : (mode == 3) = false := beqF (by have := HMD.out; omega)
  have n5 : (mode == 4) = true := beqT HMD.out
  have n6 : (mode == 2) = false := beqF (by have := HMD.out; omega)
  have hOK : mode = 2 ∨ mode = 4 → T ≠ [] → 0 ≤ left → BdyOk ⟨mode, T, left, over, v⟩ := fun h hne hl => ⟨fun _ => ⟨hne, hl⟩, fun h' => by
    dsimp only at h' ⊢
    rcases h with h | h
    · exact absurd (.inr h) h'
    · exact .inl h⟩
  have HOK := Lib.hid hOK
  clear hOK
  have m24 : mode = 2 ∨ mode = 4 := .inr HMD.out
  · have HQ := Lib.hid (HOK.out m24)
    clear HOK m24
    go_enter Tryz.func14, Tryz.ntmps14
    go_upto_region 3 with (fail)
    go_cut [7] from 20 (fun x wc => Hid (∃ b, x = .bool b) ∧ wc = ((w.alloc (.cells #[.slice a1 P.es.length c1, .slice a2 P.js.length c2, .slice a3 P.ss.length c3, .slice a4 P.ls.length c4, .int .i64 P.top, .int .i64 P.brake, .int .i64 P.margin, .int .i64 P.throw, .bool P.hard] 27)).alloc (.cells #[.int .i64 mode, .slice ta T.length tc, .int .i64 left, .int .i64 over, .int .i64 v] 33)))
    case first =>
      rcases sw with ⟨rfl, rfl, rfl⟩ | h1 | ⟨h1, h2⟩ | ⟨h1, h2, h3⟩
      all_goals
        go_wp2_with fail
        go_meet
        case rel => exact ⟨⟨_, rfl⟩, rfl⟩
    case rest =>
      clear sw
      obtain ⟨hx0, rfl⟩ := hcut
      obtain ⟨bq, rfl⟩ := hx0.out
      clear hx0
      · cases bq
        · (go_wp2_with fail; go_ret; exact RetB.no (hW))
        go_upto_region 16 with (first | (go_at_call 42; (with_reducible refine (HCN.out _ hW).mono ?_); rintro e w2 ⟨m, rfl, g2, hm⟩; rcases m with _ | _; all_goals (have gw2 := hW.trans g2; obtain ⟨-, hb2, zb2, u0, u1, u2, u3, u4, u5, u6, u7, u8, zc2, s0, s1, s2, s3, s4⟩ := HBX.out _ g2)) | fail)
        · go_wp2_with fail
          go_ret
          exact RetB.no gw2
        have hne := hm (by trivial)
        clear hm
        have hlen : 0 < T.length := List.length_pos_iff.2 hne
        have hll : T.length - 1 < T.length := by omega
        obtain ⟨bb, o, hs, z, y0, y1⟩ := HT.out.at (T.length - 1) hll
        subst hs
        have z3 := Nat.lt_of_lt_of_le z gw2.size
        have y0 := (gw2.cell _ _ z).trans y0
        have y1 := (gw2.cell _ _ z).trans y1
        generalize T[T.length - 1] = q at y0 y1
        obtain ⟨qe, qx⟩ := q
        dsimp only at y0 y1
        have j0 : (0 : Int) ≤ (T.length : Int) - 1 := by omega
        have j1 : (T.length : Int) - 1 < (T.length : Int) := by omega
        have tj : IntKind.i64.wrap ((T.length : Int) - 1) = ((T.length - 1 : Nat) : Int) := by rw [IntWalk.i64_in _ (by omega)]; omega
        have tn : ((T.length : Int) - 1).toNat = T.length - 1 := by omega
        go_upto_region 17 with (fail)
        have HLQ := Lib.hid (HLN.out qe)
        have hlb := HLB.out qe
        generalize lenP P qe = LN at HLQ hlb
        have gA : Gr w2 (w2.alloc (.cells #[.int .i64 qe, .int .i64 qx] 68)) := (Gr.refl _).alloc _
        have zl : w2.heap.size < (w2.alloc (.cells #[.int .i64 qe, .int .i64 qx] 68)).heap.size := by simp
        have q0 : (w2.alloc (.cells #[.int .i64 qe, .int .i64 qx] 68)).cell? ⟨w2.heap.size, 0, none⟩ = some (.int .i64 qe) := by rw [World.cell?_alloc_mark]; rfl
        have q1 : (w2.alloc (.cells #[.int .i64 qe, .int .i64 qx] 68)).cell? ⟨w2.heap.size, 1, none⟩ = some (.int .i64 qx) := by rw [World.cell?_alloc_mark]; rfl
        clear u0 u1 u2 u3 u4 u5 u6 u7 u8 s0 s1 s2 s3 s4 y0 y1 zb2 zc2
        generalize w2.alloc (.cells #[.int .i64 qe, .int .i64 qx] 68) = wr at *
        have gwr := gw2.trans gA
        have gWr := g2.trans gA
        obtain ⟨-, -, zb2, u0, u1, u2, u3, u4, u5, u6, u7, u8, zc2, s0, s1, s2, s3, s4⟩ := HBX.out _ gWr
        have hcb := fun (i : GrW wr) (o : Nat) => GrW.cell zb2 i o
        have hcc := fun (i : GrW wr) (o : Nat) => GrW.cell zc2 i o
        have hcl := fun (i : GrW wr) (o : Nat) => GrW.cell zl i o
        by_cases e1 : left < 0
        · ((refine wp_region_gr (by kernel_rfl) (by kernel_rfl) ?_; (repeat (go_big_quiet_step ((go_at_call 43; exact Calls.gr_of (HLQ.out _ (gwr.trans (GrW.gr _))))))); refine wpQuiet_nil ?_; intro wz hz; obtain ⟨iz, hz⟩ := hz; obtain ⟨wn, gn⟩ := iz; dsimp only at hz; obtain rfl := hz.symm); go_wp2_with fail; go_ret; exact RetB.no (gwr.trans gn))
        have tc1 : ¬ left < 0 := e1
        by_cases e2 : LN ≤ left
        · ((refine wp_region_gr (by kernel_rfl) (by kernel_rfl) ?_; (repeat (go_big_quiet_step ((go_at_call 43; exact Calls.gr_of (HLQ.out _ (gwr.trans (GrW.gr _))))))); refine wpQuiet_nil ?_; intro wz hz; obtain ⟨iz, hz⟩ := hz; obtain ⟨wn, gn⟩ := iz; dsimp only at hz; obtain rfl := hz.symm); go_wp2_with fail; go_ret; exact RetB.no (gwr.trans gn))
        have tc2 : ¬ LN ≤ left := e2
        by_cases e3 : v < 0
        · ((refine wp_region_gr (by kernel_rfl) (by kernel_rfl) ?_; (repeat (go_big_quiet_step ((go_at_call 43; exact Calls.gr_of (HLQ.out _ (gwr.trans (GrW.gr _))))))); refine wpQuiet_nil ?_; intro wz hz; obtain ⟨iz, hz⟩ := hz; obtain ⟨wn, gn⟩ := iz; dsimp only at hz; obtain rfl := hz.symm); go_wp2_with fail; go_ret; exact RetB.no (gwr.trans gn))
        have tc3 : ¬ v < 0 := e3
        by_cases e4 : 60 < v
        · ((refine wp_region_gr (by kernel_rfl) (by kernel_rfl) ?_; (repeat (go_big_quiet_step ((go_at_call 43; exact Calls.gr_of (HLQ.out _ (gwr.trans (GrW.gr _))))))); refine wpQuiet_nil ?_; intro wz hz; obtain ⟨iz, hz⟩ := hz; obtain ⟨wn, gn⟩ := iz; dsimp only at hz; obtain rfl := hz.symm); go_wp2_with fail; go_ret; exact RetB.no (gwr.trans gn))
        have tc4 : ¬ 60 < v := e4
        by_cases e5 : over < 0
        · ((refine wp_region_gr (by kernel_rfl) (by kernel_rfl) ?_; (repeat (go_big_quiet_step ((go_at_call 43; exact Calls.gr_of (HLQ.out _ (gwr.trans (GrW.gr _))))))); refine wpQuiet_nil ?_; intro wz hz; obtain ⟨iz, hz⟩ := hz; obtain ⟨wn, gn⟩ := iz; dsimp only at hz; obtain rfl := hz.symm); go_wp2_with fail; go_ret; exact RetB.no (gwr.trans gn))
        have tc5 : ¬ over < 0 := e5
        by_cases e6 : len ≤ over
        · ((refine wp_region_gr (by kernel_rfl) (by kernel_rfl) ?_; (repeat (go_big_quiet_step ((go_at_call 43; exact Calls.gr_of (HLQ.out _ (gwr.trans (GrW.gr _))))))); refine wpQuiet_nil ?_; intro wz hz; obtain ⟨iz, hz⟩ := hz; obtain ⟨wn, gn⟩ := iz; dsimp only at hz; obtain rfl := hz.symm); go_wp2_with fail; go_ret; exact RetB.no (gwr.trans gn))
        have tc6 : ¬ len ≤ over := e6
        (refine wp_region_gr (by kernel_rfl) (by kernel_rfl) ?_; (repeat (go_big_quiet_step ((go_at_call 43; exact Calls.gr_of (HLQ.out _ (gwr.trans (GrW.gr _))))))); refine wpQuiet_nil ?_; intro wz hz; obtain ⟨iz, hz⟩ := hz; obtain ⟨wn, gn⟩ := iz; dsimp only at hz; obtain rfl := hz.symm)
        obtain ⟨-, -, zb3, u0, u1, u2, u3, u4, u5, u6, u7, u8, zc3, s0, s1, s2, s3, s4⟩ := HBX.out _ (gWr.trans gn)
        have q0 := (gn.cell _ _ zl).trans q0
        have q1 := (gn.cell _ _ zl).trans q1
        have gwn := gwr.trans gn
        have gWn := gWr.trans gn
        obtain ⟨ye, yx, ok, hR⟩ := prtR_form (nextL P.js ⟨qe, qx⟩)
        have HNQ : Hid (∀ w', Gr w w' → Calls Tryz.prog 44 #[(.agg #[.slice a1 P.es.length c1, .slice a2 P.js.length c2, .slice a3 P.ss.length c3, .slice a4 P.ls.length c4, .int .i64 P.top, .int .i64 P.brake, .int .i64 P.margin, .int .i64 P.throw, .bool P.hard]), .agg #[.int .i64 qe, .int .i64 qx]] w' fun e w'' => e = .returned (.tuple #[.agg #[.int .i64 ye, .int .i64 yx], .bool ok]) ∧ Gr w' w'') := fun w' g => by have := HNX.out ⟨qe, qx⟩ w' g; rw [hR] at this; exact this
        clear hR hcb hcc hcl
        have HKY := Lib.hid (HKD.out ye)
        generalize kindP P ye = KY at HKY
        go_upto_region 20 with (first | (go_at_call 44; (with_reducible refine (HNQ.out _ gwn).mono ?_); rintro e w4 ⟨rfl, g4⟩) | fail)
        have hY : Gr w4 (w4.alloc (.cells #[.int .i64 ye, .int .i64 yx] 68)) := (Gr.refl _).alloc _
        have zy : w4.heap.size < (w4.alloc (.cells #[.int .i64 ye, .int .i64 yx] 68)).heap.size := by simp
        have v0 : (w4.alloc (.cells #[.int .i64 ye, .int .i64 yx] 68)).cell? ⟨w4.heap.size, 0, none⟩ = some (.int .i64 ye) := by rw [World.cell?_alloc_mark]; rfl
        clear u0 u1 u2 u3 u4 u5 u6 u7 u8 s0 s1 s2 s3 s4 q0 q1
        generalize w4.alloc (.cells #[.int .i64 ye, .int .i64 yx] 68) = w5 at *
        have gw5 := (gwn.trans g4).trans hY
        have gW5 := (gWn.trans g4).trans hY
        obtain ⟨-, -, zb5, u0, u1, u2, u3, u4, u5, u6, u7, u8, zc5, s0, s1, s2, s3, s4⟩ := HBX.out _ gW5
        have S5 := Lib.hid (And.intro s1 (And.intro s2 s3))
        go_cut [147] from 129 (fun x wc => Hid (∃ b, x = .bool b) ∧ Gr w5 wc)
        case first =>
          by_cases d1 : 0 < over
          · by_cases d2 : 0 < left
            · go_wp2_with fail
              go_meet
              case rel => exact ⟨⟨_, rfl⟩, Gr.refl _⟩
            · cases ok
              · go_wp2_with fail
                go_meet
                case rel => exact ⟨⟨_, rfl⟩, Gr.refl _⟩
              · go_wp2_with (first | (go_at_call 41; (with_reducible refine (HKY.out _ gw5).mono ?_); rintro e w6 ⟨rfl, g6⟩) | fail)
                go_meet
                case rel => exact ⟨⟨_, rfl⟩, g6⟩
          · go_wp2_with fail
            go_meet
            case rel => exact ⟨⟨_, rfl⟩, Gr.refl _⟩
        case rest =>
          obtain ⟨hx0, g6⟩ := hcut
          obtain ⟨b6, rfl⟩ := hx0.out
          clear hx0 u0 u1 u2 u3 u4 u5 u6 u7 u8 s0 s1 s2 s3 s4 v0
          obtain ⟨-, -, zb6, -, -, -, -, -, -, -, -, -, zc6, -, s1, -, s3, -⟩ := HBX.out _ (gW5.trans g6)
          have gw6 := gw5.trans g6
          have gW6 := gW5.trans g6
          cases b6
          rotate_left
          · go_wp2_with fail
            go_ret
            exact RetB.no gw6
          have two : IntKind.i64.wrap (len - over) = len - over := IntWalk.i64_in _ (by omega)
          go_wp2_with fail
          clear s1 s3
          go_loopw [11, 12] (fun x y w7 => ∃ (r : Int) (k : Nat), x = .int .i64 r ∧ y = .int .i64 ((k : Int) - 1) ∧ k ≤ T.length ∧ -(4000 * ((T.length : Int) - k)) ≤ r ∧ r ≤ 4000 + 4000 * ((T.length : Int) - k) ∧ Gr wc w7) (fun _ y _ => (intOf y + 1).toNat)
          case atStart => exact ⟨_, T.length, rfl, congrArg (Value.int .i64) (by omega), Nat.le_refl _, by omega, by omega, Gr.refl _⟩
          case round =>
            clear j0 j1 tj tn two
            obtain ⟨r, k, rfl, rfl, hk, hr0, hr1, g7⟩ := hrel
            have gw7 := gw6.trans g7
            have gW7 := gW6.trans g7
            by_cases hk0 : 0 < k
            · have j0 : (0 : Int) ≤ (k : Int) - 1 := by omega
              have j1 : (k : Int) - 1 < (T.length : Int) := by omega
              have tn : ((k : Int) - 1).toNat = k - 1 := by omega
              obtain ⟨b2, o2, hs2, z2, x0, -⟩ := (HT.out.gr gw7).at (k - 1) (by omega)
              simp only [Option.some.injEq, Addr.mk.injEq, and_true] at hs2
              obtain ⟨rfl, rfl⟩ := hs2
              obtain ⟨b3, o3, hs3, z3', x00, -⟩ := (HT.out.gr gw7).at 0 (by omega)
              simp only [Option.some.injEq, Addr.mk.injEq, and_true] at hs3
              obtain ⟨rfl, rfl⟩ := hs3
              rw [Nat.zero_mul, Nat.add_zero] at x00
              have HLK := Lib.hid (HLN.out T[k - 1].e)
              have hlk := HLB.out T[k - 1].e
              have HK0 := Lib.hid (HKD.out (T[0]'(by omega)).e)
              generalize lenP P T[k - 1].e = LK at HLK hlk
              generalize kindP P (T[0]'(by omega)).e = KK at HK0
              generalize T[k - 1].e = te at x0 HLK
              generalize (T[0]'(by omega)).e = t0e at x00 HK0
              obtain ⟨-, -, zb7, u0, u1, u2, u3, u4, u5, u6, u7, u8, zc7, s0, s1, s2, s3, s4⟩ := HBX.out _ gW7
              have hcb := fun (i : GrW _) (o : Nat) => GrW.cell zb7 i o
              have hcc := fun (i : GrW _) (o : Nat) => GrW.cell zc7 i o
              have hct := fun (i : GrW _) (o : Nat) => GrW.cell z2 i o
              go_wp2_with fail
              (refine wp_region_gr (by kernel_rfl) (by kernel_rfl) ?_; (repeat (go_big_quiet_step ((go_at_call 43; exact Calls.gr_of (HLK.out _ (gw7.trans (GrW.gr _))))))); refine wpQuiet_nil ?_; intro wz hz; obtain ⟨iz, hz⟩ := hz; obtain ⟨wn, gn⟩ := iz; dsimp only at hz; obtain rfl := hz.symm)
              obtain ⟨-, -, zb8, u0, u1, u2, u3, u4, u5, u6, u7, u8, zc8, s0, s1, s2, s3, s4⟩ := HBX.out _ (gW7.trans gn)
              have gw8 := gw7.trans gn
              have gl8 := g7.trans gn
              have x00 := (gn.cell _ _ z2).trans x00
              have z8 := Nat.lt_of_lt_of_le z2 gn.size
              have tT : IntKind.i64.wrap ((T.length : Int) - 1) = (T.length : Int) - 1 := IntWalk.i64_in _ (by omega)
              have tr : IntKind.i64.wrap (LK - left) = LK - left := IntWalk.i64_in _ (by omega)
              have tk2 : IntKind.i64.wrap ((k : Int) - 1 - 1) = (k : Int) - 1 - 1 := IntWalk.i64_in _ (by omega)
              clear hcb hcc hct x0 zb7 zc7
              by_cases kT : k = T.length
              · have tk : ((k : Int) - 1 == (T.length : Int) - 1) = true := beqT (by omega)
                clear kT
                by_cases k1 : k = 1
                · have tk1 : ((k : Int) - 1 == 0) = true := beqT (by omega)
                  clear k1
                  have tz : (0 : Int) < (T.length : Int) := (by omega)
                  go_upto_region 30 with (fail)
                  have hcb := fun (i : GrW _) (o : Nat) => GrW.cell zb8 i o
                  have hcc := fun (i : GrW _) (o : Nat) => GrW.cell zc8 i o
                  have hct := fun (i : GrW _) (o : Nat) => GrW.cell z8 i o
                  by_cases r1 : 1 ≤ r
                  · by_cases r2 : r ≤ (LK - left)
                    · (refine wp_region_gr (by kernel_rfl) (by kernel_rfl) ?_; (repeat (go_big_quiet_step (fail))); refine wpQuiet_nil ?_; intro wz hz; obtain ⟨iz, hz⟩ := hz; obtain ⟨wn, gn⟩ := iz; dsimp only at hz; obtain rfl := hz.symm)
                      (go_wp2_with fail; go_ret; exact RetB.any (fun _ => HQ.out hne (by omega)) (gw8.trans gn))
                    · have tr2 : ¬ r ≤ (LK - left) := r2
                      (refine wp_region_gr (by kernel_rfl) (by kernel_rfl) ?_; (repeat (go_big_quiet_step ((go_at_call 41; exact Calls.gr_of (HK0.out _ (gw8.trans (GrW.gr _))))))); refine wpQuiet_nil ?_; intro wz hz; obtain ⟨iz, hz⟩ := hz; obtain ⟨wn, gn⟩ := iz; dsimp only at hz; obtain rfl := hz.symm)
                      (go_wp2_with fail; go_ret; exact RetB.any (fun _ => HQ.out hne (by omega)) (gw8.trans gn))
                  · have tr1 : ¬ 1 ≤ r := r1
                    (refine wp_region_gr (by kernel_rfl) (by kernel_rfl) ?_; (repeat (go_big_quiet_step (fail))); refine wpQuiet_nil ?_; intro wz hz; obtain ⟨iz, hz⟩ := hz; obtain ⟨wn, gn⟩ := iz; dsimp only at hz; obtain rfl := hz.symm)
                    (go_wp2_with fail; go_ret; exact RetB.any (fun _ => HQ.out hne (by omega)) (gw8.trans gn))
                · have tk1 : ((k : Int) - 1 == 0) = false := beqF (by omega)
                  clear k1
                  have tw : IntKind.i64.wrap (r - (LK - left)) = r - (LK - left) := IntWalk.i64_in _ (by omega)
                  go_wp2_with fail
                  go_roundw
                  case rel => exact ⟨_, k - 1, rfl, congrArg (Value.int .i64) (by omega), by omega, by omega, by omega, gl8⟩
                  case measure => simp [intOf]; omega
              · have tk : ((k : Int) - 1 == (T.length : Int) - 1) = false := beqF (by omega)
                clear kT
                by_cases k1 : k = 1
                · have tk1 : ((k : Int) - 1 == 0) = true := beqT (by omega)
                  clear k1
                  have tz : (0 : Int) < (T.length : Int) := (by omega)
                  go_upto_region 30 with (fail)
                  have hcb := fun (i : GrW _) (o : Nat) => GrW.cell zb8 i o
                  have hcc := fun (i : GrW _) (o : Nat) => GrW.cell zc8 i o
                  have hct := fun (i : GrW _) (o : Nat) => GrW.cell z8 i o
                  by_cases r1 : 1 ≤ r
                  · by_cases r2 : r ≤ LK
                    · (refine wp_region_gr (by kernel_rfl) (by kernel_rfl) ?_; (repeat (go_big_quiet_step (fail))); refine wpQuiet_nil ?_; intro wz hz; obtain ⟨iz, hz⟩ := hz; obtain ⟨wn, gn⟩ := iz; dsimp only at hz; obtain rfl := hz.symm)
                      (go_wp2_with fail; go_ret; exact RetB.any (fun _ => HQ.out hne (by omega)) (gw8.trans gn))
                    · have tr2 : ¬ r ≤ LK := r2
                      (refine wp_region_gr (by kernel_rfl) (by kernel_rfl) ?_; (repeat (go_big_quiet_step ((go_at_call 41; exact Calls.gr_of (HK0.out _ (gw8.trans (GrW.gr _))))))); refine wpQuiet_nil ?_; intro wz hz; obtain ⟨iz, hz⟩ := hz; obtain ⟨wn, gn⟩ := iz; dsimp only at hz; obtain rfl := hz.symm)
                      (go_wp2_with fail; go_ret; exact RetB.any (fun _ => HQ.out hne (by omega)) (gw8.trans gn))
                  · have tr1 : ¬ 1 ≤ r := r1
                    (refine wp_region_gr (by kernel_rfl) (by kernel_rfl) ?_; (repeat (go_big_quiet_step (fail))); refine wpQuiet_nil ?_; intro wz hz; obtain ⟨iz, hz⟩ := hz; obtain ⟨wn, gn⟩ := iz; dsimp only at hz; obtain rfl := hz.symm)
                    (go_wp2_with fail; go_ret; exact RetB.any (fun _ => HQ.out hne (by omega)) (gw8.trans gn))
                · have tk1 : ((k : Int) - 1 == 0) = false := beqF (by omega)
                  clear k1
                  have tw : IntKind.i64.wrap (r - LK) = r - LK := IntWalk.i64_in _ (by omega)
                  go_wp2_with fail
                  go_roundw
                  case rel => exact ⟨_, k - 1, rfl, congrArg (Value.int .i64) (by omega), by omega, by omega, by omega, gl8⟩
                  case measure => simp [intOf]; omega
            · have j0 : ¬ (0 : Int) ≤ (k : Int) - 1 := by omega
              go_wp2_with fail
              go_ret
              exact RetB.no gw7
theorem mayBody_any (pv bv : Value) (P : Pln) (B : Bdy) (len : Int) (w : World) (hP : IsPln w pv P) (hf : chk P = 0) (hB : IsBdy w bv B) (hn : B.trail.length ≤ 5000) :
    Calls Tryz.prog 14 #[pv, .int .i64 len, bv] w (RetB (BdyOk B) w) := by
  by_cases h2 : B.mode = 2
  · exact mayBody_b pv bv P B len w hP hf hB hn h2
  by_cases h4 : B.mode = 4
  · exact mayBody_c pv bv P B len w hP hf hB hn h4
  exact mayBody_a pv bv P B len w hP hf hB hn (fun h => h.elim h2 h4)
end Go.Proofs.YtaanepadgoefhaaGreatDoor
