/- New1: net.New.
Mad: semaphorelaw4.Made.
Sml: Small: the plan that every group's known builds.
Net1: the net's small methods.
Net2: the net's Next; walk.lies; lamp.Passes.
Net3: the net's Outs.
Net4: the net's Through. -/
import Derived.Test.YtgjnlgcdpbilfaaDoorRows
import Derived.Test.YtgjnlgcdpbilfaaDoorB6
import Derived.Test.YtgjnlgcdpbilfaaDoorB8
import Derived.Deep.RegionWith
import Derived.Deep.Cut
import Derived.Deep.CutRange
import Derived.Deep.DrawnRows
import Derived.BigRegion
import Derived.Test.YtgjnlgcdpbilfaaDoorB1
namespace Go.Proofs.YtgjnlgcdpbilfaaDoor
open Go.ChangeShapes Go.WideShapes Go.ChangeAt Go.RowKit Go.Maps
set_option linter.unusedVariables false
set_option linter.unusedSimpArgs false
attribute [local go_sem ↓] Go.wp_at_zero Go.wp_at_succ
def RetNew (P : Pln) (w : World) (e : Ending) (w' : World) : Prop :=
  Gr w w' ∧ ((chk P = 0 ∧ ∃ b, e = .returned (.tuple #[.pointer (some ⟨b, 0, none⟩), .int .i64 0]) ∧ NetIs w' b P) ∨ (chk P ≠ 0 ∧ e = .returned (.tuple #[.pointer none, .int .i64 (chk P)])))
set_option maxRecDepth 100000 in
set_option maxHeartbeats 4000000 in
theorem new_any (v : Value) (P : Pln) (w : World) (hP : IsPln w v P) (hk : PlnOk P) (hf : fewB P = true) :
    Calls Tryd.prog 21 #[v] w (RetNew P w) := by
  have hbd := few_bd hf
  have HCK := Lib.hid (fun (v' : Value) (w' : World) (h : IsPln w' v' P) => check_any v' P w' h hk (by have := few_flat hf; omega))
  have HTW := Lib.hid (fun (v' : Value) (w' : World) (h : IsPln w' v' P) => twin_any v' P w' h (by omega) (fun l hl => by have := (hbd.2.2.2.2.1 l hl).1; omega))
  have HPI := Lib.hid hP
  obtain ⟨a1, c1, a2, c2, a3, c3, a4, c4, rfl, h1, h2, h3, h4⟩ := hP
  have H2 := Lib.hid h2
  have H3 := Lib.hid h3
  have H4 := Lib.hid h4
  have HB := Lib.hid (bxW_box w P (.slice a1 P.es.length c1) (.slice a2 P.js.length c2) (.slice a3 P.ss.length c3) (.slice a4 P.ls.length c4))
  have hw0 := bxW_gr w P (.slice a1 P.es.length c1) (.slice a2 P.js.length c2) (.slice a3 P.ss.length c3) (.slice a4 P.ls.length c4)
  clear h1 h2 h3 h4
  unfold plnV at HPI ⊢
  go_enter Tryd.func21, Tryd.ntmps21
  go_upto_region 2 with (first | (go_at_call 44; (with_reducible refine (HCK.out _ _ (HPI.out.gr ((Gr.refl w).alloc _))).mono ?_); rintro e w1 ⟨rfl, g1⟩) | fail)
  have gw1 : Gr w w1 := hw0.trans g1
  have hb1 := HB.out.gr g1
  obtain ⟨zb1, d0, d1, d2, d3, d4, d5, d6, d7, d8⟩ := hb1
  generalize hck : chk P = ck at *
  by_cases h0 : ck = 0
  · subst h0
    go_upto_region 4 with (fail)
    have um1 := Tryd.underlying94
    have um2 := Tryd.underlying95
    have um3 := Tryd.underlying96
    have um4 := Tryd.underlying97
    go_upto_region 5 with (first | (go_at_call 45; (with_reducible refine (HTW.out _ _ (HPI.out.gr gw1)).mono ?_); rintro e w2 ⟨v', rfl, hv2, g2⟩; obtain ⟨p1, q1, p2, q2, p3, q3, p4, q4, rfl, -⟩ := id hv2; unfold plnV; obtain ⟨wa, wb, wc, wd, m1, m2, m3, m4, hsd, gd, hm1, hm2, hm3, hm4⟩ := four_maps w2) | fail)
    have HN0 := NetW.start (P := P) (v1 := .slice p1 P.es.length q1) (v2 := .slice p2 P.js.length q2) (v3 := .slice p3 P.ss.length q3) (v4 := .slice p4 P.ls.length q4) hsd gd hm1 hm2 hm3 hm4
    have gx := HN0.gr
    generalize hwx : wd.alloc (.cells #[.slice p1 P.es.length q1, .slice p2 P.js.length q2, .slice p3 P.ss.length q3, .slice p4 P.ls.length q4, .int .i64 P.top, .int .i64 P.brake, .int .i64 P.margin, .int .i64 P.throw, .bool P.hard, .map (some w2.heap.size), .map (some (w2.heap.size + 1)), .map (some (w2.heap.size + 2)), .map (some (w2.heap.size + 3))] 99) = wx at *
    have HBW := Lib.hid (fun (w' : World) (g : Gr w2 w') => HB.out.gr ((g1.trans g2).trans g))
    have HGW := Lib.hid (fun (w' : World) (g : Gr w2 w') => (gw1.trans g2).trans g)
    have hz2 : w.heap.size < w2.heap.size := Nat.lt_of_lt_of_le zb1 g2.size
    have HV2 := Lib.hid hv2
    have HKJ := Lib.hid hk.js
    have HKS := Lib.hid hk.ss
    clear hwx hm1 hm2 hm3 hm4 m1 m2 m3 m4 hsd gd hv2 zb1 d0 d1 d2 d3 d4 d5 d6 d7 d8 HTW
    obtain ⟨zb, b0, b1, b2, b3, b4, b5, b6, b7, b8⟩ := HBW.out _ gx
    go_wp2_with fail
    clear zb b0 b1 b2 b3 b4 b5 b6 b7 b8
    have HN := Lib.hid HN0
    clear HN0 gx
    go_loopw [33] (fun i wr => ∃ (k n : Nat) (f : Value → Option Value), i = .int .i64 k ∧ k ≤ P.js.length ∧ n ≤ 2 * k ∧ Hid (NetW w2 P (.slice p1 P.es.length q1) (.slice p2 P.js.length q2) (.slice p3 P.ss.length q3) (.slice p4 P.ls.length q4) n f 0 (fun _ => none) 0 (fun _ => none) 0 (fun _ => none) wr) ∧ Hid (FnL (P.js.take k) f)) (fun i _ => P.js.length - (intOf i).toNat)
    case atStart => exact ⟨0, 0, _, rfl, Nat.zero_le _, Nat.zero_le _, HN, FnL.nil⟩
    case round =>
      obtain ⟨k, n, f, rfl, hkl, hnk, HNW, HF⟩ := hrel
      have hb := HBW.out _ HNW.out.gr
      obtain ⟨zb, b0, b1, b2, b3, b4, b5, b6, b7, b8⟩ := hb
      have hj2 := H2.out.gr (HGW.out _ HNW.out.gr)
      by_cases hlt : k < P.js.length
      · have hk1 : (k : Int) < (P.js.length : Int) := by omega
        obtain ⟨b, o, hsome, zs, y0, y1, y2, y3⟩ := hj2.at k hlt
        subst hsome
        have HR1 := Lib.hid (net_round1 hck k hlt HF.out)
        have HKJk := HKJ.out _ (List.getElem_mem hlt)
        obtain ⟨q, hq⟩ : ∃ q, q = P.js[k] := ⟨_, rfl⟩
        rw [← hq] at y0 y1 y2 y3 HR1 HKJk
        clear hq
        obtain ⟨⟨ae, ax⟩, ⟨be, bx⟩⟩ := q
        dsimp only at y0 y1 y2 y3 HR1 HKJk
        go_upto_region 8 with (fail)
        have hpa : PrtOk ⟨ae, ax⟩ := ⟨HKJk.1, HKJk.2.1⟩
        have hpb : PrtOk ⟨be, bx⟩ := ⟨HKJk.2.2.1, HKJk.2.2.2⟩
        obtain ⟨ka, hka⟩ := prt_key ⟨ae, ax⟩ hpa.1 hpa.2
        obtain ⟨kb, hkb⟩ := prt_key ⟨be, bx⟩ hpb.1 hpb.2
        have hzr := HNW.out.net.1
        have x0 : (wr.alloc (.cells #[.int .i64 ae, .int .i64 ax, .int .i64 be, .int .i64 bx] 74)).cell? ⟨wr.heap.size, 0, none⟩ = some (.int .i64 ae) := by rw [World.cell?_alloc_mark]; rfl
        have x1 : (wr.alloc (.cells #[.int .i64 ae, .int .i64 ax, .int .i64 be, .int .i64 bx] 74)).cell? ⟨wr.heap.size, 1, none⟩ = some (.int .i64 ax) := by rw [World.cell?_alloc_mark]; rfl
        have x2 : (wr.alloc (.cells #[.int .i64 ae, .int .i64 ax, .int .i64 be, .int .i64 bx] 74)).cell? ⟨wr.heap.size, 2, none⟩ = some (.int .i64 be) := by rw [World.cell?_alloc_mark]; rfl
        have x3 : (wr.alloc (.cells #[.int .i64 ae, .int .i64 ax, .int .i64 be, .int .i64 bx] 74)).cell? ⟨wr.heap.size, 3, none⟩ = some (.int .i64 bx) := by rw [World.cell?_alloc_mark]; rfl
        have hzy : wr.heap.size < (wr.alloc (.cells #[.int .i64 ae, .int .i64 ax, .int .i64 be, .int .i64 bx] 74)).heap.size := by simp
        have NY := HNW.out.grow ((Gr.refl wr).alloc (.cells #[.int .i64 ae, .int .i64 ax, .int .i64 be, .int .i64 bx] 74))
        generalize wr.alloc (.cells #[.int .i64 ae, .int .i64 ax, .int .i64 be, .int .i64 bx] 74) = wy at x0 x1 x2 x3 hzy NY ⊢
        generalize hbb : wr.heap.size = bb at x0 x1 x2 x3 hzy hzr ⊢
        have hne : bb ≠ w2.heap.size := by omega
        have hz4 := NY.net.1
        have hne4 : w2.heap.size + 4 ≠ w2.heap.size := by omega
        have NY := NY.grow ((Gr.refl wy).drew)
        obtain ⟨e1, s1, w01, r1, gr1, -, -, st1⟩ := NY.nx.entry prt_keyed Tryd.underlying94 (by unfold maxLen; omega) prt_zeroA hka
        obtain ⟨w10, r2, mp1, gr2⟩ := st1 (.agg #[.int .i64 be, .int .i64 bx])
        have N1 := NY.put1 mp1 gr2
        obtain ⟨e2, s2, w11, r3, gr3, -, -, st2⟩ := N1.nx.entry prt_keyed Tryd.underlying94 (by unfold maxLen; omega) prt_zeroA hkb
        obtain ⟨w20, r4, mp2, gr4⟩ := st2 (.agg #[.int .i64 ae, .int .i64 ax])
        have N2 := Lib.hid (N1.put1 mp2 gr4)
        have z10 := Nat.lt_of_lt_of_le hzy gr2.size
        have z104 := Nat.lt_of_lt_of_le hz4 gr2.size
        have cy := NY.c9
        have c01 := (gb_cell (o := 9) gr1 hz4 hne4).trans cy
        have c10 := (gb_cell (o := 9) gr2 hz4 hne4).trans cy
        have c11 := (gb_cell (o := 9) gr3 z104 hne4).trans c10
        have x001 := (gb_cell (o := 0) gr1 hzy hne).trans x0
        have x101 := (gb_cell (o := 1) gr1 hzy hne).trans x1
        have x201 := (gb_cell (o := 2) gr1 hzy hne).trans x2
        have x301 := (gb_cell (o := 3) gr1 hzy hne).trans x3
        have x010 := (gb_cell (o := 0) gr2 hzy hne).trans x0
        have x110 := (gb_cell (o := 1) gr2 hzy hne).trans x1
        have x210 := (gb_cell (o := 2) gr2 hzy hne).trans x2
        have x310 := (gb_cell (o := 3) gr2 hzy hne).trans x3
        have x011 := (gb_cell (o := 0) gr3 z10 hne).trans x010
        have x111 := (gb_cell (o := 1) gr3 z10 hne).trans x110
        have x211 := (gb_cell (o := 2) gr3 z10 hne).trans x210
        have x311 := (gb_cell (o := 3) gr3 z10 hne).trans x310
        unfold Prt.v at r1 r3
        dsimp only at r1 r3
        have HF' := Lib.hid HR1.out
        clear st1 st2 mp1 mp2 N1 gr1 gr2 gr3 gr4 NY
        go_region
        all_goals
          go_wp2_with fail
          go_roundw
          case rel => exact ⟨k + 1, n + 1 + 1, _, by go_num, hlt, by omega, N2, HR1⟩
          case measure => simp [intOf]; omega
      · have hk1 : ¬ (k : Int) < (P.js.length : Int) := by omega
        have ekl : k = P.js.length := by omega
        have HF1 : Hid (FnL P.js f) := by have := HF.out; rwa [ekl, List.take_length] at this
        clear HF
        have hn1 : n ≤ 1000 := by omega
        clear hj2
        go_wp2_with fail
        clear zb b0 b1 b2 b3 b4 b5 b6 b7 b8
        go_loopw [61] (fun i wr => ∃ (k2 n2 : Nat) (f2 : Value → Option Value), i = .int .i64 k2 ∧ k2 ≤ P.ss.length ∧ n2 ≤ k2 ∧ Hid (NetW w2 P (.slice p1 P.es.length q1) (.slice p2 P.js.length q2) (.slice p3 P.ss.length q3) (.slice p4 P.ls.length q4) n f n2 f2 0 (fun _ => none) 0 (fun _ => none) wr) ∧ Hid (FnR (P.ss.take k2) f2)) (fun i _ => P.ss.length - (intOf i).toNat)
        case atStart => exact ⟨0, 0, _, rfl, Nat.zero_le _, Nat.zero_le _, HNW, FnR.nil⟩
        case round =>
        clear HNW hk1 hlt hkl hnk ekl
        obtain ⟨k2, n2, f2, rfl, hkl, hnk, HNW, HF⟩ := hrel
        have hb := HBW.out _ HNW.out.gr
        obtain ⟨zb, b0, b1, b2, b3, b4, b5, b6, b7, b8⟩ := hb
        have hj3 := H3.out.gr (HGW.out _ HNW.out.gr)
        by_cases hlt : k2 < P.ss.length
        · have hk2 : (k2 : Int) < (P.ss.length : Int) := by omega
          obtain ⟨b, o, hsome, zs, y0, y1, y2, y3⟩ := hj3.at k2 hlt
          subst hsome
          have HR1 := Lib.hid (net_round2 hck k2 hlt HF.out)
          have HKSk := HKS.out _ (List.getElem_mem hlt)
          obtain ⟨q, hq⟩ : ∃ q, q = P.ss[k2] := ⟨_, rfl⟩
          rw [← hq] at y0 y1 y2 y3 HR1 HKSk
          clear hq
          obtain ⟨nm, ⟨ae, ax⟩, au⟩ := q
          dsimp only at y0 y1 y2 y3 HR1 HKSk
          go_upto_region 13 with (fail)
          have hpa : PrtOk ⟨ae, ax⟩ := ⟨HKSk.1, HKSk.2.1⟩
          obtain ⟨ka, hka⟩ := prt_key ⟨ae, ax⟩ hpa.1 hpa.2
          have hzr := HNW.out.net.1
          have x1 : (wr.alloc (.cells #[.string nm, .int .i64 ae, .int .i64 ax, .bool au] 77)).cell? ⟨wr.heap.size, 1, none⟩ = some (.int .i64 ae) := by rw [World.cell?_alloc_mark]; rfl
          have x2 : (wr.alloc (.cells #[.string nm, .int .i64 ae, .int .i64 ax, .bool au] 77)).cell? ⟨wr.heap.size, 2, none⟩ = some (.int .i64 ax) := by rw [World.cell?_alloc_mark]; rfl
          have hzy : wr.heap.size < (wr.alloc (.cells #[.string nm, .int .i64 ae, .int .i64 ax, .bool au] 77)).heap.size := by simp
          have NY := HNW.out.grow ((Gr.refl wr).alloc (.cells #[.string nm, .int .i64 ae, .int .i64 ax, .bool au] 77))
          generalize wr.alloc (.cells #[.string nm, .int .i64 ae, .int .i64 ax, .bool au] 77) = wy at x1 x2 hzy NY ⊢
          generalize hbb : wr.heap.size = bb at x1 x2 hzy hzr ⊢
          have hz4 := NY.net.1
          have NY := NY.grow ((Gr.refl wy).drew)
          obtain ⟨w10, r2, mp1, gr2⟩ := NY.rd.update prt_keyed Tryd.underlying95 (by unfold maxLen; omega) hka (val := .int .i64 k2)
          have N2 := Lib.hid (NY.put2 mp1 gr2)
          have cy := NY.c10
          unfold Prt.v at r2
          dsimp only at r2
          clear mp1 gr2 NY
          go_region
          all_goals
            go_wp2_with fail
            go_roundw
            case rel => exact ⟨k2 + 1, n2 + 1, _, by go_num, hlt, by omega, N2, HR1⟩
            case measure => simp [intOf]; omega
        · have hk2 : ¬ (k2 : Int) < (P.ss.length : Int) := by omega
          have ekl : k2 = P.ss.length := by omega
          have HF2 : Hid (FnR P.ss f2) := by have := HF.out; rwa [ekl, List.take_length] at this
          clear HF
          have hn2 : n2 ≤ 1000 := by omega
          clear hj3
          go_wp2_with fail
          clear zb b0 b1 b2 b3 b4 b5 b6 b7 b8
          go_loopw [77] (fun i wr => ∃ (k3 n3 : Nat) (f3 : Value → Option Value) (n4 : Nat) (f4 : Value → Option Value), i = .int .i64 k3 ∧ k3 ≤ P.ls.length ∧ n3 ≤ 1000 * k3 ∧ n4 ≤ 1000 * k3 ∧ Hid (NetW w2 P (.slice p1 P.es.length q1) (.slice p2 P.js.length q2) (.slice p3 P.ss.length q3) (.slice p4 P.ls.length q4) n f n2 f2 n3 f3 n4 f4 wr)) (fun i _ => P.ls.length - (intOf i).toNat)
          case atStart => exact ⟨0, 0, _, 0, _, rfl, Nat.zero_le _, Nat.zero_le _, Nat.zero_le _, HNW⟩
          case round =>
          clear HNW hk2 hlt hkl hnk ekl
          obtain ⟨k3, n3, f3, n4, f4, rfl, hkl, hn3, hn4, HNW⟩ := hrel
          have hb := HBW.out _ HNW.out.gr
          obtain ⟨zb, b0, b1, b2, b3, b4, b5, b6, b7, b8⟩ := hb
          by_cases hlt : k3 < P.ls.length
          · have hk3 : (k3 : Int) < (P.ls.length : Int) := by omega
            obtain ⟨b, o, u, hsome, zs, y0, y1, hu⟩ := H4.out.at k3 hlt
            subst hsome
            have gwr := HGW.out _ HNW.out.gr
            replace y0 := (gwr.cell _ _ zs).trans y0
            replace y1 := (gwr.cell _ _ zs).trans y1
            replace zs := Nat.lt_of_lt_of_le zs gwr.size
            have hel : P.ls[k3].es.length ≤ 60 := (hbd.2.2.2.2.1 _ (List.getElem_mem hlt)).1
            have hei := (hk.ls _ (List.getElem_mem hlt)).2
            obtain ⟨q, hq⟩ : ∃ q, q = P.ls[k3] := ⟨_, rfl⟩
            rw [← hq] at y0 hu hel hei
            clear hq
            obtain ⟨nm, L⟩ := q
            dsimp only at y0 hu hel hei
            have HU := Lib.hid hu
            obtain ⟨au, cu, rfl, -⟩ := hu
            rw [List.length_map] at HU y1
            go_upto_region 18 with (fail)
            have hzr := HNW.out.net.1
            have x1 : (wr.alloc (.cells #[.string nm, .slice au L.length cu] 85)).cell? ⟨wr.heap.size, 1, none⟩ = some (.slice au L.length cu) := by rw [World.cell?_alloc_mark]; rfl
            have hzy : wr.heap.size < (wr.alloc (.cells #[.string nm, .slice au L.length cu] 85)).heap.size := by simp
            have NY := HNW.out.grow ((Gr.refl wr).alloc (.cells #[.string nm, .slice au L.length cu] 85))
            generalize wr.alloc (.cells #[.string nm, .slice au L.length cu] 85) = wy at x1 hzy NY ⊢
            have HUY := Lib.hid (HU.out.gr (HGW.out _ NY.gr))
            generalize hbb : wr.heap.size = bb at x1 hzy hzr ⊢
            go_upto_if 85 with (fail)
            go_cut [12] from 86 to 108 (fun i wc => ∃ z : Int, i = .int .i64 z ∧ Gr wy wc)
            case first =>
              by_cases h1 : 1 < L.length
              · have h1' : (1 : Int) < (L.length : Int) := by omega
                obtain ⟨be, oe, hau, zbe, e0⟩ := ints_at HUY.out 0 (by omega)
                obtain ⟨be', oe', hau', -, e1⟩ := ints_at HUY.out 1 h1
                subst hau
                simp only [Option.some.injEq, Addr.mk.injEq, and_true] at hau'
                obtain ⟨rfl, rfl⟩ := hau'
                rw [Nat.add_zero] at e0
                have cy := NY.c9
                have ny := NY.net.1
                have hpk : PrtOk ⟨L[0], 0⟩ := ⟨hei _ (List.getElem_mem _), by show (Lit.int .i64 0).wf = true; rfl⟩
                cases hnx : nextL P.js ⟨L[0], 0⟩ with
                | none =>
                  have l1 := next_look_none (NY.nx.gr ((Gr.refl wy).drew)) HF1.out hpk hnx
                  have l2 := next_look_none (NY.nx.gr (((Gr.refl wy).alloc (.cells #[.int .i64 0, .int .i64 0] 50)).drew)) HF1.out hpk hnx
                  dsimp only at l1 l2
                  go_upto_region 20 with (fail)
                  go_region
                  all_goals
                    go_upto_region 21 with (fail)
                    go_region
                    all_goals
                      go_wp2_with fail
                      go_meet
                      case rel => exact ⟨0, rfl, (((Gr.refl wy).alloc _).drew).drew⟩
                | some y =>
                  obtain ⟨ye, yx⟩ := y
                  have l1 := next_look_some (NY.nx.gr ((Gr.refl wy).drew)) HF1.out hpk hnx
                  have l2 := next_look_some (NY.nx.gr (((Gr.refl wy).alloc (.cells #[.int .i64 0, .int .i64 0] 50)).drew)) HF1.out hpk hnx
                  dsimp only at l1 l2
                  by_cases hy : ye = L[1]
                  all_goals
                    go_upto_region 20 with (fail)
                    go_region
                    all_goals
                      go_upto_region 21 with (fail)
                      go_region
                      all_goals
                        go_wp2_with fail
                        go_meet
                        case rel => exact ⟨_, rfl, (((Gr.refl wy).alloc _).drew).drew⟩
              · have h1' : ¬ (1 : Int) < (L.length : Int) := by omega
                go_wp2_with fail
                go_meet
                case rel => exact ⟨0, rfl, Gr.refl _⟩
            case rest =>
              obtain ⟨z, rfl, gc⟩ := hcut
              have NC := Lib.hid (NY.grow gc)
              have xc1 := (gc.cell _ _ hzy).trans x1
              have zc := Nat.lt_of_lt_of_le hzy gc.size
              clear HUY x1 hzy
              go_wp2_with fail
              clear xc1 zc
              go_loopw [12, 112] (fun a i wt => ∃ (z : Int) (j n5 : Nat) (f5 : Value → Option Value) (n6 : Nat) (f6 : Value → Option Value), a = .int .i64 z ∧ i = .int .i64 j ∧ j ≤ L.length ∧ n5 ≤ 1000 * k3 + j ∧ n6 ≤ 1000 * k3 + j ∧ Hid (NetW w2 P (.slice p1 P.es.length q1) (.slice p2 P.js.length q2) (.slice p3 P.ss.length q3) (.slice p4 P.ls.length q4) n f n2 f2 n5 f5 n6 f6 wt)) (fun _ i _ => L.length - (intOf i).toNat)
              case atStart => exact ⟨z, 0, n3, f3, n4, f4, rfl, rfl, Nat.zero_le _, by omega, by omega, NC⟩
              case round =>
              clear NC NY HNW y0 y1
              obtain ⟨z, j, n5, f5, n6, f6, rfl, rfl, hjl, hn5, hn6, HNW⟩ := hrel
              by_cases hjt : j < L.length
              · have hj1 : (j : Int) < (L.length : Int) := by omega
                obtain ⟨be, oe, hau, zbe, e0⟩ := ints_at (HU.out.gr (HGW.out _ HNW.out.gr)) j hjt
                subst hau
                have hei1 := hei _ (List.getElem_mem hjt)
                generalize L[j] = ev at e0 hei1
                go_upto_region 26 with (fail)
                have NY := HNW.out.grow ((Gr.refl wr).drew)
                have hz4 := NY.net.1
                have hne2 : w2.heap.size + 4 ≠ w2.heap.size + 2 := by omega
                have hne3 : w2.heap.size + 4 ≠ w2.heap.size + 3 := by omega
                obtain ⟨ka, hka⟩ := int_lit ev hei1
                obtain ⟨v1', s1, w01, r1, gr1, -, -, st1⟩ := NY.ln.entry int_key Tryd.underlying96 (by unfold maxLen; omega) arr2_zero hka
                obtain ⟨w10, r2, mp1, gr2⟩ := st1 (.agg #[.int .i64 k3, .int .i64 j])
                have N1 := NY.put3 mp1 gr2
                have z104 := Nat.lt_of_lt_of_le hz4 gr2.size
                obtain ⟨v2', s2, w11, r3, gr3, -, -, st2⟩ := N1.ld.entry int_key Tryd.underlying97 (by unfold maxLen; omega) int_zero hka
                obtain ⟨w20, r4, mp2, gr4⟩ := st2 (.int .i64 z)
                have N2 := Lib.hid (N1.put4 mp2 gr4)
                have cy1 := NY.c11
                have cy2 := NY.c12
                have c011 := (gb_cell (o := 11) gr1 hz4 hne2).trans cy1
                have c012 := (gb_cell (o := 12) gr1 hz4 hne2).trans cy2
                have c101 := (gb_cell (o := 11) gr2 hz4 hne2).trans cy1
                have c102 := (gb_cell (o := 12) gr2 hz4 hne2).trans cy2
                have c111 := (gb_cell (o := 11) gr3 z104 hne3).trans c101
                have c112 := (gb_cell (o := 12) gr3 z104 hne3).trans c102
                have c209 := N2.out.c9
                have z20 := N2.out.net.1
                obtain ⟨ge, gy, r5⟩ := next_plain (x := ⟨ev, wrap64 (1 - z)⟩) N2.out.nx HF1.out ⟨hei1, by exact wrap64_wf _⟩
                dsimp only at r5
                have r6 := prt_field1 ge gy w20
                clear st1 st2 mp1 mp2 N1 gr1 gr2 gr3 gr4 NY
                go_region
                all_goals
                  go_wp2_with fail
                  go_roundw
                  case rel => exact ⟨gy, j + 1, n5 + 1, _, n6 + 1, _, rfl, by go_num, hjt, by omega, by omega, N2⟩
                  case measure => simp [intOf]; omega
              · have hj1 : ¬ (j : Int) < (L.length : Int) := by omega
                go_wp2_with fail
                go_roundw
                case rel => exact ⟨k3 + 1, n5, f5, n6, f6, by go_num, hlt, by omega, by omega, HNW⟩
                case measure => simp [intOf]; omega
          · have hk3 : ¬ (k3 : Int) < (P.ls.length : Int) := by omega
            go_wp2_with fail
            go_ret2
            refine ⟨HGW.out _ HNW.out.gr, .inl ⟨hck, _, rfl, HNW.out.isNet ?_ HF1.out HF2.out⟩⟩
            unfold plnV at HV2
            exact HV2.out
  · go_wp2_with fail
    go_ret2
    exact ⟨gw1, .inr ⟨by rw [hck]; exact h0, by rw [hck]; rfl⟩⟩
end Go.Proofs.YtgjnlgcdpbilfaaDoor
namespace Go.Proofs.YtgjnlgcdpbilfaaDoor
open Go.ChangeShapes Go.WideShapes Go.ChangeAt Go.RowKit Go.Maps
set_option linter.unusedVariables false
set_option linter.unusedSimpArgs false
def RetMade (P : Pln) (w : World) (e : Ending) (w' : World) : Prop :=
  Gr w w' ∧ ((fineB P = true ∧ ∃ b, e = .returned (.pointer (some ⟨b, 0, none⟩)) ∧ NetIs w' b P) ∨ (fineB P = false ∧ e = .returned (.pointer none)))
set_option maxRecDepth 100000 in
set_option maxHeartbeats 1000000 in
theorem made_any (v : Value) (P : Pln) (w : World) (hP : IsPln w v P) (hk : PlnOk P) :
    Calls Tryd.prog 8 #[v] w (RetMade P w) := by
  have HFI := Lib.hid (fun (v' : Value) (w' : World) (h : IsPln w' v' P) => fine_any v' P w' h hk)
  have HNE : Hid (fineB P = true → ∀ (v' : Value) (w' : World), IsPln w' v' P → Calls Tryd.prog 21 #[v'] w' fun e w'' => ∃ b, e = .returned (.tuple #[.pointer (some ⟨b, 0, none⟩), .int .i64 0]) ∧ NetIs w'' b P ∧ Gr w' w'') := fun hf v' w' h => by
    unfold fineB at hf
    simp only [Bool.and_eq_true, decide_eq_true_eq] at hf
    refine (new_any v' P w' h hk hf.1).mono ?_
    rintro e w2 ⟨g2, ⟨h0, b, rfl, hnet⟩ | ⟨h0, rfl⟩⟩
    · exact ⟨b, rfl, hnet, g2⟩
    · exact absurd hf.2 h0
  have HPI := Lib.hid hP
  obtain ⟨a1, c1, a2, c2, a3, c3, a4, c4, rfl, -⟩ := hP
  have HB := Lib.hid (bxW_box w P (.slice a1 P.es.length c1) (.slice a2 P.js.length c2) (.slice a3 P.ss.length c3) (.slice a4 P.ls.length c4))
  have hw0 := bxW_gr w P (.slice a1 P.es.length c1) (.slice a2 P.js.length c2) (.slice a3 P.ss.length c3) (.slice a4 P.ls.length c4)
  unfold plnV at HPI ⊢
  go_enter Tryd.func8, Tryd.ntmps8
  go_upto_if 7 with (first | (go_at_call 6; (with_reducible refine (HFI.out _ _ (HPI.out.gr ((Gr.refl w).alloc _))).mono ?_); rintro e w1 ⟨rfl, g1⟩) | fail)
  have gw1 : Gr w w1 := hw0.trans g1
  have hb1 := HB.out.gr g1
  obtain ⟨zb1, d0, d1, d2, d3, d4, d5, d6, d7, d8⟩ := hb1
  cases hfb : fineB P
  · go_wp2_with fail
    go_ret
    exact ⟨gw1, .inr ⟨hfb, rfl⟩⟩
  · go_wp2_with (first | (go_at_call 21; (with_reducible refine (HNE.out hfb _ _ (HPI.out.gr gw1)).mono ?_); rintro e w2 ⟨b, rfl, hnet, g2⟩) | fail)
    go_ret
    exact ⟨gw1.trans g2, .inl ⟨hfb, b, rfl, hnet⟩⟩
end Go.Proofs.YtgjnlgcdpbilfaaDoor
namespace Go.Proofs.YtgjnlgcdpbilfaaDoor
open Go.ChangeShapes Go.WideShapes Go.ChangeAt Go.RowKit Go.Maps
set_option linter.unusedVariables false
set_option linter.unusedSimpArgs false
def smallP : Pln where
  es := [⟨⟨#[87]⟩, 4, 0⟩, ⟨⟨#[65]⟩, 1, 20⟩, ⟨⟨#[80]⟩, 2, 10⟩, ⟨⟨#[66]⟩, 1, 20⟩, ⟨⟨#[67]⟩, 1, 30⟩, ⟨⟨#[69]⟩, 4, 0⟩]
  js := [⟨⟨0, 0⟩, ⟨1, 0⟩⟩, ⟨⟨1, 1⟩, ⟨2, 0⟩⟩, ⟨⟨2, 1⟩, ⟨3, 0⟩⟩, ⟨⟨3, 1⟩, ⟨5, 0⟩⟩, ⟨⟨2, 2⟩, ⟨4, 0⟩⟩]
  ss := [⟨⟨#[119]⟩, ⟨0, 0⟩, false⟩, ⟨⟨#[97]⟩, ⟨1, 1⟩, false⟩, ⟨⟨#[101]⟩, ⟨5, 0⟩, false⟩, ⟨⟨#[98]⟩, ⟨3, 0⟩, false⟩, ⟨⟨#[99]⟩, ⟨4, 0⟩, false⟩]
  ls := []
  top := 10
  brake := 5
  margin := 15
  throw := 2
  hard := false
theorem join_any (a x b y : Int) (w : World) :
    Calls Tryd.prog 30 #[.int .i64 a, .int .i64 x, .int .i64 b, .int .i64 y] w fun e w' => e = .returned (.agg #[.int .i64 a, .int .i64 x, .int .i64 b, .int .i64 y]) ∧ Gr w w' := by
  go_enter Tryd.func30, Tryd.ntmps30
  go_wp2_with fail
  refine bodyPost_ret (v := .agg #[.int .i64 a, .int .i64 x, .int .i64 b, .int .i64 y]) (by simp [results, Tryd.results30, go_sem]) rfl ⟨rfl, ?_⟩
  exact (Gr.refl _).alloc _
theorem IsRow.setc {w : World} {v : Value} {sz n b o : Nat} {C : Nat → Nat → Value} (h : IsRow w v sz n C) (hne : ∀ bq, v.ownBlock = some bq → bq ≠ b) (u : Value) : IsRow (w.setCell ⟨b, o, none⟩ u) v sz n C := by
  obtain ⟨a, c, rfl, hm, hx⟩ := h
  refine ⟨a, c, rfl, hm, ?_⟩
  rcases hx with hx | ⟨bb, off, rfl, hb, hc⟩
  · exact .inl hx
  · refine .inr ⟨bb, off, rfl, by simpa using hb, fun i j hi hj => ?_⟩
    have hn := hne bb rfl
    rw [World.cell?_setCell_other _ _ _ _ (by intro e; exact hn (by injection e with e1; exact e1.symm))]
    exact hc i j hi hj
theorem row_lit {w : World} {T : TypeId} {cs : Array Value} {sz n c g : Nat} {C : Nat → Nat → Value} (hg : g = w.heap.size) (hm : n ≤ maxLen) (h : ∀ i j, i < n → j < sz → cs[i * sz + j]? = some (C i j)) : IsRow (w.alloc (.cells cs T)) (.slice (some ⟨g, 0, none⟩) n c) sz n C := by
  subst hg
  refine ⟨_, c, rfl, hm, .inr ⟨w.heap.size, 0, rfl, by simp, fun i j hi hj => ?_⟩⟩
  rw [World.cell?_alloc_mark]
  simpa using h i j hi hj
theorem row_es : ∀ i j, i < 6 → j < 3 → (#[Value.string ⟨#[87]⟩, .int .i64 4, .int .i64 0, .string ⟨#[65]⟩, .int .i64 1, .int .i64 20, .string ⟨#[80]⟩, .int .i64 2, .int .i64 10, .string ⟨#[66]⟩, .int .i64 1, .int .i64 20, .string ⟨#[67]⟩, .int .i64 1, .int .i64 30, .string ⟨#[69]⟩, .int .i64 4, .int .i64 0] : Array Value)[i * 3 + j]? = some ((smallP.es.getD i default).c j) := by
  intro i j hi hj
  have h1 : i = 0 ∨ i = 1 ∨ i = 2 ∨ i = 3 ∨ i = 4 ∨ i = 5 := by omega
  have h2 : j = 0 ∨ j = 1 ∨ j = 2 := by omega
  rcases h1 with rfl | rfl | rfl | rfl | rfl | rfl <;> rcases h2 with rfl | rfl | rfl <;> rfl
theorem row_js : ∀ i j, i < 5 → j < 4 → (#[Value.int .i64 0, .int .i64 0, .int .i64 1, .int .i64 0, .int .i64 1, .int .i64 1, .int .i64 2, .int .i64 0, .int .i64 2, .int .i64 1, .int .i64 3, .int .i64 0, .int .i64 3, .int .i64 1, .int .i64 5, .int .i64 0, .int .i64 2, .int .i64 2, .int .i64 4, .int .i64 0] : Array Value)[i * 4 + j]? = some ((smallP.js.getD i default).c j) := by
  intro i j hi hj
  have h1 : i = 0 ∨ i = 1 ∨ i = 2 ∨ i = 3 ∨ i = 4 := by omega
  have h2 : j = 0 ∨ j = 1 ∨ j = 2 ∨ j = 3 := by omega
  rcases h1 with rfl | rfl | rfl | rfl | rfl <;> rcases h2 with rfl | rfl | rfl | rfl <;> rfl
theorem row_ss : ∀ i j, i < 5 → j < 4 → (#[Value.string ⟨#[119]⟩, .int .i64 0, .int .i64 0, .bool false, .string ⟨#[97]⟩, .int .i64 1, .int .i64 1, .bool false, .string ⟨#[101]⟩, .int .i64 5, .int .i64 0, .bool false, .string ⟨#[98]⟩, .int .i64 3, .int .i64 0, .bool false, .string ⟨#[99]⟩, .int .i64 4, .int .i64 0, .bool false] : Array Value)[i * 4 + j]? = some ((smallP.ss.getD i default).c j) := by
  intro i j hi hj
  have h1 : i = 0 ∨ i = 1 ∨ i = 2 ∨ i = 3 ∨ i = 4 := by omega
  have h2 : j = 0 ∨ j = 1 ∨ j = 2 ∨ j = 3 := by omega
  rcases h1 with rfl | rfl | rfl | rfl | rfl <;> rcases h2 with rfl | rfl | rfl | rfl <;> rfl
theorem wx_size (w5 : World) (b : Nat) (E J S : Value) : (((((((((((w5.setCell ⟨b + 1, 1, none⟩ J).setCell ⟨b + 1, 2, none⟩ S).setCell ⟨b, 0, none⟩ E).setCell ⟨b, 1, none⟩ J).setCell ⟨b, 2, none⟩ S).setCell ⟨b, 3, none⟩ (.slice none 0 0)).setCell ⟨b, 4, none⟩ (.int .i64 10)).setCell ⟨b, 5, none⟩ (.int .i64 5)).setCell ⟨b, 6, none⟩ (.int .i64 15)).setCell ⟨b, 7, none⟩ (.int .i64 2)).setCell ⟨b, 8, none⟩ (.bool false)).heap.size = w5.heap.size := by simp
set_option maxRecDepth 100000 in
set_option maxHeartbeats 2000000 in
theorem small_any (w : World) : Calls Tryd.prog 12 #[] w fun e w' => ∃ v, e = .returned v ∧ IsPln w' v smallP ∧ Gr w w' := by
  have hR : Gr w (((w.alloc (.cells #[.slice none 0 0, .slice none 0 0, .slice none 0 0, .slice none 0 0, .int .i64 0, .int .i64 0, .int .i64 0, .int .i64 0, .bool false] 27)).alloc (.cells #[.slice (some ⟨w.heap.size + 1 + 1, 0, none⟩) 6 6, .slice none 0 0, .slice none 0 0, .slice none 0 0, .int .i64 10, .int .i64 5, .int .i64 15, .int .i64 2, .bool false] 27)).alloc (.cells #[.string ⟨#[87]⟩, .int .i64 4, .int .i64 0, .string ⟨#[65]⟩, .int .i64 1, .int .i64 20, .string ⟨#[80]⟩, .int .i64 2, .int .i64 10, .string ⟨#[66]⟩, .int .i64 1, .int .i64 20, .string ⟨#[67]⟩, .int .i64 1, .int .i64 30, .string ⟨#[69]⟩, .int .i64 4, .int .i64 0] 72)) := (((Gr.refl w).alloc _).alloc _).alloc _
  have HSC : Hid (∀ w', Gr (((w.alloc (.cells #[.slice none 0 0, .slice none 0 0, .slice none 0 0, .slice none 0 0, .int .i64 0, .int .i64 0, .int .i64 0, .int .i64 0, .bool false] 27)).alloc (.cells #[.slice (some ⟨w.heap.size + 1 + 1, 0, none⟩) 6 6, .slice none 0 0, .slice none 0 0, .slice none 0 0, .int .i64 10, .int .i64 5, .int .i64 15, .int .i64 2, .bool false] 27)).alloc (.cells #[.string ⟨#[87]⟩, .int .i64 4, .int .i64 0, .string ⟨#[65]⟩, .int .i64 1, .int .i64 20, .string ⟨#[80]⟩, .int .i64 2, .int .i64 10, .string ⟨#[66]⟩, .int .i64 1, .int .i64 20, .string ⟨#[67]⟩, .int .i64 1, .int .i64 30, .string ⟨#[69]⟩, .int .i64 4, .int .i64 0] 72)) w' → w.heap.size + 1 + 1 < w'.heap.size ∧ w'.cell? ⟨w.heap.size, 0, none⟩ = some (Value.slice none 0 0) ∧ w'.cell? ⟨w.heap.size, 1, none⟩ = some (Value.slice none 0 0) ∧ w'.cell? ⟨w.heap.size, 2, none⟩ = some (Value.slice none 0 0) ∧ w'.cell? ⟨w.heap.size, 3, none⟩ = some (Value.slice none 0 0) ∧ w'.cell? ⟨w.heap.size, 4, none⟩ = some (Value.int .i64 0) ∧ w'.cell? ⟨w.heap.size, 5, none⟩ = some (Value.int .i64 0) ∧ w'.cell? ⟨w.heap.size, 6, none⟩ = some (Value.int .i64 0) ∧ w'.cell? ⟨w.heap.size, 7, none⟩ = some (Value.int .i64 0) ∧ w'.cell? ⟨w.heap.size, 8, none⟩ = some (Value.bool false) ∧ w'.cell? ⟨w.heap.size + 1, 0, none⟩ = some (Value.slice (some ⟨w.heap.size + 1 + 1, 0, none⟩) 6 6) ∧ w'.cell? ⟨w.heap.size + 1, 1, none⟩ = some (Value.slice none 0 0) ∧ w'.cell? ⟨w.heap.size + 1, 2, none⟩ = some (Value.slice none 0 0) ∧ w'.cell? ⟨w.heap.size + 1, 3, none⟩ = some (Value.slice none 0 0) ∧ w'.cell? ⟨w.heap.size + 1, 4, none⟩ = some (Value.int .i64 10) ∧ w'.cell? ⟨w.heap.size + 1, 5, none⟩ = some (Value.int .i64 5) ∧ w'.cell? ⟨w.heap.size + 1, 6, none⟩ = some (Value.int .i64 15) ∧ w'.cell? ⟨w.heap.size + 1, 7, none⟩ = some (Value.int .i64 2) ∧ w'.cell? ⟨w.heap.size + 1, 8, none⟩ = some (Value.bool false) ∧ w'.frozen? ⟨w.heap.size, 0, none⟩ = false ∧ w'.frozen? ⟨w.heap.size, 1, none⟩ = false ∧ w'.frozen? ⟨w.heap.size, 2, none⟩ = false ∧ w'.frozen? ⟨w.heap.size, 3, none⟩ = false ∧ w'.frozen? ⟨w.heap.size, 4, none⟩ = false ∧ w'.frozen? ⟨w.heap.size, 5, none⟩ = false ∧ w'.frozen? ⟨w.heap.size, 6, none⟩ = false ∧ w'.frozen? ⟨w.heap.size, 7, none⟩ = false ∧ w'.frozen? ⟨w.heap.size, 8, none⟩ = false ∧ w'.frozen? ⟨w.heap.size + 1, 1, none⟩ = false ∧ w'.frozen? ⟨w.heap.size + 1, 2, none⟩ = false) := by
    intro w' g
    have hz : w.heap.size + 1 + 1 < ((((w.alloc (.cells #[.slice none 0 0, .slice none 0 0, .slice none 0 0, .slice none 0 0, .int .i64 0, .int .i64 0, .int .i64 0, .int .i64 0, .bool false] 27)).alloc (.cells #[.slice (some ⟨w.heap.size + 1 + 1, 0, none⟩) 6 6, .slice none 0 0, .slice none 0 0, .slice none 0 0, .int .i64 10, .int .i64 5, .int .i64 15, .int .i64 2, .bool false] 27)).alloc (.cells #[.string ⟨#[87]⟩, .int .i64 4, .int .i64 0, .string ⟨#[65]⟩, .int .i64 1, .int .i64 20, .string ⟨#[80]⟩, .int .i64 2, .int .i64 10, .string ⟨#[66]⟩, .int .i64 1, .int .i64 20, .string ⟨#[67]⟩, .int .i64 1, .int .i64 30, .string ⟨#[69]⟩, .int .i64 4, .int .i64 0] 72))).heap.size := by simp
    refine ⟨Nat.lt_of_lt_of_le hz g.size, ?_, ?_, ?_, ?_, ?_, ?_, ?_, ?_, ?_, ?_, ?_, ?_, ?_, ?_, ?_, ?_, ?_, ?_, ?_, ?_, ?_, ?_, ?_, ?_, ?_, ?_, ?_, ?_, ?_⟩
    all_goals first
      | exact (g.cell _ _ (by omega)).trans (by go_simp)
      | exact (g.frozen _ _ (by omega)).trans (by go_simp)
  go_enter Tryd.func12, Tryd.ntmps12
  go_wp2_with fail
  refine (join_any _ _ _ _ _).mono ?_
  rintro e w1 ⟨rfl, g1⟩
  go_wp2_with fail
  refine (join_any _ _ _ _ _).mono ?_
  rintro e w2 ⟨rfl, g2⟩
  go_wp2_with fail
  refine (join_any _ _ _ _ _).mono ?_
  rintro e w3 ⟨rfl, g3⟩
  go_wp2_with fail
  refine (join_any _ _ _ _ _).mono ?_
  rintro e w4 ⟨rfl, g4⟩
  go_wp2_with fail
  refine (join_any _ _ _ _ _).mono ?_
  rintro e w5 ⟨rfl, g5⟩
  have gg := (((g1.trans g2).trans g3).trans g4).trans g5
  obtain ⟨z5, r0, r1, r2, r3, r4, r5, r6, r7, r8, p0, p1, p2, p3, p4, p5, p6, p7, p8, f0, f1, f2, f3, f4, f5, f6, f7, f8, k1, k2⟩ := HSC.out _ gg
  have za : w.heap.size < w5.heap.size := by omega
  have zb : w.heap.size + 1 < w5.heap.size := by omega
  go_wp2_with fail
  refine bodyPost_ret (v := plnV smallP (.slice (some ⟨w.heap.size + 1 + 1, 0, none⟩) 6 6) (.slice (some ⟨w5.heap.size, 0, none⟩) 5 5) (.slice (some ⟨w5.heap.size + 1, 0, none⟩) 5 5) (.slice none 0 0)) (by simp [results, Tryd.results12, go_sem, r0, r1, r2, r3, r4, r5, r6, r7, r8, f0, f1, f2, f3, f4, f5, f6, f7, f8, za]; rfl) rfl ?_
  have hE : IsRow w5 (.slice (some ⟨w.heap.size + 1 + 1, 0, none⟩) 6 6) 3 6 (fun i j => (smallP.es.getD i default).c j) :=
    (row_lit (w := ((w.alloc (.cells #[.slice none 0 0, .slice none 0 0, .slice none 0 0, .slice none 0 0, .int .i64 0, .int .i64 0, .int .i64 0, .int .i64 0, .bool false] 27)).alloc (.cells #[.slice (some ⟨w.heap.size + 1 + 1, 0, none⟩) 6 6, .slice none 0 0, .slice none 0 0, .slice none 0 0, .int .i64 10, .int .i64 5, .int .i64 15, .int .i64 2, .bool false] 27))) (by simp) (by unfold maxLen; omega) row_es).gr gg
  have hne : ∀ b, (Value.slice (some ⟨w.heap.size + 1 + 1, 0, none⟩) 6 6).ownBlock = some b → b ≠ w.heap.size ∧ b ≠ w.heap.size + 1 := fun b e => by simp [Value.ownBlock] at e; omega
  have hn0 := fun b e => (hne b e).1
  have hn1 := fun b e => (hne b e).2
  have hE2 := (((((((((((hE.setc (o := 1) hn1 (.slice (some ⟨w5.heap.size, 0, none⟩) 5 5)).setc (o := 2) hn1 (.slice (some ⟨w5.heap.size + 1, 0, none⟩) 5 5)).setc (o := 0) hn0 (.slice (some ⟨w.heap.size + 1 + 1, 0, none⟩) 6 6)).setc (o := 1) hn0 (.slice (some ⟨w5.heap.size, 0, none⟩) 5 5)).setc (o := 2) hn0 (.slice (some ⟨w5.heap.size + 1, 0, none⟩) 5 5)).setc (o := 3) hn0 (.slice none 0 0)).setc (o := 4) hn0 (.int .i64 10)).setc (o := 5) hn0 (.int .i64 5)).setc (o := 6) hn0 (.int .i64 15)).setc (o := 7) hn0 (.int .i64 2)).setc (o := 8) hn0 (.bool false))
  have hb0 : w.heap.size ≤ w.heap.size := Nat.le_refl _
  have hb1 : w.heap.size ≤ w.heap.size + 1 := Nat.le_succ _
  have hg := (hR.trans gg)
  have hg2 := ((((((((((((hg.setCell (p := ⟨w.heap.size + 1, 1, none⟩) hb1 (.slice (some ⟨w5.heap.size, 0, none⟩) 5 5)).setCell (p := ⟨w.heap.size + 1, 2, none⟩) hb1 (.slice (some ⟨w5.heap.size + 1, 0, none⟩) 5 5)).setCell (p := ⟨w.heap.size, 0, none⟩) hb0 (.slice (some ⟨w.heap.size + 1 + 1, 0, none⟩) 6 6)).setCell (p := ⟨w.heap.size, 1, none⟩) hb0 (.slice (some ⟨w5.heap.size, 0, none⟩) 5 5)).setCell (p := ⟨w.heap.size, 2, none⟩) hb0 (.slice (some ⟨w5.heap.size + 1, 0, none⟩) 5 5)).setCell (p := ⟨w.heap.size, 3, none⟩) hb0 (.slice none 0 0)).setCell (p := ⟨w.heap.size, 4, none⟩) hb0 (.int .i64 10)).setCell (p := ⟨w.heap.size, 5, none⟩) hb0 (.int .i64 5)).setCell (p := ⟨w.heap.size, 6, none⟩) hb0 (.int .i64 15)).setCell (p := ⟨w.heap.size, 7, none⟩) hb0 (.int .i64 2)).setCell (p := ⟨w.heap.size, 8, none⟩) hb0 (.bool false)))
  have hz := wx_size w5 w.heap.size (.slice (some ⟨w.heap.size + 1 + 1, 0, none⟩) 6 6) (.slice (some ⟨w5.heap.size, 0, none⟩) 5 5) (.slice (some ⟨w5.heap.size + 1, 0, none⟩) 5 5)
  generalize World.setCell _ ⟨w.heap.size, 8, none⟩ (.bool false) = Wx at hE2 hg2 hz ⊢
  refine ⟨_, rfl, ⟨_, 6, _, 5, _, 5, none, 0, rfl, (hE2.gr ((Gr.refl _).alloc _)).gr ((Gr.refl _).alloc _), ?_, ?_, ?_⟩, (hg2.alloc _).alloc _⟩
  · exact (row_lit (w := Wx) hz.symm (by unfold maxLen; omega) row_js).gr ((Gr.refl _).alloc _)
  · exact row_lit (w := World.alloc Wx _) (by simp [hz]) (by show 5 ≤ maxLen; unfold maxLen; omega) row_ss
  · exact ⟨fun _ => .slice none 0 0, ⟨none, 0, rfl, by unfold maxLen; simp [smallP], .inl rfl⟩, fun i hi => absurd hi (by simp [smallP])⟩
end Go.Proofs.YtgjnlgcdpbilfaaDoor
namespace Go.Proofs.YtgjnlgcdpbilfaaDoor
open Go.ChangeShapes Go.WideShapes Go.ChangeAt Go.RowKit Go.Maps
set_option linter.unusedVariables false
set_option linter.unusedSimpArgs false
theorem reads_look {w : World} {b n : Nat} {f : Value → Option Value} {l : List Sg} {x : Prt} (h : MapIs Tryd.prog 50 w b n f) (hf : FnR l f) (hx : PrtOk x) :
    (Instr.lookup 95 (.map (some b)) (.agg #[.int .i64 x.e, .int .i64 x.x]) true).run Tryd.prog w = .ok (.tuple #[.int .i64 (match readsL l x with | some i => (i : Int) | none => 0), .bool (readsL l x).isSome]) w := by
  obtain ⟨kl, hk⟩ := prt_key x hx.1 hx.2
  have := h.lookup_ok prt_keyed Tryd.underlying95 (int_zero w) hk
  rw [hf x] at this
  cases hn : readsL l x with
  | none => rw [hn] at this; exact this
  | some i => rw [hn] at this; exact this
theorem netReads_any (b : Nat) (P : Pln) (x : Prt) (w : World) (hN : NetIs w b P) (hx : PrtOk x) :
    Calls Tryd.prog 23 #[.pointer (some ⟨b, 0, none⟩), x.v] w fun e w' => e = .returned (.int .i64 (readsN P.ss x)) ∧ Gr w w' := by
  obtain ⟨v1, v2, v3, v4, bn, n1, f1, br, n2, f2, bl, n3, f3, bd, n4, f4, hb, hp, c9, c10, c11, c12, m1, hf1, m2, hf2, m3, m4⟩ := hN
  have zb := hb.1
  have g0 : Gr w (w.alloc (.cells #[.int .i64 x.e, .int .i64 x.x] 50)) := (Gr.refl _).alloc _
  have l1 := reads_look ((m2.gr g0).gr ((Gr.refl _).drew)) hf2 hx
  have cy := (g0.cell _ _ zb).trans c10
  have HR : Hid (readsN P.ss x = match readsL P.ss x with | some k => (k : Int) | none => -1) := rfl
  obtain ⟨xe, xx⟩ := x
  unfold Prt.v
  clear hb hp c9 c10 c11 c12 m1 hf1 m2 hf2 m3 m4
  cases hr : readsL P.ss ⟨xe, xx⟩
  all_goals
    rw [hr] at HR l1
    dsimp only at HR l1
    go_enter Tryd.func23, Tryd.ntmps23
    go_upto_region 1 with (fail)
    go_region
    all_goals
      go_wp2_with fail
      go_ret
      exact ⟨by rw [HR.out]; rfl, g0.drew⟩
def eleAt (P : Pln) (i : Int) : Ele := if 0 ≤ i then P.es.getD i.toNat default else default
theorem netElem_any (b : Nat) (P : Pln) (i : Int) (w : World) (hN : NetIs w b P) :
    Calls Tryd.prog 50 #[.pointer (some ⟨b, 0, none⟩), .int .i64 i] w fun e w' => e = .returned (.agg #[.string (eleAt P i).n, .int .i64 (eleAt P i).k, .int .i64 (eleAt P i).l]) ∧ Gr w w' := by
  obtain ⟨v1, v2, v3, v4, bn, n1, f1, br, n2, f2, bl, n3, f3, bd, n4, f4, hb, hp, c9, c10, c11, c12, m1, hf1, m2, hf2, m3, m4⟩ := hN
  obtain ⟨a1, c1, a2, c2, a3, c3, a4, c4, hv, h1, -⟩ := hp
  unfold plnV at hv
  simp only [Value.agg.injEq, Array.mk.injEq, List.cons.injEq, and_true, true_and] at hv
  obtain ⟨rfl, rfl, rfl, rfl⟩ := hv
  obtain ⟨zb, b0, -⟩ := hb
  have m1' := IsRow.len h1
  unfold maxLen at m1'
  by_cases h0 : i < 0
  · have HE : Hid (eleAt P i = default) := by show eleAt P i = default; unfold eleAt; rw [if_neg (by omega)]
    go_enter Tryd.func50, Tryd.ntmps50
    go_wp2_with fail
    refine bodyPost_ret (v := .agg #[.string ⟨#[]⟩, .int .i64 0, .int .i64 0]) (by simp [results, Tryd.results50, go_sem]) rfl ⟨by rw [HE.out]; rfl, (Gr.refl _).alloc _⟩
  · obtain ⟨k, rfl⟩ := Int.eq_ofNat_of_zero_le (show 0 ≤ i by omega)
    by_cases hk : k < P.es.length
    · have hk1 : (k : Int) < (P.es.length : Int) := by omega
      obtain ⟨bb, o, hs, z, y0, y1, y2⟩ := h1.at k hk
      subst hs
      have HE : Hid (eleAt P k = P.es[k]) := by show eleAt P k = P.es[k]; unfold eleAt; rw [if_pos (by omega), Int.toNat_natCast, getD_at _ _ hk]
      generalize P.es[k] = q at y0 y1 y2 HE
      obtain ⟨qn, qk, ql⟩ := q
      dsimp only at y0 y1 y2
      clear h0
      go_enter Tryd.func50, Tryd.ntmps50
      go_wp2_with fail
      refine bodyPost_ret (v := .agg #[.string qn, .int .i64 qk, .int .i64 ql]) (by simp [results, Tryd.results50, go_sem]) rfl ⟨by rw [HE.out], ?_⟩
      first
        | exact (Gr.refl _).alloc _
        | exact ((((Gr.refl _).alloc _).setCell (Nat.le_refl _) _).setCell (Nat.le_refl _) _).setCell (Nat.le_refl _) _
    · have hk1 : ¬ (k : Int) < (P.es.length : Int) := by omega
      have HE : Hid (eleAt P k = default) := by show eleAt P k = default; unfold eleAt; rw [if_pos (by omega), Int.toNat_natCast, List.getD_eq_getElem?_getD, List.getElem?_eq_none (by omega)]; rfl
      clear h0
      go_enter Tryd.func50, Tryd.ntmps50
      go_wp2_with fail
      refine bodyPost_ret (v := .agg #[.string ⟨#[]⟩, .int .i64 0, .int .i64 0]) (by simp [results, Tryd.results50, go_sem]) rfl ⟨by rw [HE.out]; rfl, (Gr.refl _).alloc _⟩
theorem ele_field1 (n : ByteArray) (a b : Int) (w : World) : (Instr.field 72 (.agg #[.string n, .int .i64 a, .int .i64 b]) 1).run Tryd.prog w = .ok (.int .i64 a) w := by kernel_rfl
theorem ele_field2 (n : ByteArray) (a b : Int) (w : World) : (Instr.field 72 (.agg #[.string n, .int .i64 a, .int .i64 b]) 2).run Tryd.prog w = .ok (.int .i64 b) w := by kernel_rfl
theorem netKind_any (b : Nat) (P : Pln) (i : Int) (w : World) (hN : NetIs w b P) :
    Calls Tryd.prog 47 #[.pointer (some ⟨b, 0, none⟩), .int .i64 i] w fun e w' => e = .returned (.int .i64 (eleAt P i).k) ∧ Gr w w' := by
  have HE := Lib.hid (netElem_any b P i w hN)
  have e1 := ele_field1 (eleAt P i).n (eleAt P i).k (eleAt P i).l
  go_enter Tryd.func47, Tryd.ntmps47
  go_wp2_with (first | (go_at_call 50; (with_reducible refine (HE.out).mono ?_); rintro e w1 ⟨rfl, g1⟩; have e1 := e1 w1) | fail)
  go_ret
  exact ⟨rfl, g1⟩
theorem netLength_any (b : Nat) (P : Pln) (i : Int) (w : World) (hN : NetIs w b P) :
    Calls Tryd.prog 26 #[.pointer (some ⟨b, 0, none⟩), .int .i64 i] w fun e w' => e = .returned (.int .i64 (eleAt P i).l) ∧ Gr w w' := by
  have HE := Lib.hid (netElem_any b P i w hN)
  have e1 := ele_field2 (eleAt P i).n (eleAt P i).k (eleAt P i).l
  go_enter Tryd.func26, Tryd.ntmps26
  go_wp2_with (first | (go_at_call 50; (with_reducible refine (HE.out).mono ?_); rintro e w1 ⟨rfl, g1⟩; have e1 := e1 w1) | fail)
  go_ret
  exact ⟨rfl, g1⟩
end Go.Proofs.YtgjnlgcdpbilfaaDoor
namespace Go.Proofs.YtgjnlgcdpbilfaaDoor
open Go.ChangeShapes Go.WideShapes Go.ChangeAt Go.RowKit Go.Maps
set_option linter.unusedVariables false
set_option linter.unusedSimpArgs false
theorem netNext_any (b : Nat) (P : Pln) (x : Prt) (w : World) (hN : NetIs w b P) (hx : PrtOk x) :
    Calls Tryd.prog 46 #[.pointer (some ⟨b, 0, none⟩), x.v] w fun e w' => e = .returned (prtR (nextL P.js x)) ∧ Gr w w' := by
  obtain ⟨v1, v2, v3, v4, bn, n1, f1, br, n2, f2, bl, n3, f3, bd, n4, f4, hb, hp, c9, c10, c11, c12, m1, hf1, m2, hf2, m3, m4⟩ := hN
  have zb := hb.1
  have g0 : Gr w ((w.alloc (.cells #[.int .i64 x.e, .int .i64 x.x] 50)).alloc (.cells #[.int .i64 0, .int .i64 0] 50)) := ((Gr.refl _).alloc _).alloc _
  have cy := (g0.cell _ _ zb).trans c9
  have zb0 := Nat.lt_of_lt_of_le zb g0.size
  have ga : Gr (w.alloc (.cells #[.int .i64 x.e, .int .i64 x.x] 50)) ((w.alloc (.cells #[.int .i64 x.e, .int .i64 x.x] 50)).alloc (.cells #[.int .i64 0, .int .i64 0] 50)) := (Gr.refl _).alloc _
  have x0 : ((w.alloc (.cells #[.int .i64 x.e, .int .i64 x.x] 50)).alloc (.cells #[.int .i64 0, .int .i64 0] 50)).cell? ⟨w.heap.size, 0, none⟩ = some (.int .i64 x.e) := (ga.cell _ _ (by simp)).trans (by rw [World.cell?_alloc_mark]; rfl)
  have x1 : ((w.alloc (.cells #[.int .i64 x.e, .int .i64 x.x] 50)).alloc (.cells #[.int .i64 0, .int .i64 0] 50)).cell? ⟨w.heap.size, 1, none⟩ = some (.int .i64 x.x) := (ga.cell _ _ (by simp)).trans (by rw [World.cell?_alloc_mark]; rfl)
  have r0 : ((w.alloc (.cells #[.int .i64 x.e, .int .i64 x.x] 50)).alloc (.cells #[.int .i64 0, .int .i64 0] 50)).cell? ⟨w.heap.size + 1, 0, none⟩ = some (.int .i64 0) := by simp
  have r1 : ((w.alloc (.cells #[.int .i64 x.e, .int .i64 x.x] 50)).alloc (.cells #[.int .i64 0, .int .i64 0] 50)).cell? ⟨w.heap.size + 1, 1, none⟩ = some (.int .i64 0) := by simp
  have f0 : ((w.alloc (.cells #[.int .i64 x.e, .int .i64 x.x] 50)).alloc (.cells #[.int .i64 0, .int .i64 0] 50)).frozen? ⟨w.heap.size + 1, 0, none⟩ = false := by simp
  have f1 : ((w.alloc (.cells #[.int .i64 x.e, .int .i64 x.x] 50)).alloc (.cells #[.int .i64 0, .int .i64 0] 50)).frozen? ⟨w.heap.size + 1, 1, none⟩ = false := by simp
  have hzz : w.heap.size + 1 < ((w.alloc (.cells #[.int .i64 x.e, .int .i64 x.x] 50)).alloc (.cells #[.int .i64 0, .int .i64 0] 50)).heap.size := by simp
  have hz0 : w.heap.size < ((w.alloc (.cells #[.int .i64 x.e, .int .i64 x.x] 50)).alloc (.cells #[.int .i64 0, .int .i64 0] 50)).heap.size := by omega
  have M1 := m1.gr g0
  clear hb hp c10 c11 c12 hf2 m2 m3 m4 m1 ga
  obtain ⟨xe, xx⟩ := x
  dsimp only at g0 cy zb0 x0 x1 r0 r1 f0 f1 hzz hz0 M1
  cases hnx : nextL P.js ⟨xe, xx⟩ with
  | none =>
    unfold Prt.v
    go_enter Tryd.func46, Tryd.ntmps46
    go_upto_region 1 with (fail)
    generalize ((w.alloc (.cells #[.int .i64 xe, .int .i64 xx] 50)).alloc (.cells #[.int .i64 0, .int .i64 0] 50)) = wy at *
    have l1 := next_look_none (M1.gr ((Gr.refl _).drew)) hf1 hx hnx
    have l2 := next_look_none (M1.gr (((Gr.refl _).alloc (.cells #[.int .i64 0, .int .i64 0] 50)).drew)) hf1 hx hnx
    dsimp only at l1 l2
    go_region
    all_goals
      go_wp2_with fail
      refine bodyPost_ret (v := .tuple #[.agg #[.int .i64 0, .int .i64 0], .bool false]) (by simp [results, Tryd.results46, go_sem, r0, r1, f0, f1, hzz]) rfl ⟨rfl, ?_⟩
      have hb : w.heap.size ≤ w.heap.size + 1 := by omega
      first
        | exact (((g0.setCell hb _).setCell hb _).alloc _).drew
        | exact (((g0.alloc _).drew).setCell hb _).setCell hb _
        | exact (((g0.drew).alloc _).setCell hb _).setCell hb _
        | exact (((g0.setCell hb _).setCell hb _).drew).alloc _
        | exact (((g0.alloc _).setCell hb _).setCell hb _).drew
        | exact (((g0.drew).setCell hb _).setCell hb _).alloc _
  | some y =>
    obtain ⟨ye, yx⟩ := y
    unfold Prt.v
    go_enter Tryd.func46, Tryd.ntmps46
    go_upto_region 1 with (fail)
    generalize ((w.alloc (.cells #[.int .i64 xe, .int .i64 xx] 50)).alloc (.cells #[.int .i64 0, .int .i64 0] 50)) = wy at *
    have l1 := next_look_some (M1.gr ((Gr.refl _).drew)) hf1 hx hnx
    have l2 := next_look_some (M1.gr (((Gr.refl _).alloc (.cells #[.int .i64 0, .int .i64 0] 50)).drew)) hf1 hx hnx
    dsimp only at l1 l2
    go_region
    all_goals
      go_wp2_with fail
      refine bodyPost_ret (v := .tuple #[.agg #[.int .i64 ye, .int .i64 yx], .bool true]) (by simp [results, Tryd.results46, go_sem, r0, r1, f0, f1, hzz]) rfl ⟨rfl, ?_⟩
      have hb : w.heap.size ≤ w.heap.size + 1 := by omega
      first
        | exact (((g0.setCell hb _).setCell hb _).alloc _).drew
        | exact (((g0.alloc _).drew).setCell hb _).setCell hb _
        | exact (((g0.drew).alloc _).setCell hb _).setCell hb _
        | exact (((g0.setCell hb _).setCell hb _).drew).alloc _
        | exact (((g0.alloc _).setCell hb _).setCell hb _).drew
        | exact (((g0.drew).setCell hb _).setCell hb _).alloc _
def liesP (pos : List Int) (i : Int) : Int := if 0 ≤ i then pos.getD i.toNat 0 else 0
theorem lies_any (v : Value) (pos : List Int) (i : Int) (w : World) (hv : IsVals w v (pos.map (Value.int .i64))) :
    Calls Tryd.prog 49 #[v, .int .i64 i] w fun e w' => e = .returned (.int .i64 (liesP pos i)) ∧ w' = w := by
  have HV := Lib.hid hv
  obtain ⟨a, c, rfl, hm, -⟩ := hv
  rw [List.length_map] at HV hm ⊢
  unfold maxLen at hm
  by_cases h0 : i < 0
  · have HE : Hid (liesP pos i = 0) := by show liesP pos i = 0; unfold liesP; rw [if_neg (by omega)]
    go_enter Tryd.func49, Tryd.ntmps49
    go_wp2_with fail
    go_ret
    exact ⟨by rw [HE.out]; rfl, rfl⟩
  · obtain ⟨k, rfl⟩ := Int.eq_ofNat_of_zero_le (show 0 ≤ i by omega)
    by_cases hk : k < pos.length
    · have hk1 : (k : Int) < (pos.length : Int) := by omega
      obtain ⟨bb, o, hs, z, y0⟩ := ints_at HV.out k hk
      subst hs
      have HE : Hid (liesP pos k = pos[k]) := by show liesP pos k = pos[k]; unfold liesP; rw [if_pos (by omega), Int.toNat_natCast, List.getD_eq_getElem?_getD, List.getElem?_eq_getElem hk]; rfl
      clear h0
      go_enter Tryd.func49, Tryd.ntmps49
      go_wp2_with fail
      go_ret
      exact ⟨by rw [HE.out]; rfl, rfl⟩
    · have hk1 : ¬ (k : Int) < (pos.length : Int) := by omega
      have HE : Hid (liesP pos k = 0) := by show liesP pos k = 0; unfold liesP; rw [if_pos (by omega), Int.toNat_natCast, List.getD_eq_getElem?_getD, List.getElem?_eq_none (by omega)]; rfl
      clear h0
      go_enter Tryd.func49, Tryd.ntmps49
      go_wp2_with fail
      go_ret
      exact ⟨by rw [HE.out]; rfl, rfl⟩
theorem passes_any (a : Int) (w : World) : Calls Tryd.prog 24 #[.int .i64 a] w fun e w' => e = .returned (.bool (decide (a = 1 ∨ a = 2))) ∧ w' = w := by
  by_cases h1 : a = 1
  · subst h1
    go_enter Tryd.func24, Tryd.ntmps24
    go_wp2_with fail
    go_ret
    exact ⟨rfl, rfl⟩
  · by_cases h2 : a = 2
    · subst h2
      go_enter Tryd.func24, Tryd.ntmps24
      go_wp2_with fail
      go_ret
      exact ⟨rfl, rfl⟩
    · have h3 : decide (a = 1 ∨ a = 2) = false := by simp [h1, h2]
      rw [h3]
      go_enter Tryd.func24, Tryd.ntmps24
      go_wp2_with fail
      go_ret
      have e1 : (a == 1) = false := by simp [h1]
      have e2 : (a == 2) = false := by simp [h2]
      exact ⟨by show Ending.returned (.bool (a == 1 || a == 2)) = _; rw [e1, e2]; rfl, rfl⟩
end Go.Proofs.YtgjnlgcdpbilfaaDoor
namespace Go.Proofs.YtgjnlgcdpbilfaaDoor
open Go.ChangeShapes Go.WideShapes Go.ChangeAt Go.RowKit Go.Maps
set_option linter.unusedVariables false
set_option linter.unusedSimpArgs false
def outsK (k i : Int) : List (Int × Int) :=
  if i < 0 ∨ endsK k ≤ i then [] else if k = 1 then [(1 - i, 0)] else if k = 3 then [(([1, 0, 3, 2] : List Int).getD i.toNat 0, 0)] else if k = 2 then (if i = 0 then [(1, 1), (2, 2)] else [(0, ([0, 1, 2] : List Int).getD i.toNat 0)]) else []
def wayC (l : List (Int × Int)) (i j : Nat) : Value := if j = 0 then .int .i64 (l.getD i default).1 else .int .i64 (l.getD i default).2
def IsWays (w : World) (v : Value) (l : List (Int × Int)) : Prop := IsRow w v 2 l.length (wayC l)
def RetO (w : World) (l : List (Int × Int)) (e : Ending) (w' : World) : Prop := ∃ v, e = .returned v ∧ IsWays w' v l ∧ Gr w w'
theorem ways_nil (w : World) : IsWays w (.slice none 0 0) [] := ⟨none, 0, rfl, by unfold maxLen; simp, .inl rfl⟩
theorem ways_one {w : World} {b c : Nat} {x y : Int} (hb : b < w.heap.size) (h0 : w.cell? ⟨b, 0, none⟩ = some (.int .i64 x)) (h1 : w.cell? ⟨b, 1, none⟩ = some (.int .i64 y)) : IsWays w (.slice (some ⟨b, 0, none⟩) 1 c) [(x, y)] :=
  ⟨_, c, rfl, by unfold maxLen; simp, .inr ⟨b, 0, rfl, hb, fun i j hi hj => by
    have e : i = 0 := by simpa using hi
    subst e
    match j, hj with
    | 0, _ => exact h0
    | 1, _ => exact h1⟩⟩
theorem ways_two {w : World} {b c : Nat} {x y x' y' : Int} (hb : b < w.heap.size) (h0 : w.cell? ⟨b, 0, none⟩ = some (.int .i64 x)) (h1 : w.cell? ⟨b, 1, none⟩ = some (.int .i64 y)) (h2 : w.cell? ⟨b, 2, none⟩ = some (.int .i64 x')) (h3 : w.cell? ⟨b, 3, none⟩ = some (.int .i64 y')) : IsWays w (.slice (some ⟨b, 0, none⟩) 2 c) [(x, y), (x', y')] :=
  ⟨_, c, rfl, by unfold maxLen; simp, .inr ⟨b, 0, rfl, hb, fun i j hi hj => by
    have hi' : i < 2 := hi
    match i, j, hi', hj with
    | 0, 0, _, _ => exact h0
    | 0, 1, _, _ => exact h1
    | 1, 0, _, _ => exact h2
    | 1, 1, _, _ => exact h3⟩⟩
theorem tri1 (w : World) : (Instr.index 135 (.agg #[.int .i64 0, .int .i64 1, .int .i64 2]) (.int .i64 1)).run Tryd.prog w = .ok (.int .i64 1) w := by kernel_rfl
theorem tri2 (w : World) : (Instr.index 135 (.agg #[.int .i64 0, .int .i64 1, .int .i64 2]) (.int .i64 2)).run Tryd.prog w = .ok (.int .i64 2) w := by kernel_rfl
set_option maxRecDepth 100000 in
set_option maxHeartbeats 2000000 in
theorem netOuts_any (b : Nat) (P : Pln) (m i : Int) (w : World) (hN : NetIs w b P) :
    Calls Tryd.prog 77 #[.pointer (some ⟨b, 0, none⟩), .int .i64 m, .int .i64 i] w (RetO w (outsK (eleAt P m).k i)) := by
  have HK := Lib.hid (fun (w' : World) (g : Gr w w') => netKind_any b P m w' (hN.gr g))
  generalize (eleAt P m).k = k at HK ⊢
  have HE := Lib.hid (fun w' => ends_any k w')
  generalize hn : endsK k = n at HE
  by_cases h0 : i < 0
  · have HO : Hid (outsK k i = []) := by show outsK k i = []; unfold outsK; rw [if_pos (.inl h0)]
    go_enter Tryd.func77, Tryd.ntmps77
    go_wp2_with fail
    go_ret
    exact ⟨_, rfl, by rw [HO.out]; exact ways_nil _, Gr.refl _⟩
  · by_cases h1 : n ≤ i
    · have HO : Hid (outsK k i = []) := by show outsK k i = []; unfold outsK; rw [if_pos (.inr (by omega))]
      go_enter Tryd.func77, Tryd.ntmps77
      go_wp2_with (first | (go_at_call 47; (first | (with_reducible refine (HK.out _ (Gr.refl _)).mono ?_; rintro e w1 ⟨rfl, g1⟩) | (with_reducible refine (HK.out _ g1).mono ?_; rintro e w3 ⟨rfl, g3⟩))) | (go_at_call 83; (with_reducible refine (HE.out _).mono ?_); rintro e w2 ⟨rfl, hq⟩; obtain rfl := hq.symm) | fail)
      go_ret
      exact ⟨_, rfl, by rw [HO.out]; exact ways_nil _, g1⟩
    · have ht : ¬ i ≥ n := by omega
      by_cases k1 : k = 1
      · subst k1
        have e2 : n = 2 := hn.symm
        subst e2
        have hi : i = 0 ∨ i = 1 := by omega
        clear h0 h1 ht
        rcases hi with rfl | rfl
        all_goals
          go_enter Tryd.func77, Tryd.ntmps77
          go_wp2_with (first | (go_at_call 47; (first | (with_reducible refine (HK.out _ (Gr.refl _)).mono ?_; rintro e w1 ⟨rfl, g1⟩) | (with_reducible refine (HK.out _ g1).mono ?_; rintro e w3 ⟨rfl, g3⟩))) | (go_at_call 83; (with_reducible refine (HE.out _).mono ?_); rintro e w2 ⟨rfl, hq⟩; obtain rfl := hq.symm) | fail)
          go_ret
          exact ⟨_, rfl, ways_one (by simp) (by rw [World.cell?_alloc_mark]; rfl) (by rw [World.cell?_alloc_mark]; rfl), ((g1.trans g3)).alloc _⟩
      by_cases k3 : k = 3
      · subst k3
        have e2 : n = 4 := hn.symm
        subst e2
        have hi : i = 0 ∨ i = 1 ∨ i = 2 ∨ i = 3 := by omega
        clear h0 h1 ht
        rcases hi with rfl | rfl | rfl | rfl
        all_goals
          go_enter Tryd.func77, Tryd.ntmps77
          go_wp2_with (first | (go_at_call 47; (first | (with_reducible refine (HK.out _ (Gr.refl _)).mono ?_; rintro e w1 ⟨rfl, g1⟩) | (with_reducible refine (HK.out _ g1).mono ?_; rintro e w3 ⟨rfl, g3⟩))) | (go_at_call 83; (with_reducible refine (HE.out _).mono ?_); rintro e w2 ⟨rfl, hq⟩; obtain rfl := hq.symm) | fail)
          go_ret
          exact ⟨_, rfl, ways_one (by simp) (by simp) (by simp), (((g1.trans g3)).alloc _).alloc _⟩
      by_cases k2 : k = 2
      · subst k2
        have e2 : n = 3 := hn.symm
        subst e2
        have hi : i = 0 ∨ i = 1 ∨ i = 2 := by omega
        clear h0 h1 ht
        rcases hi with rfl | rfl | rfl
        · go_enter Tryd.func77, Tryd.ntmps77
          go_wp2_with (first | (go_at_call 47; (first | (with_reducible refine (HK.out _ (Gr.refl _)).mono ?_; rintro e w1 ⟨rfl, g1⟩) | (with_reducible refine (HK.out _ g1).mono ?_; rintro e w3 ⟨rfl, g3⟩))) | (go_at_call 83; (with_reducible refine (HE.out _).mono ?_); rintro e w2 ⟨rfl, hq⟩; obtain rfl := hq.symm) | fail)
          go_ret
          exact ⟨_, rfl, ways_two (by simp) (by rw [World.cell?_alloc_mark]; rfl) (by rw [World.cell?_alloc_mark]; rfl) (by rw [World.cell?_alloc_mark]; rfl) (by rw [World.cell?_alloc_mark]; rfl), ((g1.trans g3)).alloc _⟩
        all_goals
          have q1 := tri1
          have q2 := tri2
          go_enter Tryd.func77, Tryd.ntmps77
          go_wp2_with (first | (go_at_call 47; (first | (with_reducible refine (HK.out _ (Gr.refl _)).mono ?_; rintro e w1 ⟨rfl, g1⟩) | (with_reducible refine (HK.out _ g1).mono ?_; rintro e w3 ⟨rfl, g3⟩))) | (go_at_call 83; (with_reducible refine (HE.out _).mono ?_); rintro e w2 ⟨rfl, hq⟩; obtain rfl := hq.symm) | fail)
          go_ret
          exact ⟨_, rfl, ways_one (by simp) (by simp) (by simp), ((g1.trans g3)).alloc _⟩
      have HO : Hid (outsK k i = []) := by show outsK k i = []; unfold outsK; rw [if_neg (by omega), if_neg k1, if_neg k3, if_neg k2]
      have t1 : (k == 1) = false := by simpa using k1
      have t2 : (k == 2) = false := by simpa using k2
      have t3 : (k == 3) = false := by simpa using k3
      clear k1 k2 k3
      go_enter Tryd.func77, Tryd.ntmps77
      go_wp2_with (first | (go_at_call 47; (first | (with_reducible refine (HK.out _ (Gr.refl _)).mono ?_; rintro e w1 ⟨rfl, g1⟩) | (with_reducible refine (HK.out _ g1).mono ?_; rintro e w3 ⟨rfl, g3⟩))) | (go_at_call 83; (with_reducible refine (HE.out _).mono ?_); rintro e w2 ⟨rfl, hq⟩; obtain rfl := hq.symm) | fail)
      go_ret
      exact ⟨_, rfl, by rw [HO.out]; exact ways_nil _, g1.trans g3⟩
end Go.Proofs.YtgjnlgcdpbilfaaDoor
namespace Go.Proofs.YtgjnlgcdpbilfaaDoor
open Go.ChangeShapes Go.WideShapes Go.ChangeAt Go.RowKit Go.Maps
set_option linter.unusedVariables false
set_option linter.unusedSimpArgs false
def throughL : List (Int × Int) → Int → Option Int
  | [], _ => none
  | (o, p) :: t, q => if p = 0 ∨ p = q then some o else throughL t q
def thrR (o : Option Int) : Value := .tuple #[.int .i64 (o.getD 0), .bool o.isSome]
set_option maxRecDepth 100000 in
set_option maxHeartbeats 1000000 in
theorem netThrough_any (b : Nat) (P : Pln) (m i q : Int) (w : World) (hN : NetIs w b P) :
    Calls Tryd.prog 48 #[.pointer (some ⟨b, 0, none⟩), .int .i64 m, .int .i64 i, .int .i64 q] w fun e w' => e = .returned (thrR (throughL (outsK (eleAt P m).k i) q)) ∧ Gr w w' := by
  have HO := Lib.hid (netOuts_any b P m i w hN)
  generalize outsK (eleAt P m).k i = L at HO ⊢
  have HT : Hid (throughL (L.drop 0) q = throughL L q) := rfl
  go_enter Tryd.func48, Tryd.ntmps48
  go_wp2_with (first | (go_at_call 77; (with_reducible refine (HO.out).mono ?_); rintro e w1 ⟨v, rfl, hv, g1⟩; have HV := Lib.hid hv; obtain ⟨a, c, rfl, hm, hx⟩ := hv; unfold maxLen at hm) | fail)
  go_loopw [17] (fun x wr => ∃ k : Nat, x = .int .i64 k ∧ k ≤ L.length ∧ Gr w1 wr ∧ Hid (throughL (L.drop k) q = throughL L q)) (fun x _ => L.length - (intOf x).toNat)
  case atStart => exact ⟨0, rfl, Nat.zero_le _, Gr.refl _, HT⟩
  case round =>
    clear HT hx
    obtain ⟨k, rfl, hk, g, HT⟩ := hrel
    have gw := g1.trans g
    by_cases hlt : k < L.length
    · have hk1 : (k : Int) < (L.length : Int) := by omega
      obtain ⟨bb, o, hs, zb, hc⟩ := IsRow.at (IsRow.gr HV.out g) k hlt
      subst hs
      have y0 := hc 0 (by omega)
      have y1 := hc 1 (by omega)
      have HD : Hid (L.drop k = L[k] :: L.drop (k + 1)) := List.drop_eq_getElem_cons hlt
      have e0 : wayC L k 0 = .int .i64 L[k].1 := by unfold wayC; rw [if_pos rfl, getD_at _ _ hlt]
      have e1 : wayC L k 1 = .int .i64 L[k].2 := by unfold wayC; rw [if_neg (by omega), getD_at _ _ hlt]
      rw [e0] at y0
      rw [e1] at y1
      clear hc e0 e1
      generalize L[k] = x at y0 y1 HD
      obtain ⟨xo, xp⟩ := x
      dsimp only at y0 y1
      rw [Nat.add_zero] at y0
      by_cases h1 : xp = 0
      · have HR : Hid (throughL L q = some xo) := by show throughL L q = some xo; rw [← HT.out, HD.out]; unfold throughL; rw [if_pos (.inl h1)]
        subst h1
        go_wp2_with fail
        go_ret2
        exact ⟨by rw [HR.out]; rfl, gw.alloc _⟩
      · by_cases h2 : xp = q
        · have HR : Hid (throughL L q = some xo) := by show throughL L q = some xo; rw [← HT.out, HD.out]; unfold throughL; rw [if_pos (.inr h2)]
          subst h2
          go_wp2_with fail
          go_ret2
          exact ⟨by rw [HR.out]; rfl, gw.alloc _⟩
        · have HR : Hid (throughL (L.drop (k + 1)) q = throughL L q) := by
            show _ = _
            rw [← HT.out, HD.out]
            conv => rhs; unfold throughL
            rw [if_neg (by rintro (h | h); exact h1 h; exact h2 h)]
          have t1 : (xp == 0) = false := by simpa using h1
          have t2 : (xp == q) = false := by simpa using h2
          go_wp2_with fail
          go_roundw
          case rel => exact ⟨k + 1, by go_num, hlt, g.alloc _, HR⟩
          case measure => simp [intOf]; omega
    · have hk1 : ¬ (k : Int) < (L.length : Int) := by omega
      have HR : Hid (throughL L q = none) := by show _ = _; rw [← HT.out, List.drop_eq_nil_of_le (by omega)]; rfl
      go_wp2_with fail
      go_ret2
      exact ⟨by rw [HR.out]; rfl, gw⟩
end Go.Proofs.YtgjnlgcdpbilfaaDoor
