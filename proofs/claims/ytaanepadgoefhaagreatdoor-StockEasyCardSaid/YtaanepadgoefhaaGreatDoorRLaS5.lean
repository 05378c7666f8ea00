/- StockEasy. -/
import Derived.Test.YtaanepadgoefhaaGreatDoorRows
import Derived.Test.YtaanepadgoefhaaGreatDoorRLaS3
import Derived.Test.YtaanepadgoefhaaGreatDoorRStZ
import Derived.Test.YtaanepadgoefhaaGreatDoorROpnK
import Derived.Test.YtaanepadgoefhaaGreatDoorROpnS
import Derived.Test.YtaanepadgoefhaaGreatDoorROpnL
import Derived.Test.YtaanepadgoefhaaGreatDoorRFinP
namespace Go.Proofs.YtaanepadgoefhaaGreatDoor
open Go.ChangeShapes Go.WideShapes Go.ChangeAt Go.RowKit Go.Maps
set_option linter.unusedVariables false
set_option linter.unusedSimpArgs false
theorem short_mono {t t' b b' : Int} (ht : t ≤ t') (hb : b' ≤ b) (s : Stk) (h : shortS t' b' s = true) : shortS t b s = true := by
  unfold shortS at h ⊢
  simp only [Bool.or_eq_true, decide_eq_true_eq] at h ⊢
  omega
theorem check_mono {t t' b b' : Int} (ht : t ≤ t') (hb : b' ≤ b) {l : List Stk} (h : checkS t b l = 0) : checkS t' b' l = 0 := by
  unfold checkS at h ⊢
  split at h
  · next hn => exact absurd h hn
  · next hn =>
    rw [if_neg hn]
    have : l.any (shortS t' b') = false := by
      cases hx : l.any (shortS t' b') with
      | false => rfl
      | true =>
        obtain ⟨s, hs, h1⟩ := List.any_eq_true.1 hx
        have : l.any (shortS t b) = true := List.any_eq_true.2 ⟨s, hs, short_mono ht hb s h1⟩
        rw [this] at h
        exact absurd h (by decide)
    rw [this]
    rfl
theorem check_may {t b : Int} {l : List Stk} (h : checkS t b l = 0) : ∀ s ∈ l, mayS s = true := by
  unfold checkS at h
  split at h
  · next hn => exact absurd h hn
  · next hn => exact (plain_ok (by simpa using hn)).2.1
theorem easy_box {w : World} {o : Obj} (i : Nat) : ((w.alloc o).drew).cell? ⟨w.heap.size, i, none⟩ = (w.alloc o).cell? ⟨w.heap.size, i, none⟩ := rfl
theorem easy_pln {w : World} {P : Pln} {a1 a2 a3 a4 : Option Addr} {c1 c2 c3 c4 : Nat} {t b : Int} (h : IsPln w (.agg #[.slice a1 P.es.length c1, .slice a2 P.js.length c2, .slice a3 P.ss.length c3, .slice a4 P.ls.length c4, .int .i64 P.top, .int .i64 P.brake, .int .i64 P.margin, .int .i64 P.throw, .bool P.hard]) P) :
    IsPln w (.agg #[.slice a1 P.es.length c1, .slice a2 P.js.length c2, .slice a3 P.ss.length c3, .slice a4 P.ls.length c4, .int .i64 t, .int .i64 b, .int .i64 P.margin, .int .i64 P.throw, .bool P.hard]) { P with top := t, brake := b } := by
  obtain ⟨b1, d1, b2, d2, b3, d3, b4, d4, e, h1, h2, h3, h4⟩ := h
  unfold plnV at e
  cases e
  exact ⟨_, _, _, _, _, _, _, _, rfl, h1, h2, h3, h4⟩
set_option maxRecDepth 100000 in
set_option maxHeartbeats 2000000 in
theorem stockEasy_walk (pv : Value) (P : Pln) (v : Value) (L : List Stk) (t2 b2 : Int) (w : World) (ht : Tabs w) (hP : IsPln w pv P ∧ PlnOk P) (hL : IsStks w v L ∧ ∀ x ∈ L, StkOk x) (wt : (Lit.int .u8 t2).wf = true) (wb : (Lit.int .u8 b2).wf = true) :
    Calls Tryz.prog 9 #[pv, v, .int .u8 t2, .int .u8 b2] w fun e w' => e = .returned (.bool true) ∧ Gr w w' := by
  obtain ⟨hP, hpk⟩ := hP
  obtain ⟨hL, hok⟩ := hL
  have HPI := Lib.hid hP
  have HPK := Lib.hid hpk
  have HLS := Lib.hid hL
  have hsz : ∀ s ∈ L, s.nm.size ≤ maxLen := fun s hs => (hok s hs).1
  obtain ⟨a1, c1, a2, c2, a3, c3, a4, c4, rfl, -⟩ := hP
  obtain ⟨a, c, rfl, hm, -⟩ := hL.form
  unfold maxLen at hm
  have h2 : 0 ≤ t2 ∧ t2 ≤ 255 := by simpa [Lit.wf, IntKind.min, IntKind.max, IntKind.signed, IntKind.bits] using wt
  have h3 : 0 ≤ b2 ∧ b2 ≤ 255 := by simpa [Lit.wf, IntKind.min, IntKind.max, IntKind.signed, IntKind.bits] using wb
  have tw : IntKind.i64.wrap t2 = t2 := IntWalk.i64_in _ (by omega)
  have tw2 : IntKind.i64.wrap b2 = b2 := IntWalk.i64_in _ (by omega)
  unfold plnV at *
  clear hpk wt wb
  have g0 : Gr w (w.alloc (.cells #[.slice a1 P.es.length c1, .slice a2 P.js.length c2, .slice a3 P.ss.length c3, .slice a4 P.ls.length c4, .int .i64 P.top, .int .i64 P.brake, .int .i64 P.margin, .int .i64 P.throw, .bool P.hard] 27)) := (Gr.refl _).alloc _
  have HBX : Hid (∀ w', Gr (w.alloc (.cells #[.slice a1 P.es.length c1, .slice a2 P.js.length c2, .slice a3 P.ss.length c3, .slice a4 P.ls.length c4, .int .i64 P.top, .int .i64 P.brake, .int .i64 P.margin, .int .i64 P.throw, .bool P.hard] 27)) w' → w.heap.size < w'.heap.size ∧ w'.cell? ⟨w.heap.size, 0, none⟩ = some (.slice a1 P.es.length c1) ∧ w'.cell? ⟨w.heap.size, 1, none⟩ = some (.slice a2 P.js.length c2) ∧ w'.cell? ⟨w.heap.size, 2, none⟩ = some (.slice a3 P.ss.length c3) ∧ w'.cell? ⟨w.heap.size, 3, none⟩ = some (.slice a4 P.ls.length c4) ∧ w'.cell? ⟨w.heap.size, 4, none⟩ = some (.int .i64 P.top) ∧ w'.cell? ⟨w.heap.size, 5, none⟩ = some (.int .i64 P.brake) ∧ w'.cell? ⟨w.heap.size, 6, none⟩ = some (.int .i64 P.margin) ∧ w'.cell? ⟨w.heap.size, 7, none⟩ = some (.int .i64 P.throw) ∧ w'.cell? ⟨w.heap.size, 8, none⟩ = some (.bool P.hard)) := by
    intro w' g
    have z0 : w.heap.size < ((w.alloc (.cells #[.slice a1 P.es.length c1, .slice a2 P.js.length c2, .slice a3 P.ss.length c3, .slice a4 P.ls.length c4, .int .i64 P.top, .int .i64 P.brake, .int .i64 P.margin, .int .i64 P.throw, .bool P.hard] 27))).heap.size := by simp
    refine ⟨Nat.lt_of_lt_of_le z0 g.size, (g.cell _ _ z0).trans ?_, (g.cell _ _ z0).trans ?_, (g.cell _ _ z0).trans ?_, (g.cell _ _ z0).trans ?_, (g.cell _ _ z0).trans ?_, (g.cell _ _ z0).trans ?_, (g.cell _ _ z0).trans ?_, (g.cell _ _ z0).trans ?_, (g.cell _ _ z0).trans ?_⟩
    all_goals go_simp
  have HKN := Lib.hid (known21_any _ (ht.gr g0))
  have HFW := Lib.hid (fun (w' : World) (g : Gr w w') => few_any _ P w' (HPI.out.gr g))
  clear hL
  by_cases hl : 20 < L.length
  · have hl1 : 20 < (L.length : Int) := by omega
    go_enter Tryz.func9, Tryz.ntmps9
    go_wp2_with (first | (go_at_call 21; (with_reducible refine (HKN.out).mono ?_); rintro e w1 ⟨rfl, g1⟩; (obtain ⟨zp, p0, p1, p2, p3, p4, p5, p6, p7, p8⟩ := HBX.out _ g1)) | fail)
    (go_ret; exact ⟨rfl, g0.trans (by assumption)⟩)
  have hl1 : ¬ 20 < (L.length : Int) := by omega
  generalize fewB P = fb at HFW
  cases fb
  · go_enter Tryz.func9, Tryz.ntmps9
    go_wp2_with (first | (go_at_call 21; (with_reducible refine (HKN.out).mono ?_); rintro e w1 ⟨rfl, g1⟩; (obtain ⟨zp, p0, p1, p2, p3, p4, p5, p6, p7, p8⟩ := HBX.out _ g1)) | (go_at_call 29; (with_reducible refine (HFW.out _ (g0.trans g1)).mono ?_); rintro e w2 ⟨rfl, h2⟩; have g2 := g1.trans h2; (obtain ⟨zp, p0, p1, p2, p3, p4, p5, p6, p7, p8⟩ := HBX.out _ g2)) | fail)
    (go_ret; exact ⟨rfl, g0.trans (by assumption)⟩)
  have HC1 := Lib.hid (fun (w' : World) (g : Gr w w') => stCheck_any _ _ P L w' (HPI.out.gr g) (HLS.out.gr g) hsz)
  have HC2 := Lib.hid (fun (w' : World) (g : Gr w w') => stCheck_any _ _ { P with top := max P.top t2, brake := min P.brake b2 } L w' (easy_pln (HPI.out.gr g)) (HLS.out.gr g) hsz)
  have HMN : checkS P.top P.brake L = 0 → checkS (max P.top t2) (min P.brake b2) L = 0 := check_mono (by omega) (by omega)
  have HA0 : Hid (∀ k (hk : k < L.length), mayS L[k] = false → checkS P.top P.brake L ≠ 0) := fun k hk h1 h2 => by rw [check_may h2 _ (List.getElem_mem hk)] at h1; cases h1
  have HB0 : Hid (∀ k (hk : k < L.length), mayS L[k] = false → checkS (max P.top t2) (min P.brake b2) L ≠ 0) := fun k hk h1 h2 => by rw [check_may h2 _ (List.getElem_mem hk)] at h1; cases h1
  have HSZ := Lib.hid hsz
  dsimp only at HC2
  clear hsz hok
  go_enter Tryz.func9, Tryz.ntmps9
  go_wp2_with (first | (go_at_call 21; (with_reducible refine (HKN.out).mono ?_); rintro e w1 ⟨rfl, g1⟩; (obtain ⟨zp, p0, p1, p2, p3, p4, p5, p6, p7, p8⟩ := HBX.out _ g1)) | (go_at_call 29; (with_reducible refine (HFW.out _ (g0.trans g1)).mono ?_); rintro e w2 ⟨rfl, h2⟩; have g2 := g1.trans h2; (obtain ⟨zp, p0, p1, p2, p3, p4, p5, p6, p7, p8⟩ := HBX.out _ g2)) | fail)
  go_region
  generalize max P.top t2 = tt at *
  generalize min P.brake b2 = bb at *
  generalize checkS P.top P.brake L = A at *
  generalize checkS tt bb L = B at *
  have g3 : Gr w2 (w2.alloc (.cells #[.slice a1 P.es.length c1, .slice a2 P.js.length c2, .slice a3 P.ss.length c3, .slice a4 P.ls.length c4, .int .i64 tt, .int .i64 bb, .int .i64 P.margin, .int .i64 P.throw, .bool P.hard] 27)).drew := ((Gr.refl w2).alloc _).drew
  obtain ⟨zq, q0, q1, q2, q3, q4, q5, q6, q7, q8⟩ := (PBox.new w2 { P with top := tt, brake := bb } (.slice a1 P.es.length c1) (.slice a2 P.js.length c2) (.slice a3 P.ss.length c3) (.slice a4 P.ls.length c4)).gr ((Gr.refl _).drew)
  dsimp only at q0 q1 q2 q3 q4 q5 q6 q7 q8
  have g23 := g2.trans g3
  (obtain ⟨zp, p0, p1, p2, p3, p4, p5, p6, p7, p8⟩ := HBX.out _ g23)
  generalize (w2.alloc (.cells #[.slice a1 P.es.length c1, .slice a2 P.js.length c2, .slice a3 P.ss.length c3, .slice a4 P.ls.length c4, .int .i64 tt, .int .i64 bb, .int .i64 P.margin, .int .i64 P.throw, .bool P.hard] 27)).drew = w3 at *
  have hcb := fun (i : GrW w3) (o : Nat) => GrW.cell zp i o
  have hcq := fun (i : GrW w3) (o : Nat) => GrW.cell zq i o
  have gw3 := g0.trans g23
  go_upto_region 7 with (fail)
  (refine wp_region_gr (by kernel_rfl) (by kernel_rfl) ?_; (repeat (go_big_quiet_step ((go_at_call 30; first | (with_reducible exact Calls.gr_of (HC1.out _ (gw3.trans (GrW.gr _)))) | (with_reducible exact Calls.gr_of (HC2.out _ (gw3.trans (GrW.gr _)))))))); refine wpQuiet_nil ?_; intro wz hz; obtain ⟨iz, hz⟩ := hz; obtain ⟨wn, gn⟩ := iz; dsimp only at hz; obtain rfl := hz.symm)
  have gwn := gw3.trans gn
  have HMN2 := Lib.hid HMN
  clear p0 p1 p2 p3 p4 p5 p6 p7 p8 q0 q1 q2 q3 q4 q5 q6 q7 q8 hcb hcq HC1 HC2 HBX HKN HFW HPI HPK HMN
  go_wp2_with fail
  go_loopw [13, 45] (fun _ x wr => ∃ k : Nat, x = .int .i64 k ∧ k ≤ L.length ∧ Gr w wr) (fun _ x _ => L.length - (intOf x).toNat)
  case atStart => exact ⟨0, rfl, Nat.zero_le _, gwn⟩
  case round =>
    obtain ⟨k, rfl, hk, g⟩ := hrel
    by_cases hlt : k < L.length
    · have hk1 : (k : Int) < (L.length : Int) := by omega
      obtain ⟨bx, o, hs, z, y0, y1, y2, y3, y4⟩ := (HLS.out.gr g).at k hlt
      subst hs
      have hsz := HSZ.out _ (List.getElem_mem hlt)
      have HM := Lib.hid (fun w' => stMay_any L[k].nm L[k].l L[k].t L[k].a L[k].b hsz w')
      have HA1 := Lib.hid (HA0.out k hlt)
      have HB1 := Lib.hid (HB0.out k hlt)
      have e : mayS L[k] = mayB L[k].nm L[k].l L[k].t L[k].a L[k].b := rfl
      rw [← e] at HM
      clear e
      generalize mayS L[k] = q at HM HA1 HB1
      generalize L[k] = s at y0 y1 y2 y3 y4 HM hsz
      obtain ⟨nm, l, t, a', b⟩ := s
      dsimp only at y0 y1 y2 y3 y4 HM hsz
      cases q
      · have tA : (A == 0) = false := beqF (HA1.out rfl)
        have tB : (B == 0) = false := beqF (HB1.out rfl)
        clear HA1 HB1
        go_wp2_with (first | (go_at_call 31; (with_reducible refine (HM.out _).mono ?_); rintro e wy ⟨rfl, h2⟩) | fail)
        go_roundw
        case rel => exact ⟨k + 1, by go_num, hlt, by first | exact (g.alloc _).trans h2 | exact ((g.alloc _).trans h2).drewN _⟩
        case measure => simp [intOf]; omega
      · clear HA1 HB1
        go_wp2_with (first | (go_at_call 31; (with_reducible refine (HM.out _).mono ?_); rintro e wy ⟨rfl, h2⟩) | fail)
        go_roundw
        case rel => exact ⟨k + 1, by go_num, hlt, by first | exact (g.alloc _).trans h2 | exact ((g.alloc _).trans h2).drewN _⟩
        case measure => simp [intOf]; omega
    · have hk1 : ¬ (k : Int) < (L.length : Int) := by omega
      by_cases hA : A = 0
      · have tA : (A != 0) = false := bneF hA
        have tB : (B == 0) = true := beqT (HMN2.out hA)
        clear hA
        go_wp2_with fail
        go_ret
        exact ⟨rfl, g⟩
      · have tA : (A != 0) = true := bneT hA
        clear hA
        go_wp2_with fail
        go_ret
        exact ⟨rfl, g⟩
end Go.Proofs.YtaanepadgoefhaaGreatDoor
