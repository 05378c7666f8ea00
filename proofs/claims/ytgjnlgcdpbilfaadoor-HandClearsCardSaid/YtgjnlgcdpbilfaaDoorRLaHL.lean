/- HandClears. -/
import Derived.Test.YtgjnlgcdpbilfaaDoorRows
import Derived.Test.YtgjnlgcdpbilfaaDoorB12
import Derived.Test.YtgjnlgcdpbilfaaDoorB14
import Derived.Deep.Upon
import Derived.Deep.AppendSrc
namespace Go.Proofs.YtgjnlgcdpbilfaaDoor
open Go.ChangeShapes Go.WideShapes Go.ChangeAt Go.RowKit Go.Maps
set_option linter.unusedVariables false
set_option linter.unusedSimpArgs false
theorem clears_append_empty {P : Program} {w : World} {ops : Array Oper} {rest : List Oper} {o : Oper} {a : Act} {Q : Exit → Act → World → Prop} (hgd : o.guard = none) (s x : Operand) (t : TypeId)
    (ho : o.op = .call { callee := .builtin .append, args := #[s, x], argTypes := #[t, t] }) (v u : Value) (hs : a.eval s = v) (hx : a.eval x = u) (hrun : (Builtin.append_ #[t, t] o.type #[v, u]).run P w = .ok v w)
    (h : wpList P ops Q rest (a.put o.dst v) w) : wpList P ops Q (o :: rest) a w := by
  refine wpList_plain hgd fun K hK => ?_
  unfold Oper.wp
  simp [execOp, ho, resolve, invoke, builtin, hs, hx, hrun, Result.andThen]
  exact hK _ _ h
theorem Tryd.infoIn : (Tryd.prog.info? 3).map (fun i => (i.zero, i.size, i.bytes)) = some (some (.int .i64 0), 1, 8) := by kernel_rfl
theorem append_nilI (w : World) (la : Option Addr) (lc b : Nat) : (Builtin.append_ #[28, 28] 28 #[.slice (some ⟨b, 0, none⟩) 0 0, .slice la 0 lc]).run Tryd.prog w = .ok (.slice (some ⟨b, 0, none⟩) 0 0) w := by
  obtain ⟨i0, hi, hz0, hz1, hz2⟩ := info_parts Tryd.infoIn
  have ht := Tryd.underlying28
  cases la with
  | none => exact run_append_nothing w _ _ _ _ i0 ht hi _ 0 0 (Nat.le_refl _) _ (Src.ofNil w ht lc)
  | some a => exact run_append_nothing w _ _ _ _ i0 ht hi _ 0 0 (Nat.le_refl _) _ (Src.ofSlice w ht a 0 lc [] (by simp) (fun j u h => by simp at h) (fun u h => by simp at h))
theorem vals_own {B : Nat} {w : World} {v : Value} {L : List Int} (h : w.ownsRow B 3 1 v L.length (L.map (Value.int .i64))) (hl : L.length ≤ maxLen) : IsVals w v (L.map (Value.int .i64)) := by
  obtain ⟨h1, h2⟩ := h
  rcases h2 with ⟨rfl, h0⟩ | ⟨g, cap, cur, rfl, hg, hh, hn, hcap, hsz, htake⟩
  · have : L = [] := List.length_eq_zero_iff.1 h0
    subst this
    exact ⟨none, 0, rfl, by simp, .inl rfl⟩
  · refine ⟨some ⟨g, 0, none⟩, cap, by simp, by simpa using hl, .inr ⟨g, 0, rfl, ?_, ?_⟩⟩
    · rcases Nat.lt_or_ge g w.heap.size with h | h
      · exact h
      · rw [Array.getElem?_eq_none h] at hh; cases hh
    · intro i x hx
      rw [← htake] at hx
      unfold World.cell?
      simp only [hh]
      rw [List.getElem?_take] at hx
      split at hx
      · simpa using hx
      · cases hx
theorem passP_same (L : List Int) (i : Nat) (h : passP L i = true) : passP L i = true := h
set_option maxRecDepth 100000 in
set_option maxHeartbeats 4000000 in
theorem handClears_walk (pv : Value) (P : Pln) (posv : Value) (pos : List Int) (lv : Value) (L : List Int) (sig len : Int) (bv : Value) (B : Bdy) (w : World) (hs0 : w.ShapedOpen Tryd.prog)
    (hP : IsPln w pv P ∧ PlnOk P) (hpos : IsVals w posv (pos.map (Value.int .i64)) ∧ ∀ n ∈ pos, (Lit.int .i64 n).wf = true) (hL : IsVals w lv (L.map (Value.int .i64)) ∧ ∀ n ∈ L, (Lit.int .i64 n).wf = true) (wsg : (Lit.int .i64 sig).wf = true) (wln : (Lit.int .i64 len).wf = true) (hB : IsBdy w bv B ∧ (∀ x ∈ B.trail, PrtOk x) ∧ I64 B.mode ∧ I64 B.left ∧ I64 B.over ∧ I64 B.v) :
    Calls Tryd.prog 3 #[pv, posv, lv, .int .i64 sig, .int .i64 len, bv] w fun e w' => e = .returned (.bool true) ∧ Gr w w' := by
  obtain ⟨hP, hpk⟩ := hP
  have HPI := Lib.hid hP
  have HPK := Lib.hid hpk
  obtain ⟨a1, c1, a2, c2, a3, c3, a4, c4, rfl, -⟩ := hP
  obtain ⟨hpos, -⟩ := hpos
  have HPO := Lib.hid hpos
  obtain ⟨pa, pc, rfl, hpm, -⟩ := hpos
  obtain ⟨hL, -⟩ := hL
  have HLA := Lib.hid hL
  obtain ⟨la, lc, rfl, hlm, hlx⟩ := hL
  rw [List.length_map] at HPO HLA hpm hlm ⊢
  rw [List.length_map]
  unfold maxLen at hpm hlm
  obtain ⟨hB, hTO, -⟩ := hB
  have HBD := Lib.hid hB
  have HTO := Lib.hid hTO
  obtain ⟨ta, tc, rfl, ht⟩ := hB
  have htm := IsRow.len ht
  unfold maxLen at htm
  obtain ⟨mode, T, left, over, v⟩ := B
  unfold plnV bdyV at *
  dsimp only at *
  clear ht hTO hpk wsg wln
  have g0 : Gr w ((w.alloc (.cells #[.slice a1 P.es.length c1, .slice a2 P.js.length c2, .slice a3 P.ss.length c3, .slice a4 P.ls.length c4, .int .i64 P.top, .int .i64 P.brake, .int .i64 P.margin, .int .i64 P.throw, .bool P.hard] 27)).alloc (.cells #[.int .i64 mode, .slice ta T.length tc, .int .i64 left, .int .i64 over, .int .i64 v] 31)) := ((Gr.refl _).alloc _).alloc _
  have HBX : Hid (∀ w', Gr ((w.alloc (.cells #[.slice a1 P.es.length c1, .slice a2 P.js.length c2, .slice a3 P.ss.length c3, .slice a4 P.ls.length c4, .int .i64 P.top, .int .i64 P.brake, .int .i64 P.margin, .int .i64 P.throw, .bool P.hard] 27)).alloc (.cells #[.int .i64 mode, .slice ta T.length tc, .int .i64 left, .int .i64 over, .int .i64 v] 31)) w' → w.heap.size < w'.heap.size ∧ w'.cell? ⟨w.heap.size, 0, none⟩ = some (.slice a1 P.es.length c1) ∧ w'.cell? ⟨w.heap.size, 1, none⟩ = some (.slice a2 P.js.length c2) ∧ w'.cell? ⟨w.heap.size, 2, none⟩ = some (.slice a3 P.ss.length c3) ∧ w'.cell? ⟨w.heap.size, 3, none⟩ = some (.slice a4 P.ls.length c4) ∧ w'.cell? ⟨w.heap.size, 4, none⟩ = some (.int .i64 P.top) ∧ w'.cell? ⟨w.heap.size, 5, none⟩ = some (.int .i64 P.brake) ∧ w'.cell? ⟨w.heap.size, 6, none⟩ = some (.int .i64 P.margin) ∧ w'.cell? ⟨w.heap.size, 7, none⟩ = some (.int .i64 P.throw) ∧ w'.cell? ⟨w.heap.size, 8, none⟩ = some (.bool P.hard) ∧ w.heap.size + 1 < w'.heap.size ∧ w'.cell? ⟨w.heap.size + 1, 0, none⟩ = some (.int .i64 mode) ∧ w'.cell? ⟨w.heap.size + 1, 1, none⟩ = some (.slice ta T.length tc) ∧ w'.cell? ⟨w.heap.size + 1, 2, none⟩ = some (.int .i64 left) ∧ w'.cell? ⟨w.heap.size + 1, 3, none⟩ = some (.int .i64 over) ∧ w'.cell? ⟨w.heap.size + 1, 4, none⟩ = some (.int .i64 v)) := by
    intro w' g
    have z1 : w.heap.size + 1 < (((w.alloc (.cells #[.slice a1 P.es.length c1, .slice a2 P.js.length c2, .slice a3 P.ss.length c3, .slice a4 P.ls.length c4, .int .i64 P.top, .int .i64 P.brake, .int .i64 P.margin, .int .i64 P.throw, .bool P.hard] 27)).alloc (.cells #[.int .i64 mode, .slice ta T.length tc, .int .i64 left, .int .i64 over, .int .i64 v] 31))).heap.size := by simp
    have z0 : w.heap.size < (((w.alloc (.cells #[.slice a1 P.es.length c1, .slice a2 P.js.length c2, .slice a3 P.ss.length c3, .slice a4 P.ls.length c4, .int .i64 P.top, .int .i64 P.brake, .int .i64 P.margin, .int .i64 P.throw, .bool P.hard] 27)).alloc (.cells #[.int .i64 mode, .slice ta T.length tc, .int .i64 left, .int .i64 over, .int .i64 v] 31))).heap.size := by omega
    refine ⟨Nat.lt_of_lt_of_le z0 g.size, (g.cell _ _ z0).trans ?_, (g.cell _ _ z0).trans ?_, (g.cell _ _ z0).trans ?_, (g.cell _ _ z0).trans ?_, (g.cell _ _ z0).trans ?_, (g.cell _ _ z0).trans ?_, (g.cell _ _ z0).trans ?_, (g.cell _ _ z0).trans ?_, (g.cell _ _ z0).trans ?_, Nat.lt_of_lt_of_le z1 g.size, (g.cell _ _ z1).trans ?_, (g.cell _ _ z1).trans ?_, (g.cell _ _ z1).trans ?_, (g.cell _ _ z1).trans ?_, (g.cell _ _ z1).trans ?_⟩
    all_goals go_simp
  have HKN := Lib.hid (known25_any _ (shp_gr hs0 g0))
  have HFI := Lib.hid (fun (w' : World) (g : Gr w w') => fine_any _ P w' (HPI.out.gr g) HPK.out)
  have HFC := Lib.hid (fine_chk (P := P))
  have HMK0 := Lib.hid (fun (hf : fineB P = true) (w' : World) (g : Gr w w') => made_fine _ P w' (HPI.out.gr g) HPK.out hf)
  by_cases n1 : 100 < pos.length
  · have n1' : 100 < (pos.length : Int) := by omega
    go_enter Tryd.func3, Tryd.ntmps3
    go_wp2_with (first | (go_at_call 5; (with_reducible refine (HKN.out).mono ?_); rintro e w1 ⟨rfl, g1⟩; (obtain ⟨zp, p0, p1, p2, p3, p4, p5, p6, p7, p8, zt, t0, t1, t2, t3, t4⟩ := HBX.out _ g1)) | fail)
    (go_ret; exact ⟨rfl, g0.trans (by assumption)⟩)
  have n1' : ¬ 100 < (pos.length : Int) := by omega
  by_cases n2 : 100 < L.length
  · have n2' : 100 < (L.length : Int) := by omega
    go_enter Tryd.func3, Tryd.ntmps3
    go_wp2_with (first | (go_at_call 5; (with_reducible refine (HKN.out).mono ?_); rintro e w1 ⟨rfl, g1⟩; (obtain ⟨zp, p0, p1, p2, p3, p4, p5, p6, p7, p8, zt, t0, t1, t2, t3, t4⟩ := HBX.out _ g1)) | fail)
    (go_ret; exact ⟨rfl, g0.trans (by assumption)⟩)
  have n2' : ¬ 100 < (L.length : Int) := by omega
  by_cases n3 : 5000 < T.length
  · have n3' : 5000 < (T.length : Int) := by omega
    go_enter Tryd.func3, Tryd.ntmps3
    go_wp2_with (first | (go_at_call 5; (with_reducible refine (HKN.out).mono ?_); rintro e w1 ⟨rfl, g1⟩; (obtain ⟨zp, p0, p1, p2, p3, p4, p5, p6, p7, p8, zt, t0, t1, t2, t3, t4⟩ := HBX.out _ g1)) | fail)
    (go_ret; exact ⟨rfl, g0.trans (by assumption)⟩)
  have n3' : ¬ 5000 < (T.length : Int) := by omega
  generalize fineB P = fb at HFI HFC HMK0
  cases fb
  · go_enter Tryd.func3, Tryd.ntmps3
    go_wp2_with (first | (go_at_call 5; (with_reducible refine (HKN.out).mono ?_); rintro e w1 ⟨rfl, g1⟩; (obtain ⟨zp, p0, p1, p2, p3, p4, p5, p6, p7, p8, zt, t0, t1, t2, t3, t4⟩ := HBX.out _ g1)) | (go_at_call 6; (with_reducible refine (HFI.out _ (g0.trans g1)).mono ?_); rintro e w2 ⟨rfl, h2⟩; have g2 := g1.trans h2; (obtain ⟨zp, p0, p1, p2, p3, p4, p5, p6, p7, p8, zt, t0, t1, t2, t3, t4⟩ := HBX.out _ g2)) | fail)
    (go_ret; exact ⟨rfl, g0.trans (by assumption)⟩)
  have hck := HFC.out rfl
  have HMK := Lib.hid (HMK0.out rfl)
  clear HFC HMK0
  have HMB := Lib.hid (fun (w' : World) (g : Gr w w') => mayBody_any _ _ P ⟨mode, T, left, over, v⟩ len w' (HPI.out.gr g) hck (HBD.out.gr g) (by show T.length ≤ 5000; omega))
  have HSE := Lib.hid (fun (nb : Nat) (w' : World) (g : Gr w w') (hn : NetIs w' nb P) => sees_any nb P _ _ _ pos L ⟨mode, T, left, over, v⟩ w' hn (HPO.out.gr g) (HLA.out.gr g) (HBD.out.gr g) HPK.out HTO.out (fun m => (fine_len hck m).1))
  have HSF := Lib.hid (fun (M : List Int) (nb : Nat) (w' : World) (g : Gr w w') (hn : NetIs w' nb P) (u : Value) (hu : IsVals w' u (M.map (Value.int .i64))) => sees_any nb P _ u _ pos M ⟨mode, T, left, over, v⟩ w' hn (HPO.out.gr g) hu (HBD.out.gr g) HPK.out HTO.out (fun m => (fine_len hck m).1))
  have HMO := Lib.hid (fun (M : List Int) (hm : ∀ i, passP L i = true → passP M i = true) => seesP_mono (P := P) pos (⟨mode, T, left, over, v⟩ : Bdy) hm)
  unfold BdyOk at HMB
  try unfold plnV at *
  try unfold bdyV at *
  try dsimp only at HMB HSE HSF HMO
  go_enter Tryd.func3, Tryd.ntmps3
  go_wp2_with (first | (go_at_call 5; (with_reducible refine (HKN.out).mono ?_); rintro e w1 ⟨rfl, g1⟩; (obtain ⟨zp, p0, p1, p2, p3, p4, p5, p6, p7, p8, zt, t0, t1, t2, t3, t4⟩ := HBX.out _ g1)) | (go_at_call 6; (with_reducible refine (HFI.out _ (g0.trans g1)).mono ?_); rintro e w2 ⟨rfl, h2⟩; have g2 := g1.trans h2; (obtain ⟨zp, p0, p1, p2, p3, p4, p5, p6, p7, p8, zt, t0, t1, t2, t3, t4⟩ := HBX.out _ g2)) | (go_at_call 7; (with_reducible refine (HMB.out _ (g0.trans g2)).mono ?_); rintro e w3 ⟨m, rfl, h3, hok⟩; have g3 := g2.trans h3; (obtain ⟨zp, p0, p1, p2, p3, p4, p5, p6, p7, p8, zt, t0, t1, t2, t3, t4⟩ := HBX.out _ g3); rcases m with _ | _) | fail)
  · (go_ret; exact ⟨rfl, g0.trans (by assumption)⟩)
  go_upto_region 8 with (first | (go_at_call 8; (with_reducible refine (HMK.out _ (g0.trans g3)).mono ?_); rintro e w5 ⟨nb, rfl, hnet, h5⟩; have g5 := g3.trans h5; have HNT := Lib.hid hnet; clear hnet; (obtain ⟨zp, p0, p1, p2, p3, p4, p5, p6, p7, p8, zt, t0, t1, t2, t3, t4⟩ := HBX.out _ g5)) | fail)
  have gw5 := g0.trans g5
  have hbk := hok (by trivial)
  have HOK := Lib.hid hbk.1
  have hww : w.heap.size ≤ w5.heap.size := gw5.size
  clear hok hbk
  go_cut [14] from 49 to 52 (fun m wc => ∃ gg cap : Nat, m = .slice (some ⟨gg, 0, none⟩) L.length cap ∧ w5.heap.size ≤ gg ∧ Gr w5 wc ∧ Hid (wc.ownsRow w5.heap.size 3 1 (.slice (some ⟨gg, 0, none⟩) L.length cap) L.length (L.map (Value.int .i64))))
  case first =>
    have hown : (w5.alloc (.cells #[] 3)).ownsRow w5.heap.size 3 1 (.slice (some ⟨w5.heap.size, 0, none⟩) 0 0) 0 [] :=
      ⟨rfl, .inr ⟨w5.heap.size, 0, #[], rfl, Nat.le_refl _, heap_alloc_new w5 _, Nat.le_refl _, Nat.zero_le _, rfl, rfl⟩⟩
    have HO := Lib.hid hown
    clear hown zp p0 p1 p2 p3 p4 p5 p6 p7 p8 zt t0 t1 t2 t3 t4
    by_cases hl0 : L = []
    · have hln : L.length = 0 := by rw [hl0]; rfl
      have HNIL : ∀ w', (Builtin.append_ #[28, 28] 28 #[.slice (some ⟨w5.heap.size, 0, none⟩) 0 0, .slice la L.length lc]).run Tryd.prog w' = .ok (.slice (some ⟨w5.heap.size, 0, none⟩) 0 0) w' := fun w' => by
        rw [hln]; exact append_nilI w' la lc w5.heap.size
      have HL0 := Lib.hid hl0
      clear hln hl0
      go_wp2_with (first | (at_builtin; refine clears_append_empty rfl _ _ 28 rfl _ _ rfl rfl (HNIL _) ?_))
      go_meet
      case rel => exact ⟨w5.heap.size, 0, by rw [HL0.out]; rfl, Nat.le_refl _, (Gr.refl _).alloc _, by show World.ownsRow _ _ _ _ _ _ _; rw [HL0.out]; exact HO.out⟩
    · have hl1 : 0 < L.length := List.length_pos_iff.2 hl0
      obtain ⟨ab, hab⟩ : ∃ ab, la = some ab := by
        obtain ⟨a', c', e, -, hx⟩ := HLA.out
        simp only [Value.slice.injEq] at e
        obtain ⟨rfl, -, rfl⟩ := e
        rcases hx with hx | ⟨b, o, e, -⟩
        · exact absurd (by simpa using hx) hl0
        · exact ⟨_, e⟩
      subst hab
      have HNW : Hid (∀ w', Gr w w' → ∀ j u, (L.map (Value.int .i64))[j]? = some u → w'.cell? (ab.add j) = some u) := fun w' g j u hu => by
        obtain ⟨a', c', e, -, hx⟩ := HLA.out.gr g
        simp only [Value.slice.injEq] at e
        obtain ⟨rfl, -, rfl⟩ := e
        rcases hx with hx | ⟨b, o, e, hb, hc⟩
        · exact absurd (by simpa using hx) hl0
        · cases e
          rw [Go.WideShapes.add_plain]
          exact hc j u hu
      obtain ⟨i0, hi0, hz0, hz1, hz2⟩ := info_parts Tryd.infoIn
      go_wp2_with (first | (at_builtin; refine wpList_append_own _ rfl _ _ 28 rfl w5.heap.size 3 i0 (.int .i64 0) 1 8 Tryd.underlying28 hi0 hz0 hz1 hz2 rfl (by decide) _ _ _ rfl HO.out ab L.length lc (L.map (Value.int .i64)) rfl (by simp) ?c1 ?c2 ?c3 ?c4 ?c5 ?_))
      case c1 => exact HNW.out _ (gw5.alloc _)
      case c2 => intro u hu; obtain ⟨n, -, rfl⟩ := List.mem_map.1 hu; rfl
      case c3 => unfold maxLen; omega
      case c4 => omega
      case c5 => simp
      intro v' w7 hown' hgrow _
      have hg1 : Gr w5 w7 := Gr.grown ((Gr.refl w5).alloc _) hgrow HO.out
      obtain ⟨gg, cap, rfl, hgb, hglt⟩ := hown'.form (by omega)
      go_wp2_with fail
      go_meet
      case rel => exact ⟨gg, cap, by first | rfl | simp, hgb, hg1, by show World.ownsRow _ _ _ _ _ _ _; simpa using hown'⟩
  case rest =>
    obtain ⟨gg, cap, rfl, hgb, gc, HOW⟩ := hcut
    clear zp p0 p1 p2 p3 p4 p5 p6 p7 p8 zt t0 t1 t2 t3 t4
    by_cases hsg : 0 ≤ sig ∧ sig < (L.length : Int)
    · obtain ⟨sg0, sg1⟩ := hsg
      obtain ⟨k, rfl⟩ := Int.eq_ofNat_of_zero_le sg0
      have hkL : k < L.length := by omega
      have hc14 : wc.cell? ⟨gg, k, none⟩ = some (.int .i64 L[k]) := by
        rw [World.ownsRow.cellAt HOW.out k (by omega), List.getElem?_map, List.getElem?_eq_getElem hkL]
        rfl
      have hf14 := World.ownsRow.frozenAt HOW.out k
      have HST := Lib.hid ((World.ownsRow.stored HOW.out k (.int .i64 2)).1)
      go_upto_region 11 with fail
      have g5z : Gr w5 (wc.setCell ⟨gg, k, none⟩ (.int .i64 2)) := gc.setCell hgb _
      have HV2 : Hid (IsVals (wc.setCell ⟨gg, k, none⟩ (.int .i64 2)) (.slice (some ⟨gg, 0, none⟩) L.length cap) ((L.set k 2).map (Value.int .i64))) := by
        refine vals_own (B := w5.heap.size) (L := L.set k 2) ?_ (by rw [List.length_set]; unfold maxLen; omega)
        rw [List.length_set, List.map_set]
        exact HST.out
      have HM2 := Lib.hid (fun i h => passP_set L k i h)
      clear hc14 hf14 HST HOW
      generalize (wc.setCell ⟨gg, k, none⟩ (.int .i64 2)) = wz at *
      (have HMN := Lib.hid (HMO.out (L.set k 2) HM2.out); have gwz := gw5.trans g5z; have HS1 := Lib.hid (fun (w' : World) (g : Gr wz w') => HSE.out nb w' (gwz.trans g) (HNT.out.gr (g5z.trans g))); have HS2 := Lib.hid (fun (w' : World) (g : Gr wz w') => HSF.out (L.set k 2) nb w' (gwz.trans g) (HNT.out.gr (g5z.trans g)) _ (HV2.out.gr g)); generalize seesP P pos L ⟨mode, T, left, over, v⟩ = S1 at HS1 HMN; generalize seesP P pos (L.set k 2) ⟨mode, T, left, over, v⟩ = S2 at HS2 HMN; have gz := g5.trans g5z; (obtain ⟨zp, p0, p1, p2, p3, p4, p5, p6, p7, p8, zt, t0, t1, t2, t3, t4⟩ := HBX.out _ gz); have hcb := fun (i : GrW wz) (o : Nat) => GrW.cell zt i o; clear HSE HSF HMO HMB HMK HFI HKN HPI HPO HLA HBD HPK HTO HNT HV2)
      (refine wp_region_gr (by kernel_rfl) (by kernel_rfl) ?_; (repeat (go_big_quiet_step ((go_at_call 9; first | (with_reducible exact Calls.gr_of (HS1.out _ (GrW.gr _))) | (with_reducible exact Calls.gr_of (HS2.out _ (GrW.gr _))))))); refine wpQuiet_nil ?_; intro wz hz; obtain ⟨iz, hz⟩ := hz; obtain ⟨wn, gn⟩ := iz; dsimp only at hz; obtain rfl := hz.symm)
      (obtain ⟨l1, l2, l3, l4⟩ := HMN.out; have gN := gz.trans gn; (obtain ⟨zp, p0, p1, p2, p3, p4, p5, p6, p7, p8, zt, t0, t1, t2, t3, t4⟩ := HBX.out _ gN))
      by_cases hm2 : mode = 2
      · have l5 := l4 hm2 (HOK.out (.inr hm2)).1 (HOK.out (.inr hm2)).2
        have tm2 : (mode != 2) = false := bneF hm2
        clear hm2
        go_wp2_with fail
        go_ret
        exact ⟨rfl, (gw5.trans g5z).trans gn⟩
      · have tm2 : (mode != 2) = true := bneT hm2
        clear hm2
        go_wp2_with fail
        go_ret
        exact ⟨rfl, (gw5.trans g5z).trans gn⟩
    · have HV2 : Hid (IsVals wc (.slice (some ⟨gg, 0, none⟩) L.length cap) (L.map (Value.int .i64))) := vals_own HOW.out (by unfold maxLen; omega)
      have HM2 := Lib.hid (passP_same L)
      have g5z := gc
      clear HOW
      by_cases sg0 : 0 ≤ sig
      · have sg1 : ¬ sig < (L.length : Int) := fun h => hsg ⟨sg0, h⟩
        clear hsg
        go_upto_region 11 with fail
        generalize wc = wz at *
        (have HMN := Lib.hid (HMO.out (L) HM2.out); have gwz := gw5.trans g5z; have HS1 := Lib.hid (fun (w' : World) (g : Gr wz w') => HSE.out nb w' (gwz.trans g) (HNT.out.gr (g5z.trans g))); have HS2 := Lib.hid (fun (w' : World) (g : Gr wz w') => HSF.out (L) nb w' (gwz.trans g) (HNT.out.gr (g5z.trans g)) _ (HV2.out.gr g)); generalize seesP P pos L ⟨mode, T, left, over, v⟩ = S1 at HS1 HS2 HMN; have gz := g5.trans g5z; (obtain ⟨zp, p0, p1, p2, p3, p4, p5, p6, p7, p8, zt, t0, t1, t2, t3, t4⟩ := HBX.out _ gz); have hcb := fun (i : GrW wz) (o : Nat) => GrW.cell zt i o; clear HSE HSF HMO HMB HMK HFI HKN HPI HPO HLA HBD HPK HTO HNT HV2)
        (refine wp_region_gr (by kernel_rfl) (by kernel_rfl) ?_; (repeat (go_big_quiet_step ((go_at_call 9; first | (with_reducible exact Calls.gr_of (HS1.out _ (GrW.gr _))) | (with_reducible exact Calls.gr_of (HS2.out _ (GrW.gr _))))))); refine wpQuiet_nil ?_; intro wz hz; obtain ⟨iz, hz⟩ := hz; obtain ⟨wn, gn⟩ := iz; dsimp only at hz; obtain rfl := hz.symm)
        (obtain ⟨l1, l2, l3, l4⟩ := HMN.out; have gN := gz.trans gn; (obtain ⟨zp, p0, p1, p2, p3, p4, p5, p6, p7, p8, zt, t0, t1, t2, t3, t4⟩ := HBX.out _ gN))
        by_cases hm2 : mode = 2
        · have l5 := l4 hm2 (HOK.out (.inr hm2)).1 (HOK.out (.inr hm2)).2
          have tm2 : (mode != 2) = false := bneF hm2
          clear hm2
          go_wp2_with fail
          go_ret
          exact ⟨rfl, (gw5.trans g5z).trans gn⟩
        · have tm2 : (mode != 2) = true := bneT hm2
          clear hm2
          go_wp2_with fail
          go_ret
          exact ⟨rfl, (gw5.trans g5z).trans gn⟩
      · have sg1 : sig < 0 := by omega
        clear hsg
        go_upto_region 11 with fail
        generalize wc = wz at *
        (have HMN := Lib.hid (HMO.out (L) HM2.out); have gwz := gw5.trans g5z; have HS1 := Lib.hid (fun (w' : World) (g : Gr wz w') => HSE.out nb w' (gwz.trans g) (HNT.out.gr (g5z.trans g))); have HS2 := Lib.hid (fun (w' : World) (g : Gr wz w') => HSF.out (L) nb w' (gwz.trans g) (HNT.out.gr (g5z.trans g)) _ (HV2.out.gr g)); generalize seesP P pos L ⟨mode, T, left, over, v⟩ = S1 at HS1 HS2 HMN; have gz := g5.trans g5z; (obtain ⟨zp, p0, p1, p2, p3, p4, p5, p6, p7, p8, zt, t0, t1, t2, t3, t4⟩ := HBX.out _ gz); have hcb := fun (i : GrW wz) (o : Nat) => GrW.cell zt i o; clear HSE HSF HMO HMB HMK HFI HKN HPI HPO HLA HBD HPK HTO HNT HV2)
        (refine wp_region_gr (by kernel_rfl) (by kernel_rfl) ?_; (repeat (go_big_quiet_step ((go_at_call 9; first | (with_reducible exact Calls.gr_of (HS1.out _ (GrW.gr _))) | (with_reducible exact Calls.gr_of (HS2.out _ (GrW.gr _))))))); refine wpQuiet_nil ?_; intro wz hz; obtain ⟨iz, hz⟩ := hz; obtain ⟨wn, gn⟩ := iz; dsimp only at hz; obtain rfl := hz.symm)
        (obtain ⟨l1, l2, l3, l4⟩ := HMN.out; have gN := gz.trans gn; (obtain ⟨zp, p0, p1, p2, p3, p4, p5, p6, p7, p8, zt, t0, t1, t2, t3, t4⟩ := HBX.out _ gN))
        by_cases hm2 : mode = 2
        · have l5 := l4 hm2 (HOK.out (.inr hm2)).1 (HOK.out (.inr hm2)).2
          have tm2 : (mode != 2) = false := bneF hm2
          clear hm2
          go_wp2_with fail
          go_ret
          exact ⟨rfl, (gw5.trans g5z).trans gn⟩
        · have tm2 : (mode != 2) = true := bneT hm2
          clear hm2
          go_wp2_with fail
          go_ret
          exact ⟨rfl, (gw5.trans g5z).trans gn⟩
end Go.Proofs.YtgjnlgcdpbilfaaDoor
