/- Chka: The document's answer: enters: the walk.
Chkb: The document's answer: lines.
Pac1s: Pace: held, may, Next and the reference's.
Pac2s: Pace: braking distances.
Chk4: The document's answer: long. -/
import Derived.Test.YtjblplflgiibdaaGreatDoorRows
import Derived.Test.YtjblplflgiibdaaGreatDoorB3
import Derived.Deep.RegionHeld3
import Derived.Deep.AppendLies
import Derived.Test.YtjblplflgiibdaaGreatDoorB1
import Derived.Deep.RegionWith
import Derived.Test.YtjblplflgiibdaaGreatDoorB2
namespace Go.Proofs.YtjblplflgiibdaaGreatDoor
open Go.ChangeShapes Go.WideShapes Go.ChangeAt Go.RowKit
set_option linter.unusedVariables false
set_option linter.unusedSimpArgs false
def RetE (w : World) (P : Pln) (L : List Int) (e : Ending) (w' : World) : Prop := ∃ v, e = .returned (.tuple #[v, .bool (entB P L)]) ∧ Gr w w' ∧ (entB P L = true → IsVals w' v ((entL P L).map (Value.int .i64)))
theorem RetE.no {w w' : World} {P : Pln} {L : List Int} (h : entB P L = false) (g : Gr w w') : RetE w P L (.returned (.tuple #[.slice none 0 0, .bool false])) w' :=
  ⟨_, by rw [h], g, fun h' => by rw [h] at h'; cases h'⟩
theorem RetE.yes {w w' : World} {P : Pln} {L : List Int} {v : Value} (h : entB P L = true) (hv : IsVals w' v ((entL P L).map (Value.int .i64))) (g : Gr w w') : RetE w P L (.returned (.tuple #[v, .bool true])) w' :=
  ⟨_, by rw [h], g, fun _ => hv⟩
def StOut (P : Pln) (A0 A1 : Int) (k : Nat) (O : Int) : Prop := (k = 2 ∧ O = -1) ∨ (k = 1 ∧ O = if joinsTo P ⟨A0, 1⟩ A1 then 1 else -1) ∨ (k = 0 ∧ O = outOf P A0 A1)
theorem StOut.no {P : Pln} {A0 A1 : Int} {k : Nat} {O : Int} (h : StOut P A0 A1 k O) (hk : 0 < k) (hj : joinsTo P ⟨A0, (k : Int) - 1⟩ A1 = false) : StOut P A0 A1 (k - 1) O := by
  rcases h with ⟨rfl, rfl⟩ | ⟨rfl, rfl⟩ | ⟨rfl, rfl⟩
  · refine .inr (.inl ⟨rfl, ?_⟩)
    rw [show joinsTo P ⟨A0, 1⟩ A1 = false from hj]; rfl
  · refine .inr (.inr ⟨rfl, ?_⟩)
    rw [outOf_eq, show joinsTo P ⟨A0, 0⟩ A1 = false from hj]; rfl
  · omega
theorem StOut.yes {P : Pln} {A0 A1 : Int} {k : Nat} {O : Int} (h : StOut P A0 A1 k O) (hk : 0 < k) (hj : joinsTo P ⟨A0, (k : Int) - 1⟩ A1 = true) : StOut P A0 A1 (k - 1) ((k : Int) - 1) := by
  rcases h with ⟨rfl, rfl⟩ | ⟨rfl, rfl⟩ | ⟨rfl, rfl⟩
  · refine .inr (.inl ⟨rfl, ?_⟩)
    rw [show joinsTo P ⟨A0, 1⟩ A1 = true from hj]; rfl
  · refine .inr (.inr ⟨rfl, ?_⟩)
    rw [outOf_eq, show joinsTo P ⟨A0, 0⟩ A1 = true from hj]; rfl
  · omega
theorem StOut.done {P : Pln} {A0 A1 : Int} {k : Nat} {O : Int} (h : StOut P A0 A1 k O) (hk : ¬ 0 < k) : O = outOf P A0 A1 := by
  rcases h with ⟨rfl, rfl⟩ | ⟨rfl, rfl⟩ | ⟨rfl, rfl⟩
  · omega
  · omega
  · rfl
theorem outOf_bd (P : Pln) (a b : Int) : -1 ≤ outOf P a b ∧ outOf P a b ≤ 1 := by
  rw [outOf_eq]
  split
  · omega
  · split <;> omega
set_option maxRecDepth 100000 in
set_option maxHeartbeats 1000000 in
theorem refEnters_any (v u : Value) (P : Pln) (L : List Int) (w : World) (hP : IsPln w v P) (hu : IsVals w u (L.map (Value.int .i64))) (hj : ∀ x ∈ portsL P.js, hasP P x = true) (hn : L.length ≤ 1000000) :
    Calls Tryz.prog 89 #[v, u] w (RetE w P L) := by
  obtain ⟨a1, c1, a2, c2, a3, c3, a4, c4, rfl, h1, h2, h3, h4⟩ := hP
  have HPv := Lib.hid (fun (w' : World) (g : Gr w w') => IsPln.mk (w' := w') h1 h2 h3 h4 g)
  have HB := Lib.hid (bxW_box w P (.slice a1 P.es.length c1) (.slice a2 P.js.length c2) (.slice a3 P.ss.length c3) (.slice a4 P.ls.length c4))
  have hw0 := bxW_gr w P (.slice a1 P.es.length c1) (.slice a2 P.js.length c2) (.slice a3 P.ss.length c3) (.slice a4 P.ls.length c4)
  obtain ⟨wb, hwb⟩ : ∃ wb, wb = bxW w P (.slice a1 P.es.length c1) (.slice a2 P.js.length c2) (.slice a3 P.ss.length c3) (.slice a4 P.ls.length c4) := ⟨_, rfl⟩
  rw [← hwb] at HB hw0
  have hu' := hu
  obtain ⟨av, cv, rfl, -, -⟩ := hu'
  simp only [List.length_map] at hu ⊢
  unfold plnV
  have HU := Lib.hid hu
  have HWB := Lib.hid hwb
  have HJ := Lib.hid (fun x y => @next_bd P hj x y)
  clear h1 h2 h3 h4 hwb hu hj
  by_cases h0 : L.length = 0
  · have HR : Hid (entB P L = false) := by rw [List.length_eq_zero_iff.1 h0]; exact entB_nil P
    have t1 : ((L.length : Int) == 0) = true := by simp [h0]
    clear h0
    go_enter Tryz.func89, Tryz.ntmps89
    go_wp2
    go_ret2
    exact RetE.no HR.out ((Gr.refl _).alloc _)
  have t1 : ((L.length : Int) == 0) = false := beqF (by omega)
  have h0' : 0 < L.length := by omega
  clear h0
  go_enter Tryz.func89, Tryz.ntmps89
  go_wp2_with fail
  rw [show (w.alloc (.cells #[.slice a1 P.es.length c1, .slice a2 P.js.length c2, .slice a3 P.ss.length c3, .slice a4 P.ls.length c4, .int .i64 P.top, .int .i64 P.brake, .int .i64 P.margin, .int .i64 P.throw, .bool P.hard] 28)) = wb from HWB.out.symm]
  clear HWB
  go_loopw [6] (fun x wr => ∃ i : Nat, x = .int .i64 i ∧ i ≤ L.length ∧ Gr wb wr ∧ Hid (∀ j (hj : j < L.length), j < i → kindP P L[j] = 1)) (fun x _ => L.length - (intOf x).toNat)
  case atStart => exact ⟨0, rfl, Nat.zero_le _, Gr.refl _, fun j _ h => by omega⟩
  case round =>
    obtain ⟨i, rfl, hi, g, HA⟩ := hrel
    have hB := HB.out.gr g
    have hwr : Gr w wr := hw0.trans g
    by_cases hlt : i < L.length
    · have i1 : (i : Int) < (L.length : Int) := by omega
      obtain ⟨b, o, hsome, zs, y0⟩ := ints_at (HU.out.gr hwr) i hlt
      subst hsome
      have HNO := Lib.hid (@entB_kind P L i hlt)
      have HA' : Hid (kindP P L[i] = 1 → ∀ j (hj : j < L.length), j < i + 1 → kindP P L[j] = 1) := by
        intro h j hj hjk
        by_cases e : j = i
        · subst e; exact h
        · exact HA.out j hj (by omega)
      clear HA
      have HK := Lib.hid (fun (v' : Value) (w' : World) (h : IsPln w' v' P) => kind_any v' P L[i] w' h)
      generalize L[i] = x at *
      generalize kindP P x = kx at *
      obtain ⟨zb, b0, b1, b2, b3, b4, b5, b6, b7, b8⟩ := hB
      have hcb := fun (i : GrW wr) (o : Nat) => GrW.cell zb i o
      have hcp := fun (i : GrW wr) (o : Nat) => GrW.cell zs i o
      by_cases hkx : kx = 1
      · have t2 := bneF hkx
        have HG := Lib.hid (HA'.out hkx)
        clear hkx
        go_wp2_with fail
        (refine wp_region_gr (by kernel_rfl) (by kernel_rfl) ?_; (repeat (go_big_quiet_step ((go_at_call 86; exact Calls.gr_of (HK.out _ _ (HPv.out _ (hwr.trans (GrW.gr _)))))))); refine wpQuiet_nil ?_; intro wz hz; obtain ⟨iz, hz⟩ := hz; obtain ⟨wn, gn⟩ := iz; dsimp only at hz; obtain rfl := hz.symm)
        go_wp2
        go_roundw
        case rel => exact ⟨i + 1, by go_num, by omega, g.trans gn, HG.out⟩
        case measure => simp [intOf]; omega
      · have t2 := bneT hkx
        have HR := Lib.hid (HNO.out hkx)
        clear hkx
        go_wp2_with fail
        (refine wp_region_gr (by kernel_rfl) (by kernel_rfl) ?_; (repeat (go_big_quiet_step ((go_at_call 86; exact Calls.gr_of (HK.out _ _ (HPv.out _ (hwr.trans (GrW.gr _)))))))); refine wpQuiet_nil ?_; intro wz hz; obtain ⟨iz, hz⟩ := hz; obtain ⟨wn, gn⟩ := iz; dsimp only at hz; obtain rfl := hz.symm)
        go_wp2
        go_ret2
        exact RetE.no HR.out (hwr.trans gn)
    · have HY := Lib.hid (entB_all (P := P) h0' fun j hj => HA.out j hj (by omega))
      clear HA
      by_cases hone : L.length = 1
      · have t2 : ((L.length : Int) == 1) = true := by simp [hone]
        have HR : Hid (entB P L = true) := by unfold Hid; rw [HY.out]; exact rowB_one hone
        have HE := Lib.hid (entL_one (P := P) hone)
        clear hone
        go_wp2
        go_ret2
        refine RetE.yes HR.out ?_ (hwr.alloc _)
        rw [HE.out]
        exact (OwnI.one (x := 0)).vals (by unfold maxLen; simp)
      have t2 : ((L.length : Int) == 1) = false := beqF (by omega)
      have h2 : 2 ≤ L.length := by omega
      clear hone
      have HRW := Lib.hid (rowB_two (P := P) h2)
      have HEL := Lib.hid (entL_two (P := P) h2)
      have HOO := Lib.hid (outOf_eq P (L[0]'(by omega)) (L[1]'(by omega)))
      obtain ⟨b, o, hsome, zs, y0⟩ := ints_at (HU.out.gr hwr) 0 (by omega)
      obtain ⟨b', o', hsome', zs', y1⟩ := ints_at (HU.out.gr hwr) 1 (by omega)
      subst hsome
      simp only [Option.some.injEq, Addr.mk.injEq, and_true] at hsome'
      obtain ⟨rfl, rfl⟩ := hsome'
      obtain ⟨A0, hA0⟩ : ∃ A0, A0 = L[0]'(by omega) := ⟨_, rfl⟩
      obtain ⟨A1, hA1⟩ : ∃ A1, A1 = L[1]'(by omega) := ⟨_, rfl⟩
      rw [← hA0] at HRW HEL HOO y0
      rw [← hA1] at HRW HEL HOO y1
      have HA0 := Lib.hid hA0
      have HA1 := Lib.hid hA1
      clear hA0 hA1
      go_wp2_with fail
      have HB2 := Lib.hid hB
      have Y0 := Lib.hid y0
      have Y1 := Lib.hid y1
      clear hB y0 y1
      obtain ⟨wc, hwc⟩ : ∃ wc, wc = wr := ⟨_, rfl⟩
      subst hwc
      have hwc : Gr w wc := hwr
      clear hwr g
      go_loopw [7, 8, 9, 10] (fun x y _ _ wr => ∃ (O : Int) (k : Nat), x = .int .i64 O ∧ y = .int .i64 ((k : Int) - 1) ∧ k ≤ 2 ∧ Gr wc wr ∧ Hid (StOut P A0 A1 k O)) (fun _ y _ _ _ => (intOf y + 1).toNat)
      case atStart => exact ⟨-1, 2, rfl, rfl, by omega, Gr.refl _, .inl ⟨rfl, rfl⟩⟩
      case round =>
        obtain ⟨O, k, rfl, rfl, hk, g, HO⟩ := hrel
        have hB := HB2.out.gr g
        have hwr : Gr w wr := hwc.trans g
        obtain ⟨zb, b0, b1, b2, b3, b4, b5, b6, b7, b8⟩ := hB
        have zs2 := Nat.lt_of_lt_of_le zs g.size
        have y0 := (g.cell _ _ zs).trans Y0.out
        have y1 := (g.cell _ _ zs).trans Y1.out
        by_cases hk0 : 0 < k
        · have HS : Hid (∀ w', Gr wr w' → (w'.cell? ⟨w.heap.size, 0, none⟩ = some (.slice a1 P.es.length c1) ∧ w'.cell? ⟨w.heap.size, 1, none⟩ = some (.slice a2 P.js.length c2) ∧ w'.cell? ⟨w.heap.size, 2, none⟩ = some (.slice a3 P.ss.length c3) ∧ w'.cell? ⟨w.heap.size, 3, none⟩ = some (.slice a4 P.ls.length c4) ∧ w'.cell? ⟨w.heap.size, 4, none⟩ = some (.int .i64 P.top) ∧ w'.cell? ⟨w.heap.size, 5, none⟩ = some (.int .i64 P.brake) ∧ w'.cell? ⟨w.heap.size, 6, none⟩ = some (.int .i64 P.margin) ∧ w'.cell? ⟨w.heap.size, 7, none⟩ = some (.int .i64 P.throw) ∧ w'.cell? ⟨w.heap.size, 8, none⟩ = some (.bool P.hard) ∧ w'.cell? ⟨b, o, none⟩ = some (.int .i64 A0) ∧ Gr wr w')) := fun w' h => ⟨(h.cell _ _ zb).trans b0, (h.cell _ _ zb).trans b1, (h.cell _ _ zb).trans b2, (h.cell _ _ zb).trans b3, (h.cell _ _ zb).trans b4, (h.cell _ _ zb).trans b5, (h.cell _ _ zb).trans b6, (h.cell _ _ zb).trans b7, (h.cell _ _ zb).trans b8, (h.cell _ _ zs2).trans y0, h⟩
          have HSt : Hid (∀ wx wy, (wx.cell? ⟨w.heap.size, 0, none⟩ = some (.slice a1 P.es.length c1) ∧ wx.cell? ⟨w.heap.size, 1, none⟩ = some (.slice a2 P.js.length c2) ∧ wx.cell? ⟨w.heap.size, 2, none⟩ = some (.slice a3 P.ss.length c3) ∧ wx.cell? ⟨w.heap.size, 3, none⟩ = some (.slice a4 P.ls.length c4) ∧ wx.cell? ⟨w.heap.size, 4, none⟩ = some (.int .i64 P.top) ∧ wx.cell? ⟨w.heap.size, 5, none⟩ = some (.int .i64 P.brake) ∧ wx.cell? ⟨w.heap.size, 6, none⟩ = some (.int .i64 P.margin) ∧ wx.cell? ⟨w.heap.size, 7, none⟩ = some (.int .i64 P.throw) ∧ wx.cell? ⟨w.heap.size, 8, none⟩ = some (.bool P.hard) ∧ wx.cell? ⟨b, o, none⟩ = some (.int .i64 A0) ∧ Gr wr wx) → Gr wx wy → (wy.cell? ⟨w.heap.size, 0, none⟩ = some (.slice a1 P.es.length c1) ∧ wy.cell? ⟨w.heap.size, 1, none⟩ = some (.slice a2 P.js.length c2) ∧ wy.cell? ⟨w.heap.size, 2, none⟩ = some (.slice a3 P.ss.length c3) ∧ wy.cell? ⟨w.heap.size, 3, none⟩ = some (.slice a4 P.ls.length c4) ∧ wy.cell? ⟨w.heap.size, 4, none⟩ = some (.int .i64 P.top) ∧ wy.cell? ⟨w.heap.size, 5, none⟩ = some (.int .i64 P.brake) ∧ wy.cell? ⟨w.heap.size, 6, none⟩ = some (.int .i64 P.margin) ∧ wy.cell? ⟨w.heap.size, 7, none⟩ = some (.int .i64 P.throw) ∧ wy.cell? ⟨w.heap.size, 8, none⟩ = some (.bool P.hard) ∧ wy.cell? ⟨b, o, none⟩ = some (.int .i64 A0) ∧ Gr wr wy)) := fun wx wy h h2 => HS.out _ (h.2.2.2.2.2.2.2.2.2.2.trans h2)
          have HSg : Hid (∀ wx, (wx.cell? ⟨w.heap.size, 0, none⟩ = some (.slice a1 P.es.length c1) ∧ wx.cell? ⟨w.heap.size, 1, none⟩ = some (.slice a2 P.js.length c2) ∧ wx.cell? ⟨w.heap.size, 2, none⟩ = some (.slice a3 P.ss.length c3) ∧ wx.cell? ⟨w.heap.size, 3, none⟩ = some (.slice a4 P.ls.length c4) ∧ wx.cell? ⟨w.heap.size, 4, none⟩ = some (.int .i64 P.top) ∧ wx.cell? ⟨w.heap.size, 5, none⟩ = some (.int .i64 P.brake) ∧ wx.cell? ⟨w.heap.size, 6, none⟩ = some (.int .i64 P.margin) ∧ wx.cell? ⟨w.heap.size, 7, none⟩ = some (.int .i64 P.throw) ∧ wx.cell? ⟨w.heap.size, 8, none⟩ = some (.bool P.hard) ∧ wx.cell? ⟨b, o, none⟩ = some (.int .i64 A0) ∧ Gr wr wx) → Gr wr wx) := fun wx h => h.2.2.2.2.2.2.2.2.2.2
          have hk1 : ¬ (k : Int) - 1 < 0 := by omega
          have HS1 : Hid (∀ w', Gr wr w' → w'.cell? ⟨b, o + 1, none⟩ = some (.int .i64 A1)) := fun w' h => (h.cell _ _ zs2).trans y1
          have hne : b ≠ wr.heap.size := by omega
          rcases hnx : nextL P.js ⟨A0, (k : Int) - 1⟩ with _ | ⟨ye, yx⟩
          · have HNX := Lib.hid (fun v w => refNext_none hnx v w)
            have HJN := Lib.hid (joinsTo_none (b := A1) hnx)
            dsimp only at HNX
            clear hnx
            go_wp2_with fail
            go_region_held3 (fun w' => w'.cell? ⟨w.heap.size, 0, none⟩ = some (.slice a1 P.es.length c1) ∧ w'.cell? ⟨w.heap.size, 1, none⟩ = some (.slice a2 P.js.length c2) ∧ w'.cell? ⟨w.heap.size, 2, none⟩ = some (.slice a3 P.ss.length c3) ∧ w'.cell? ⟨w.heap.size, 3, none⟩ = some (.slice a4 P.ls.length c4) ∧ w'.cell? ⟨w.heap.size, 4, none⟩ = some (.int .i64 P.top) ∧ w'.cell? ⟨w.heap.size, 5, none⟩ = some (.int .i64 P.brake) ∧ w'.cell? ⟨w.heap.size, 6, none⟩ = some (.int .i64 P.margin) ∧ w'.cell? ⟨w.heap.size, 7, none⟩ = some (.int .i64 P.throw) ∧ w'.cell? ⟨w.heap.size, 8, none⟩ = some (.bool P.hard) ∧ w'.cell? ⟨b, o, none⟩ = some (.int .i64 A0) ∧ Gr wr w') (first | exact HS.out _ (Gr.refl _).drew | exact HSt.out _ _ (by assumption) h5 | exact HSt.out _ _ (by assumption) ((Gr.refl _).alloc _) | exact HS.out _ (((Gr.refl wr).drew.trans h5).alloc _) | exact HS.out _ (Gr.setCell (Gr.setCell (((Gr.refl wr).alloc _).drew.trans h5) (Nat.le_refl _) _) (Nat.le_refl _) _)) (first | (go_at_call 85; (with_reducible refine (HNX.out _ _ (HPv.out _ (hwr.trans ?hzz))).mono ?_); (case hzz => exact HSg.out _ (by assumption)); rintro e w5 ⟨rfl, h5⟩; (first | (obtain ⟨k0, k1, f0, f1, z5⟩ := new2 h5; have y5 := HS1.out _ (((Gr.refl wr).alloc _).drew.trans h5); have g5 := ((Gr.refl wr).alloc _).drew.trans h5) | (have y5 := HS1.out _ ((Gr.refl wr).drew.trans h5); have g5 := (Gr.refl wr).drew.trans h5))))
            all_goals (first | (have HF := newAt_set (x := Value.int .i64 0) (y := Value.int .i64 0) h5; revert HF; generalize (w5.setCell ⟨wr.heap.size, 0, none⟩ (Value.int .i64 0)).setCell ⟨wr.heap.size, 1, none⟩ (Value.int .i64 0) = wz; generalize wr.heap.size = gz; intro HF) | (have HF := newAt_alloc (t := 49) (x := Value.int .i64 0) (y := Value.int .i64 0) g5; revert HF; generalize w5.alloc (.cells #[Value.int .i64 0, Value.int .i64 0] 49) = wz; generalize w5.heap.size = gz; intro HF)); obtain ⟨gn, gl, gs, q0, q1⟩ := HF
            all_goals have HO2 := Lib.hid (HO.out.no hk0 HJN.out)
            all_goals have hkk : ((k - 1 : Nat) : Int) - 1 = (k : Int) - 1 - 1 := by omega
            all_goals have HKK := Lib.hid hkk
            all_goals clear hkk
            all_goals go_wp2_with fail
            all_goals go_quiet (fail)
            all_goals go_wp2
            all_goals go_roundw
            all_goals try (case rel => exact ⟨O, k - 1, rfl, by rw [HKK.out], by omega, (g.trans gn).drewN _, HO2.out⟩)
            all_goals try (case measure => simp [intOf]; omega)
          · have HNX := Lib.hid (fun v w => refNext_some hnx v w)
            have HJN := Lib.hid (joinsTo_some (b := A1) hnx)
            dsimp only at HNX HJN
            clear hnx
            go_wp2_with fail
            go_region_held3 (fun w' => w'.cell? ⟨w.heap.size, 0, none⟩ = some (.slice a1 P.es.length c1) ∧ w'.cell? ⟨w.heap.size, 1, none⟩ = some (.slice a2 P.js.length c2) ∧ w'.cell? ⟨w.heap.size, 2, none⟩ = some (.slice a3 P.ss.length c3) ∧ w'.cell? ⟨w.heap.size, 3, none⟩ = some (.slice a4 P.ls.length c4) ∧ w'.cell? ⟨w.heap.size, 4, none⟩ = some (.int .i64 P.top) ∧ w'.cell? ⟨w.heap.size, 5, none⟩ = some (.int .i64 P.brake) ∧ w'.cell? ⟨w.heap.size, 6, none⟩ = some (.int .i64 P.margin) ∧ w'.cell? ⟨w.heap.size, 7, none⟩ = some (.int .i64 P.throw) ∧ w'.cell? ⟨w.heap.size, 8, none⟩ = some (.bool P.hard) ∧ w'.cell? ⟨b, o, none⟩ = some (.int .i64 A0) ∧ Gr wr w') (first | exact HS.out _ (Gr.refl _).drew | exact HSt.out _ _ (by assumption) h5 | exact HSt.out _ _ (by assumption) ((Gr.refl _).alloc _) | exact HS.out _ (((Gr.refl wr).drew.trans h5).alloc _) | exact HS.out _ (Gr.setCell (Gr.setCell (((Gr.refl wr).alloc _).drew.trans h5) (Nat.le_refl _) _) (Nat.le_refl _) _)) (first | (go_at_call 85; (with_reducible refine (HNX.out _ _ (HPv.out _ (hwr.trans ?hzz))).mono ?_); (case hzz => exact HSg.out _ (by assumption)); rintro e w5 ⟨rfl, h5⟩; (first | (obtain ⟨k0, k1, f0, f1, z5⟩ := new2 h5; have y5 := HS1.out _ (((Gr.refl wr).alloc _).drew.trans h5); have g5 := ((Gr.refl wr).alloc _).drew.trans h5) | (have y5 := HS1.out _ ((Gr.refl wr).drew.trans h5); have g5 := (Gr.refl wr).drew.trans h5))))
            all_goals (first | (have HF := newAt_set (x := Value.int .i64 ye) (y := Value.int .i64 yx) h5; revert HF; generalize (w5.setCell ⟨wr.heap.size, 0, none⟩ (Value.int .i64 ye)).setCell ⟨wr.heap.size, 1, none⟩ (Value.int .i64 yx) = wz; generalize wr.heap.size = gz; intro HF) | (have HF := newAt_alloc (t := 49) (x := Value.int .i64 ye) (y := Value.int .i64 yx) g5; revert HF; generalize w5.alloc (.cells #[Value.int .i64 ye, Value.int .i64 yx] 49) = wz; generalize w5.heap.size = gz; intro HF)); obtain ⟨gn, gl, gs, q0, q1⟩ := HF
            all_goals have hkk : ((k - 1 : Nat) : Int) - 1 = (k : Int) - 1 - 1 := by omega
            all_goals have HKK := Lib.hid hkk
            all_goals clear hkk
            all_goals have y1z := HS1.out _ gn
            all_goals (by_cases hye : ye = A1)
            all_goals first
              | (have t5 := beqT hye
                 have HO2 := Lib.hid (HO.out.yes hk0 (by rw [HJN.out]; exact decide_eq_true hye))
                 clear hye
                 go_wp2_with fail
                 go_quiet (fail)
                 go_wp2
                 go_roundw
                 case rel => exact ⟨(k : Int) - 1, k - 1, rfl, by rw [HKK.out], by omega, (g.trans gn).drewN _, HO2.out⟩
                 case measure => simp [intOf]; omega)
              | (have t5 := beqF hye
                 have HO2 := Lib.hid (HO.out.no hk0 (by rw [HJN.out]; exact decide_eq_false hye))
                 clear hye
                 go_wp2_with fail
                 go_quiet (fail)
                 go_wp2
                 go_roundw
                 case rel => exact ⟨O, k - 1, rfl, by rw [HKK.out], by omega, (g.trans gn).drewN _, HO2.out⟩
                 case measure => simp [intOf]; omega)
        · have hO := HO.out.done hk0
          have hob := outOf_bd P A0 A1
          clear HO HOO
          generalize outOf P A0 A1 = OO at *
          subst hO
          by_cases hneg : O < 0
          · have HR : Hid (entB P L = false) := by unfold Hid; rw [HY.out, HRW.out]; simp [hneg]
            go_wp2
            go_ret2
            exact RetE.no HR.out hwr
          have HR0 : Hid (entB P L = chainB P L O) := by unfold Hid; rw [HY.out, HRW.out]; simp [hneg]
          obtain ⟨hob1, hob2⟩ := hob
          clear HRW HY
          go_wp2_with fail
          clear b0 b1 b2 b3 b4 b5 b6 b7 b8 y0 y1 Y0 Y1 zs2 zb
          have HB3 := Lib.hid (HB2.out.gr g)
          obtain ⟨wd, hwd⟩ : ∃ wd, wd = wr := ⟨_, rfl⟩
          subst hwd
          have hwd : Gr w wd := hwr
          clear HB2 hwr g hk0 hk
          obtain ⟨i0, hi0, hz0, hz1, hz2⟩ := info_parts Tryz.infoI
          go_loopw [7, 11, 12, 13, 14] (fun x v y _ _ wr => ∃ (Q : Int) (V : Value) (j : Nat) (E : List Int), x = .int .i64 Q ∧ V = v ∧ y = .int .i64 ((j : Int) + 1) ∧ j + 1 ≤ L.length ∧ -2 ≤ Q ∧ Q ≤ 1 ∧ E.length ≤ j + 1 ∧ OwnI wd.heap.size wr V E ∧ Gr wd wr ∧ Hid (chainB P (L.drop j) Q = chainB P L O ∧ (chainB P L O = true → E ++ entF P (L.drop j) Q = entL P L))) (fun _ _ y _ _ _ => L.length - (intOf y).toNat)
          case atStart => exact ⟨O, _, 0, [1 - O], rfl, rfl, rfl, by omega, by omega, by omega, by simp, OwnI.one, (Gr.refl _).alloc _, ⟨rfl, fun _ => HEL.out.symm⟩⟩
          case round =>
            obtain ⟨Q, V, j, E, rfl, rfl, rfl, hj1, hq1, hq2, hE, ho, g, HC⟩ := hrel
            have hB := HB3.out.gr g
            have hwr : Gr w wr := hwd.trans g
            obtain ⟨zb, b0, b1, b2, b3, b4, b5, b6, b7, b8⟩ := hB
            by_cases hjl : j + 1 < L.length
            · obtain ⟨b', o', hsome', zs', y0⟩ := ints_at (HU.out.gr hwr) j (by omega)
              simp only [Option.some.injEq, Addr.mk.injEq, and_true] at hsome'
              obtain ⟨rfl, rfl⟩ := hsome'
              obtain ⟨b', o', hsome', zs2, y1⟩ := ints_at (HU.out.gr hwr) (j + 1) hjl
              simp only [Option.some.injEq, Addr.mk.injEq, and_true] at hsome'
              obtain ⟨rfl, rfl⟩ := hsome'
              have HCD := Lib.hid (fun q => chain_drop (P := P) hjl q)
              have HED := Lib.hid (fun q => entF_drop (P := P) hjl q)
              have HO : Hid (wr.ownsRow wd.heap.size 3 1 V E.length (E.map (Value.int .i64))) := ho
              clear ho
              obtain ⟨X, hX⟩ : ∃ X, X = L[j]'(by omega) := ⟨_, rfl⟩
              obtain ⟨Y, hY⟩ : ∃ Y, Y = L[j + 1] := ⟨_, rfl⟩
              rw [← hX] at y0 HCD HED
              rw [← hY] at y1 HCD
              clear hX hY
              have j0 : (0 : Int) ≤ (j : Int) := by omega
              have j1 : (j : Int) < (L.length : Int) := by omega
              have j2 : (j : Int) + 1 < (L.length : Int) := by omega
              have tj : IntKind.i64.wrap (j : Int) = j := IntWalk.i64_in _ (by omega)
              have tj2 : IntKind.i64.wrap ((j : Int) + 1 - 1) = j := by rw [show (j : Int) + 1 - 1 = j from by omega]; exact tj
              have HS : Hid (∀ w', Gr wr w' → (w'.cell? ⟨w.heap.size, 0, none⟩ = some (.slice a1 P.es.length c1) ∧ w'.cell? ⟨w.heap.size, 1, none⟩ = some (.slice a2 P.js.length c2) ∧ w'.cell? ⟨w.heap.size, 2, none⟩ = some (.slice a3 P.ss.length c3) ∧ w'.cell? ⟨w.heap.size, 3, none⟩ = some (.slice a4 P.ls.length c4) ∧ w'.cell? ⟨w.heap.size, 4, none⟩ = some (.int .i64 P.top) ∧ w'.cell? ⟨w.heap.size, 5, none⟩ = some (.int .i64 P.brake) ∧ w'.cell? ⟨w.heap.size, 6, none⟩ = some (.int .i64 P.margin) ∧ w'.cell? ⟨w.heap.size, 7, none⟩ = some (.int .i64 P.throw) ∧ w'.cell? ⟨w.heap.size, 8, none⟩ = some (.bool P.hard) ∧ w'.cell? ⟨b, o + j, none⟩ = some (.int .i64 X) ∧ Gr wr w')) := fun w' h => ⟨(h.cell _ _ zb).trans b0, (h.cell _ _ zb).trans b1, (h.cell _ _ zb).trans b2, (h.cell _ _ zb).trans b3, (h.cell _ _ zb).trans b4, (h.cell _ _ zb).trans b5, (h.cell _ _ zb).trans b6, (h.cell _ _ zb).trans b7, (h.cell _ _ zb).trans b8, (h.cell _ _ zs2).trans y0, h⟩
              have HSt : Hid (∀ wx wy, (wx.cell? ⟨w.heap.size, 0, none⟩ = some (.slice a1 P.es.length c1) ∧ wx.cell? ⟨w.heap.size, 1, none⟩ = some (.slice a2 P.js.length c2) ∧ wx.cell? ⟨w.heap.size, 2, none⟩ = some (.slice a3 P.ss.length c3) ∧ wx.cell? ⟨w.heap.size, 3, none⟩ = some (.slice a4 P.ls.length c4) ∧ wx.cell? ⟨w.heap.size, 4, none⟩ = some (.int .i64 P.top) ∧ wx.cell? ⟨w.heap.size, 5, none⟩ = some (.int .i64 P.brake) ∧ wx.cell? ⟨w.heap.size, 6, none⟩ = some (.int .i64 P.margin) ∧ wx.cell? ⟨w.heap.size, 7, none⟩ = some (.int .i64 P.throw) ∧ wx.cell? ⟨w.heap.size, 8, none⟩ = some (.bool P.hard) ∧ wx.cell? ⟨b, o + j, none⟩ = some (.int .i64 X) ∧ Gr wr wx) → Gr wx wy → (wy.cell? ⟨w.heap.size, 0, none⟩ = some (.slice a1 P.es.length c1) ∧ wy.cell? ⟨w.heap.size, 1, none⟩ = some (.slice a2 P.js.length c2) ∧ wy.cell? ⟨w.heap.size, 2, none⟩ = some (.slice a3 P.ss.length c3) ∧ wy.cell? ⟨w.heap.size, 3, none⟩ = some (.slice a4 P.ls.length c4) ∧ wy.cell? ⟨w.heap.size, 4, none⟩ = some (.int .i64 P.top) ∧ wy.cell? ⟨w.heap.size, 5, none⟩ = some (.int .i64 P.brake) ∧ wy.cell? ⟨w.heap.size, 6, none⟩ = some (.int .i64 P.margin) ∧ wy.cell? ⟨w.heap.size, 7, none⟩ = some (.int .i64 P.throw) ∧ wy.cell? ⟨w.heap.size, 8, none⟩ = some (.bool P.hard) ∧ wy.cell? ⟨b, o + j, none⟩ = some (.int .i64 X) ∧ Gr wr wy)) := fun wx wy h h2 => HS.out _ (h.2.2.2.2.2.2.2.2.2.2.trans h2)
              have HSg : Hid (∀ wx, (wx.cell? ⟨w.heap.size, 0, none⟩ = some (.slice a1 P.es.length c1) ∧ wx.cell? ⟨w.heap.size, 1, none⟩ = some (.slice a2 P.js.length c2) ∧ wx.cell? ⟨w.heap.size, 2, none⟩ = some (.slice a3 P.ss.length c3) ∧ wx.cell? ⟨w.heap.size, 3, none⟩ = some (.slice a4 P.ls.length c4) ∧ wx.cell? ⟨w.heap.size, 4, none⟩ = some (.int .i64 P.top) ∧ wx.cell? ⟨w.heap.size, 5, none⟩ = some (.int .i64 P.brake) ∧ wx.cell? ⟨w.heap.size, 6, none⟩ = some (.int .i64 P.margin) ∧ wx.cell? ⟨w.heap.size, 7, none⟩ = some (.int .i64 P.throw) ∧ wx.cell? ⟨w.heap.size, 8, none⟩ = some (.bool P.hard) ∧ wx.cell? ⟨b, o + j, none⟩ = some (.int .i64 X) ∧ Gr wr wx) → Gr wr wx) := fun wx h => h.2.2.2.2.2.2.2.2.2.2
              have HS1 : Hid (∀ w', Gr wr w' → w'.cell? ⟨b, o + (j + 1), none⟩ = some (.int .i64 Y)) := fun w' h => (h.cell _ _ zs2).trans y1
              rcases hnx : nextL P.js ⟨X, Q⟩ with _ | ⟨ye, yx⟩
              · have HNX := Lib.hid (fun v w => refNext_none hnx v w)
                have HR : Hid (entB P L = false) := by unfold Hid; rw [HR0.out, ← HC.out.1, HCD.out, hnx]
                dsimp only at HNX
                clear hnx
                go_wp2_with fail
                go_region_held3 (fun w' => w'.cell? ⟨w.heap.size, 0, none⟩ = some (.slice a1 P.es.length c1) ∧ w'.cell? ⟨w.heap.size, 1, none⟩ = some (.slice a2 P.js.length c2) ∧ w'.cell? ⟨w.heap.size, 2, none⟩ = some (.slice a3 P.ss.length c3) ∧ w'.cell? ⟨w.heap.size, 3, none⟩ = some (.slice a4 P.ls.length c4) ∧ w'.cell? ⟨w.heap.size, 4, none⟩ = some (.int .i64 P.top) ∧ w'.cell? ⟨w.heap.size, 5, none⟩ = some (.int .i64 P.brake) ∧ w'.cell? ⟨w.heap.size, 6, none⟩ = some (.int .i64 P.margin) ∧ w'.cell? ⟨w.heap.size, 7, none⟩ = some (.int .i64 P.throw) ∧ w'.cell? ⟨w.heap.size, 8, none⟩ = some (.bool P.hard) ∧ w'.cell? ⟨b, o + j, none⟩ = some (.int .i64 X) ∧ Gr wr w') (first | exact HS.out _ (Gr.refl _).drew | exact HSt.out _ _ (by assumption) h5 | exact HSt.out _ _ (by assumption) ((Gr.refl _).alloc _) | exact HS.out _ (((Gr.refl wr).drew.trans h5).alloc _) | exact HS.out _ (Gr.setCell (Gr.setCell (((Gr.refl wr).alloc _).drew.trans h5) (Nat.le_refl _) _) (Nat.le_refl _) _)) (first | (go_at_call 85; (with_reducible refine (HNX.out _ _ (HPv.out _ (hwr.trans ?hzz))).mono ?_); (case hzz => exact HSg.out _ (by assumption)); rintro e w5 ⟨rfl, h5⟩; (first | (obtain ⟨k0, k1, f0, f1, z5⟩ := new2 h5; have y5 := HS1.out _ (((Gr.refl wr).alloc _).drew.trans h5); have g5 := ((Gr.refl wr).alloc _).drew.trans h5) | (have y5 := HS1.out _ ((Gr.refl wr).drew.trans h5); have g5 := (Gr.refl wr).drew.trans h5))))
                all_goals (first | (have HF := newAt_set (x := Value.int .i64 0) (y := Value.int .i64 0) h5; revert HF; generalize (w5.setCell ⟨wr.heap.size, 0, none⟩ (Value.int .i64 0)).setCell ⟨wr.heap.size, 1, none⟩ (Value.int .i64 0) = wz; generalize wr.heap.size = gz; intro HF) | (have HF := newAt_alloc (t := 49) (x := Value.int .i64 0) (y := Value.int .i64 0) g5; revert HF; generalize w5.alloc (.cells #[Value.int .i64 0, Value.int .i64 0] 49) = wz; generalize w5.heap.size = gz; intro HF)); obtain ⟨gn, gl, gs, q0, q1⟩ := HF
                all_goals go_wp2_with fail
                all_goals go_quiet (fail)
                all_goals go_wp2
                all_goals go_ret2
                all_goals exact RetE.no HR.out ((hwr.trans gn).drewN _)
              · have HNX := Lib.hid (fun v w => refNext_some hnx v w)
                have HCY : Hid (chainB P (L.drop j) Q = (decide (ye = Y) && chainB P (L.drop (j + 1)) (1 - yx))) := by unfold Hid; rw [HCD.out, hnx]
                have HEY : Hid (entF P (L.drop j) Q = yx :: entF P (L.drop (j + 1)) (1 - yx)) := by unfold Hid; rw [HED.out, hnx]
                have hbd := HJ.out _ _ hnx
                dsimp only at HNX hbd
                obtain ⟨-, -, bd1, bd2⟩ := hbd
                clear hnx HCD HED
                by_cases hye : ye = Y
                · have t5 := bneF hye
                  have HC2 : Hid (chainB P (L.drop (j + 1)) (1 - yx) = chainB P L O ∧ (chainB P L O = true → (E ++ [yx]) ++ entF P (L.drop (j + 1)) (1 - yx) = entL P L)) := by
                    refine ⟨?_, fun h => ?_⟩
                    · rw [← HC.out.1, HCY.out, decide_eq_true hye]; rfl
                    · rw [← HC.out.2 h, HEY.out]; simp
                  clear hye HC HCY HEY
                  go_wp2_with fail
                  go_region_held3 (fun w' => w'.cell? ⟨w.heap.size, 0, none⟩ = some (.slice a1 P.es.length c1) ∧ w'.cell? ⟨w.heap.size, 1, none⟩ = some (.slice a2 P.js.length c2) ∧ w'.cell? ⟨w.heap.size, 2, none⟩ = some (.slice a3 P.ss.length c3) ∧ w'.cell? ⟨w.heap.size, 3, none⟩ = some (.slice a4 P.ls.length c4) ∧ w'.cell? ⟨w.heap.size, 4, none⟩ = some (.int .i64 P.top) ∧ w'.cell? ⟨w.heap.size, 5, none⟩ = some (.int .i64 P.brake) ∧ w'.cell? ⟨w.heap.size, 6, none⟩ = some (.int .i64 P.margin) ∧ w'.cell? ⟨w.heap.size, 7, none⟩ = some (.int .i64 P.throw) ∧ w'.cell? ⟨w.heap.size, 8, none⟩ = some (.bool P.hard) ∧ w'.cell? ⟨b, o + j, none⟩ = some (.int .i64 X) ∧ Gr wr w') (first | exact HS.out _ (Gr.refl _).drew | exact HSt.out _ _ (by assumption) h5 | exact HSt.out _ _ (by assumption) ((Gr.refl _).alloc _) | exact HS.out _ (((Gr.refl wr).drew.trans h5).alloc _) | exact HS.out _ (Gr.setCell (Gr.setCell (((Gr.refl wr).alloc _).drew.trans h5) (Nat.le_refl _) _) (Nat.le_refl _) _)) (first | (go_at_call 85; (with_reducible refine (HNX.out _ _ (HPv.out _ (hwr.trans ?hzz))).mono ?_); (case hzz => exact HSg.out _ (by assumption)); rintro e w5 ⟨rfl, h5⟩; (first | (obtain ⟨k0, k1, f0, f1, z5⟩ := new2 h5; have y5 := HS1.out _ (((Gr.refl wr).alloc _).drew.trans h5); have g5 := ((Gr.refl wr).alloc _).drew.trans h5) | (have y5 := HS1.out _ ((Gr.refl wr).drew.trans h5); have g5 := (Gr.refl wr).drew.trans h5))))
                  all_goals (first | (have HF := newAt_set (x := Value.int .i64 ye) (y := Value.int .i64 yx) h5; revert HF; generalize (w5.setCell ⟨wr.heap.size, 0, none⟩ (Value.int .i64 ye)).setCell ⟨wr.heap.size, 1, none⟩ (Value.int .i64 yx) = wz; generalize wr.heap.size = gz; intro HF) | (have HF := newAt_alloc (t := 49) (x := Value.int .i64 ye) (y := Value.int .i64 yx) g5; revert HF; generalize w5.alloc (.cells #[Value.int .i64 ye, Value.int .i64 yx] 49) = wz; generalize w5.heap.size = gz; intro HF)); obtain ⟨gn, gl, gs, q0, q1⟩ := HF
                  all_goals have y1z := HS1.out _ gn
                  all_goals have HOz := Lib.hid (own_gr HO.out gn)
                  all_goals have HLT := Lib.hid (own_lt HO.out)
                  all_goals have gzz := g.trans gn
                  all_goals go_wp2_with fail
                  all_goals go_quiet (fail)
                  all_goals
                    go_wp2_with (first | (at_builtin; refine wpList_append_own _ rfl _ _ 66 rfl wd.heap.size 3 i0 (.int .i64 0) 1 8 Tryz.underlying66 hi0 hz0 hz1 hz2 rfl (by decide) _ _ _ rfl ((own_gr HOz.out ((Gr.refl _).drewN nq)).alloc _) ⟨wz.heap.size, 0, none⟩ 1 1 [.int .i64 yx] rfl rfl ?c1 ?c2 ?c3 ?c4 ?c5 ?_))
                    case c1 => exact cell_one_new _ _ _
                    case c2 => simp [Value.oneCell']
                    case c3 => unfold maxLen; omega
                    case c4 => omega
                    case c5 => have := gzz.size; simp; omega
                    intro v' w1 hown' hgrow _
                    have q1' := (hgrow.cell_far ⟨gz, 1, none⟩ (by simp; omega) (fun e => by have := HLT.out gz e.symm; omega)).trans ((World.cell?_alloc_lt _ _ _ (by simpa using gs)).trans q1)
                    have hg1 : Gr wd w1 := Gr.grown ((gzz.drewN nq).alloc _) hgrow HO.out
                    have ho1 : OwnI wd.heap.size w1 v' (E ++ [yx]) := OwnI.snoc hown'
                    clear hown' hgrow
                    go_wp2
                    go_roundw
                    case rel => exact ⟨1 - yx, _, j + 1, E ++ [yx], rfl, rfl, by go_num, by omega, by omega, by omega, by simp; omega, ho1, hg1, HC2.out⟩
                    case measure => simp [intOf]; omega
                · have t5 := bneT hye
                  have HR : Hid (entB P L = false) := by unfold Hid; rw [HR0.out, ← HC.out.1, HCY.out, decide_eq_false hye]; rfl
                  clear hye HC HCY HEY
                  go_wp2_with fail
                  go_region_held3 (fun w' => w'.cell? ⟨w.heap.size, 0, none⟩ = some (.slice a1 P.es.length c1) ∧ w'.cell? ⟨w.heap.size, 1, none⟩ = some (.slice a2 P.js.length c2) ∧ w'.cell? ⟨w.heap.size, 2, none⟩ = some (.slice a3 P.ss.length c3) ∧ w'.cell? ⟨w.heap.size, 3, none⟩ = some (.slice a4 P.ls.length c4) ∧ w'.cell? ⟨w.heap.size, 4, none⟩ = some (.int .i64 P.top) ∧ w'.cell? ⟨w.heap.size, 5, none⟩ = some (.int .i64 P.brake) ∧ w'.cell? ⟨w.heap.size, 6, none⟩ = some (.int .i64 P.margin) ∧ w'.cell? ⟨w.heap.size, 7, none⟩ = some (.int .i64 P.throw) ∧ w'.cell? ⟨w.heap.size, 8, none⟩ = some (.bool P.hard) ∧ w'.cell? ⟨b, o + j, none⟩ = some (.int .i64 X) ∧ Gr wr w') (first | exact HS.out _ (Gr.refl _).drew | exact HSt.out _ _ (by assumption) h5 | exact HSt.out _ _ (by assumption) ((Gr.refl _).alloc _) | exact HS.out _ (((Gr.refl wr).drew.trans h5).alloc _) | exact HS.out _ (Gr.setCell (Gr.setCell (((Gr.refl wr).alloc _).drew.trans h5) (Nat.le_refl _) _) (Nat.le_refl _) _)) (first | (go_at_call 85; (with_reducible refine (HNX.out _ _ (HPv.out _ (hwr.trans ?hzz))).mono ?_); (case hzz => exact HSg.out _ (by assumption)); rintro e w5 ⟨rfl, h5⟩; (first | (obtain ⟨k0, k1, f0, f1, z5⟩ := new2 h5; have y5 := HS1.out _ (((Gr.refl wr).alloc _).drew.trans h5); have g5 := ((Gr.refl wr).alloc _).drew.trans h5) | (have y5 := HS1.out _ ((Gr.refl wr).drew.trans h5); have g5 := (Gr.refl wr).drew.trans h5))))
                  all_goals (first | (have HF := newAt_set (x := Value.int .i64 ye) (y := Value.int .i64 yx) h5; revert HF; generalize (w5.setCell ⟨wr.heap.size, 0, none⟩ (Value.int .i64 ye)).setCell ⟨wr.heap.size, 1, none⟩ (Value.int .i64 yx) = wz; generalize wr.heap.size = gz; intro HF) | (have HF := newAt_alloc (t := 49) (x := Value.int .i64 ye) (y := Value.int .i64 yx) g5; revert HF; generalize w5.alloc (.cells #[Value.int .i64 ye, Value.int .i64 yx] 49) = wz; generalize w5.heap.size = gz; intro HF)); obtain ⟨gn, gl, gs, q0, q1⟩ := HF
                  all_goals have y1z := HS1.out _ gn
                  all_goals go_wp2_with fail
                  all_goals go_quiet (fail)
                  all_goals go_wp2
                  all_goals go_ret2
                  all_goals exact RetE.no HR.out ((hwr.trans gn).drewN _)
            · have hce := chain_end (P := P) (L := L) (i := j) (by omega) Q
              have HR : Hid (entB P L = true) := by unfold Hid; rw [HR0.out, ← HC.out.1]; exact hce.1
              have HL : Hid (E = entL P L) := by
                have := HC.out.2 (by rw [← HC.out.1]; exact hce.1)
                rw [hce.2, List.append_nil] at this
                exact this
              have hv := ho.vals (by unfold maxLen; omega)
              clear hce HC ho
              go_wp2
              go_ret2
              exact RetE.yes HR.out (by rw [← HL.out]; exact hv) hwr
end Go.Proofs.YtjblplflgiibdaaGreatDoor
namespace Go.Proofs.YtjblplflgiibdaaGreatDoor
open Go.ChangeShapes Go.WideShapes Go.ChangeAt Go.RowKit
set_option linter.unusedVariables false
set_option linter.unusedSimpArgs false
theorem linesB_eq (P : Pln) : linesB P = (decide (P.ls.flatMap (·.es)).Nodup && P.ls.all fun l => entB P l.es) := rfl
theorem lines_split {P : Pln} {i : Nat} (hi : i < P.ls.length) : P.ls.flatMap (·.es) = (P.ls.take i).flatMap (·.es) ++ (P.ls[i].es ++ (P.ls.drop (i + 1)).flatMap (·.es)) := by
  have h : P.ls = P.ls.take i ++ P.ls[i] :: P.ls.drop (i + 1) := by rw [← List.drop_eq_getElem_cons hi, List.take_append_drop]
  have h2 := congrArg (fun l => l.flatMap (·.es)) h
  simp only [List.flatMap_append, List.flatMap_cons] at h2
  exact h2
theorem lines_step {P : Pln} {i : Nat} (hi : i < P.ls.length) : (P.ls.take i).flatMap (·.es) ++ P.ls[i].es = (P.ls.take (i + 1)).flatMap (·.es) := by
  rw [List.take_succ_eq_append_getElem hi, List.flatMap_append]; simp
theorem dup_mid {A C l : List Int} (k : Nat) (hk : k < l.length) (h : l[k] ∈ A ++ l.take k) : ¬ (A ++ (l ++ C)).Nodup := by
  intro hn
  have hl : l = l.take k ++ l[k] :: l.drop (k + 1) := by rw [← List.drop_eq_getElem_cons hk, List.take_append_drop]
  obtain ⟨x, hx⟩ : ∃ x, x = l[k] := ⟨_, rfl⟩
  rw [← hx] at h hl
  rw [hl] at hn
  rw [List.append_assoc, ← List.append_assoc, List.nodup_append] at hn
  exact hn.2.2 x h x (by simp) rfl
theorem linesB_dup {P : Pln} {i k : Nat} (hi : i < P.ls.length) (hk : k < P.ls[i].es.length) (h : P.ls[i].es[k] ∈ (P.ls.take i).flatMap (·.es) ++ P.ls[i].es.take k) : linesB P = false := by
  rw [linesB_eq]
  have : ¬ (P.ls.flatMap (·.es)).Nodup := by
    rw [lines_split hi]
    exact dup_mid k hk h
  rw [decide_eq_false this]; rfl
theorem linesB_ent {P : Pln} {i : Nat} (hi : i < P.ls.length) (h : entB P P.ls[i].es = false) : linesB P = false := by
  rw [linesB_eq, all_false_of P.ls (fun l => entB P l.es) i hi h]; simp
theorem linesB_yes {P : Pln} (h1 : (P.ls.flatMap (·.es)).Nodup) (h2 : ∀ i (hi : i < P.ls.length), entB P P.ls[i].es = true) : linesB P = true := by
  rw [linesB_eq, all_true_of P.ls (fun l => entB P l.es) h2, decide_eq_true h1]; rfl
theorem nodup_snoc {l : List Int} {x : Int} (h : l.Nodup) (hx : x ∉ l) : (l ++ [x]).Nodup := by
  rw [List.nodup_append]
  refine ⟨h, by simp, ?_⟩
  intro a ha b hb e
  simp at hb
  subst hb; subst e
  exact hx ha
theorem refIn_yes {L : List Int} {n : Int} (h : n ∈ L) (v : Value) (w : World) (hv : IsVals w v (L.map (Value.int .i64))) : Calls Tryz.prog 88 #[v, .int .i64 n] w fun e w' => e = .returned (.bool true) ∧ Gr w w' := by
  have := refIn_any v L n w hv
  rwa [decide_eq_true h] at this
theorem refIn_no {L : List Int} {n : Int} (h : n ∉ L) (v : Value) (w : World) (hv : IsVals w v (L.map (Value.int .i64))) : Calls Tryz.prog 88 #[v, .int .i64 n] w fun e w' => e = .returned (.bool false) ∧ Gr w w' := by
  have := refIn_any v L n w hv
  rwa [decide_eq_false h] at this
set_option maxRecDepth 100000 in
set_option maxHeartbeats 1000000 in
theorem refLines_any6 (v : Value) (P : Pln) (w : World) (hP : IsPln w v P) (hj : ∀ x ∈ portsL P.js, hasP P x = true) (hn : (P.ls.flatMap (·.es)).length ≤ 1000000) (hln : P.ls.length ≤ 1000000) :
    Calls Tryz.prog 64 #[v] w fun e w' => e = .returned (.bool (linesB P)) ∧ Gr w w' := by
  obtain ⟨a1, c1, a2, c2, a3, c3, a4, c4, rfl, h1, h2, h3, h4⟩ := hP
  have H4 := Lib.hid h4
  have HPv := Lib.hid (fun (w' : World) (g : Gr w w') => IsPln.mk (w' := w') h1 h2 h3 h4 g)
  have HB := Lib.hid (bxW_box w P (.slice a1 P.es.length c1) (.slice a2 P.js.length c2) (.slice a3 P.ss.length c3) (.slice a4 P.ls.length c4))
  have hw0 := bxW_gr w P (.slice a1 P.es.length c1) (.slice a2 P.js.length c2) (.slice a3 P.ss.length c3) (.slice a4 P.ls.length c4)
  obtain ⟨wb, hwb⟩ : ∃ wb, wb = bxW w P (.slice a1 P.es.length c1) (.slice a2 P.js.length c2) (.slice a3 P.ss.length c3) (.slice a4 P.ls.length c4) := ⟨_, rfl⟩
  rw [← hwb] at HB hw0
  unfold plnV
  obtain ⟨i0, hi0, hz0, hz1, hz2⟩ := info_parts Tryz.infoI
  have HWB := Lib.hid hwb
  have HJ := Lib.hid hj
  have HN := Lib.hid hn
  clear h1 h2 h3 h4 hwb hj hn
  go_enter Tryz.func64, Tryz.ntmps64
  go_wp2_with fail
  rw [show (w.alloc (.cells #[.slice a1 P.es.length c1, .slice a2 P.js.length c2, .slice a3 P.ss.length c3, .slice a4 P.ls.length c4, .int .i64 P.top, .int .i64 P.brake, .int .i64 P.margin, .int .i64 P.throw, .bool P.hard] 28)) = wb from HWB.out.symm]
  clear HWB
  go_loopw [3, 4, 5, 6, 7, 8] (fun v x _ _ _ _ wr => ∃ (V : Value) (i : Nat), V = v ∧ x = .int .i64 i ∧ i ≤ P.ls.length ∧ OwnI wb.heap.size wr V ((P.ls.take i).flatMap (·.es)) ∧ Gr wb wr ∧ Hid (((P.ls.take i).flatMap (·.es)).Nodup ∧ ∀ j (hj : j < P.ls.length), j < i → entB P P.ls[j].es = true)) (fun _ x _ _ _ _ _ => P.ls.length - (intOf x).toNat)
  case atStart => exact ⟨_, 0, rfl, rfl, Nat.zero_le _, OwnI.nil _ _, Gr.refl _, List.nodup_nil, fun j _ h => by omega⟩
  case round =>
    obtain ⟨V0, i, rfl, rfl, hi, ho0, g0, HA⟩ := hrel
    have hB := HB.out.gr g0
    have hwr : Gr w wr := hw0.trans g0
    obtain ⟨zb, b0, b1, b2, b3, b4, b5, b6, b7, b8⟩ := hB
    by_cases hlt : i < P.ls.length
    · obtain ⟨b, o, u, hsome, zs, -, y1, hu⟩ := (H4.out).at i hlt
      have y1 := (hwr.cell _ _ zs).trans y1
      subst hsome
      have i1 : (i : Int) < (P.ls.length : Int) := by omega
      have HD := Lib.hid (fun k => @linesB_dup P i k hlt)
      have HE := Lib.hid (@linesB_ent P i hlt)
      have HST := Lib.hid (lines_step hlt)
      have hll : ((P.ls.take i).flatMap (·.es)).length + P.ls[i].es.length ≤ 1000000 := by
        have := HN.out
        rw [lines_split hlt] at this
        simp only [List.length_append] at this
        omega
      have HA' : Hid (((P.ls.take (i + 1)).flatMap (·.es)).Nodup → entB P P.ls[i].es = true → (((P.ls.take (i + 1)).flatMap (·.es)).Nodup ∧ ∀ j (hj : j < P.ls.length), j < i + 1 → entB P P.ls[j].es = true)) := by
        intro h1 h2
        refine ⟨h1, fun j hj hji => ?_⟩
        by_cases e : j = i
        · subst e; exact h2
        · exact HA.out.2 j hj (by omega)
      have HM0 := Lib.hid HA.out.1
      clear HA
      generalize P.ls[i].es = l at *
      obtain ⟨M, hM⟩ : ∃ M, M = (P.ls.take i).flatMap (·.es) := ⟨_, rfl⟩
      rw [← hM] at HD HST hll HM0 ho0
      clear hM
      have hu' := hu
      obtain ⟨au, cu, rfl, -, -⟩ := hu'
      simp only [List.length_map] at hu y1
      have HU := Lib.hid hu
      clear hu
      go_wp2_with fail
      clear b0 b1 b2 b3 b4 b5 b6 b7 b8 y1
      obtain ⟨wc, hwc⟩ : ∃ wc, wc = wr := ⟨_, rfl⟩
      subst hwc
      go_loopw [3, 6] (fun v x wr => ∃ (V : Value) (k : Nat), V = v ∧ x = .int .i64 k ∧ k ≤ l.length ∧ OwnI wb.heap.size wr V (M ++ l.take k) ∧ Gr wb wr ∧ Hid ((M ++ l.take k).Nodup)) (fun _ x _ => l.length - (intOf x).toNat)
      case atStart => exact ⟨_, 0, rfl, rfl, Nat.zero_le _, by simpa using ho0, g0, by unfold Hid; simpa using HM0.out⟩
      case round =>
        obtain ⟨V, k, rfl, rfl, hk, ho, g, HNd⟩ := hrel
        have hB := HB.out.gr g
        have hwr2 : Gr w wr := hw0.trans g
        obtain ⟨zb2, b0, b1, b2, b3, b4, b5, b6, b7, b8⟩ := hB
        have hlen : (M ++ l.take k).length ≤ 1000000 := by simp; omega
        by_cases hkl : k < l.length
        · have k1 : (k : Int) < (l.length : Int) := by omega
          obtain ⟨b', o', hsome', zs', y0⟩ := ints_at (HU.out.gr hwr2) k hkl
          subst hsome'
          have HDk := Lib.hid (HD.out k hkl)
          have HTK : Hid ((M ++ l.take k) ++ [l[k]] = M ++ l.take (k + 1)) := by unfold Hid; rw [List.take_succ_eq_append_getElem hkl, List.append_assoc]
          have HND2 : Hid (l[k] ∉ M ++ l.take k → ((M ++ l.take k) ++ [l[k]]).Nodup) := fun h => nodup_snoc HNd.out h
          generalize l[k] = x at *
          generalize M ++ l.take k = N at *
          have HV := Lib.hid (ho.vals (by unfold maxLen; omega))
          have HO : Hid (wr.ownsRow wb.heap.size 3 1 V N.length (N.map (Value.int .i64))) := ho
          clear ho HNd
          by_cases hx : x ∈ N
          · have HR := Lib.hid (HDk.out hx)
            have HIN := Lib.hid (refIn_yes hx)
            clear hx
            go_wp2_with (go_at_call 88; refine (HIN.out _ _ HV.out).mono ?_; rintro e w5 ⟨rfl, h5⟩)
            go_ret
            exact ⟨ret_bool HR.out.symm, hwr2.trans h5⟩
          · have HIN := Lib.hid (refIn_no hx)
            have HN2 := Lib.hid (HND2.out hx)
            clear hx HDk HND2
            go_wp2_with (first | (go_at_call 88; refine (HIN.out _ _ HV.out).mono ?_; rintro e w5 ⟨rfl, h5⟩; have y05 := (h5.cell _ _ zs').trans y0; have HOz := Lib.hid (own_gr HO.out h5)) | (at_builtin; refine wpList_append_own _ rfl _ _ 66 rfl wb.heap.size 3 i0 (.int .i64 0) 1 8 Tryz.underlying66 hi0 hz0 hz1 hz2 rfl (by decide) _ _ _ rfl (HOz.out.alloc _) ⟨w5.heap.size, 0, none⟩ 1 1 [.int .i64 x] rfl rfl ?c1 ?c2 ?c3 ?c4 ?c5 ?_))
            case c1 => exact cell_one_new _ _ _
            case c2 => simp [Value.oneCell']
            case c3 => unfold maxLen; omega
            case c4 => omega
            case c5 => have := (g.trans h5).size; simp; omega
            intro v' w1 hown' hgrow _
            have hg1 : Gr wb w1 := Gr.grown ((g.trans h5).alloc _) hgrow HO.out
            have ho1 : OwnI wb.heap.size w1 v' (N ++ [x]) := OwnI.snoc hown'
            rw [HTK.out] at ho1
            have HN3 := HN2.out
            rw [HTK.out] at HN3
            have HN4 := Lib.hid HN3
            clear hown' hgrow HN3
            go_wp2
            go_roundw
            case rel => exact ⟨_, k + 1, rfl, by go_num, by omega, ho1, hg1, HN4.out⟩
            case measure => simp [intOf]; omega
        · have HMl : Hid (M ++ l.take k = (P.ls.take (i + 1)).flatMap (·.es)) := by unfold Hid; rw [List.take_of_length_le (by omega)]; exact HST.out
          rw [HMl.out] at ho
          have hnd := HNd.out
          rw [HMl.out] at hnd
          have HA2 := Lib.hid (HA'.out hnd)
          clear HNd hnd
          have HEN := Lib.hid (fun w' (h : Gr w w') => refEnters_any _ _ P l w' (HPv.out _ h) (HU.out.gr h) HJ.out (by omega))
          generalize hentb : entB P l = eb at *
          have HEB := Lib.hid hentb
          clear hentb
          cases eb
          · have HR := Lib.hid (HE.out rfl)
            go_wp2_with (go_at_call 89; refine (HEN.out _ hwr2).mono ?_; rintro e w5 ⟨ve, rfl, h5, -⟩; rw [HEB.out])
            go_ret
            exact ⟨ret_bool HR.out.symm, hwr2.trans h5⟩
          · have HA3 := Lib.hid (HA2.out rfl)
            go_wp2_with (go_at_call 89; refine (HEN.out _ hwr2).mono ?_; rintro e w5 ⟨ve, rfl, h5, -⟩; rw [HEB.out])
            have ho2 : OwnI wb.heap.size w5 V ((P.ls.take (i + 1)).flatMap (·.es)) := own_gr ho h5
            go_roundw
            case rel => exact ⟨_, i + 1, rfl, by go_num, by omega, ho2, g.trans h5, HA3.out⟩
            case measure => simp [intOf]; omega
    · have HR : Hid (linesB P = true) := by
        refine linesB_yes ?_ fun j hj => HA.out.2 j hj (by omega)
        have := HA.out.1
        rwa [List.take_of_length_le (by omega)] at this
      clear HA
      go_wp2
      go_ret
      exact ⟨ret_bool HR.out.symm, hwr⟩
end Go.Proofs.YtjblplflgiibdaaGreatDoor
namespace Go.Proofs.YtjblplflgiibdaaGreatDoor
open Go.ChangeShapes Go.WideShapes Go.ChangeAt Go.RowKit
set_option linter.unusedVariables false
set_option linter.unusedSimpArgs false

end Go.Proofs.YtjblplflgiibdaaGreatDoor
namespace Go.Proofs.YtjblplflgiibdaaGreatDoor
open Go.ChangeShapes Go.WideShapes Go.ChangeAt Go.RowKit
set_option linter.unusedVariables false
set_option linter.unusedSimpArgs false

theorem planStop_any (v b : Int) (hv : 0 ≤ v ∧ v ≤ 60) (hb : 1 ≤ b ∧ b ≤ 10) (w : World) :
    Calls Tryz.prog 80 #[.int .i64 v, .int .i64 b] w fun e w' => e = .returned (.int .i64 (stp b v)) ∧ w' = w := by
  obtain ⟨hv1, hv2⟩ := hv
  obtain ⟨hb1, hb2⟩ := hb
  go_enter Tryz.func80, Tryz.ntmps80
  go_wp2
  go_loop [5, 0] (fun n x => ∃ (k : Nat) (V N : Int), n = .int .i64 N ∧ x = .int .i64 V ∧ V ≤ k ∧ k ≤ 60 ∧ -10 ≤ V ∧ 0 ≤ N ∧ N ≤ (60 - k) * 60 ∧ Hid (N + tailS b k V = stp b v)) (fun _ x => (intOf x).toNat)
  case atStart => exact ⟨60, v - b, 0, rfl, rfl, by omega, by omega, by omega, by omega, by omega, by unfold Hid stp; omega⟩
  case round =>
    obtain ⟨k, V, N, rfl, rfl, r1, r2, r3, r4, r5, HS⟩ := hrel
    by_cases hp : 0 < V
    · obtain ⟨j, hj, hs⟩ := tailS_pos b k V hp r1
      have HT : Hid (N + V + tailS b j (V - b) = stp b v) := by unfold Hid; rw [← HS.out, hs]; omega
      have r6 : V - b ≤ j := by omega
      have r7 : N + V ≤ (60 - j) * 60 := by omega
      have r8 : j ≤ 60 := by omega
      clear hs hj HS
      go_wp2
      go_round
      case rel => exact ⟨j, V - b, N + V, rfl, rfl, by omega, r8, by omega, by omega, r7, HT⟩
      case measure => simp [intOf]; omega
    · have HT : Hid (N = stp b v) := by unfold Hid; rw [← HS.out, tailS_no b k V hp]; omega
      clear HS
      go_wp2
      go_ret
      exact ⟨ret_int HT.out, rfl⟩
theorem refStop_any (v b : Int) (hv : 0 ≤ v ∧ v ≤ 60) (hb : 1 ≤ b ∧ b ≤ 10) (w : World) :
    Calls Tryz.prog 90 #[.int .i64 v, .int .i64 b] w fun e w' => e = .returned (.int .i64 (stp b v)) ∧ w' = w := by
  obtain ⟨hv1, hv2⟩ := hv
  obtain ⟨hb1, hb2⟩ := hb
  go_enter Tryz.func90, Tryz.ntmps90
  go_wp2
  go_loop [5, 0] (fun n x => ∃ (k : Nat) (V N : Int), n = .int .i64 N ∧ x = .int .i64 V ∧ V ≤ k ∧ k ≤ 60 ∧ -10 ≤ V ∧ 0 ≤ N ∧ N ≤ (60 - k) * 60 ∧ Hid (N + tailS b k V = stp b v)) (fun _ x => (intOf x).toNat)
  case atStart => exact ⟨60, v - b, 0, rfl, rfl, by omega, by omega, by omega, by omega, by omega, by unfold Hid stp; omega⟩
  case round =>
    obtain ⟨k, V, N, rfl, rfl, r1, r2, r3, r4, r5, HS⟩ := hrel
    by_cases hp : 0 < V
    · obtain ⟨j, hj, hs⟩ := tailS_pos b k V hp r1
      have HT : Hid (N + V + tailS b j (V - b) = stp b v) := by unfold Hid; rw [← HS.out, hs]; omega
      have r6 : V - b ≤ j := by omega
      have r7 : N + V ≤ (60 - j) * 60 := by omega
      have r8 : j ≤ 60 := by omega
      clear hs hj HS
      go_wp2
      go_round
      case rel => exact ⟨j, V - b, N + V, rfl, rfl, by omega, r8, by omega, by omega, r7, HT⟩
      case measure => simp [intOf]; omega
    · have HT : Hid (N = stp b v) := by unfold Hid; rw [← HS.out, tailS_no b k V hp]; omega
      clear HS
      go_wp2
      go_ret
      exact ⟨ret_int HT.out, rfl⟩
end Go.Proofs.YtjblplflgiibdaaGreatDoor
namespace Go.Proofs.YtjblplflgiibdaaGreatDoor
open Go.ChangeShapes Go.WideShapes Go.ChangeAt Go.RowKit
set_option linter.unusedVariables false
set_option linter.unusedSimpArgs false
theorem longB_ss {P : Pln} {k : Nat} (hk : k < P.ss.length) (h1 : kindP P P.ss[k].at_.e = 1) (h2 : lenP P P.ss[k].at_.e < P.margin) : longB P = false := by
  unfold longB
  have : P.ss.all (fun s => !decide (kindP P s.at_.e = 1) || decide (P.margin ≤ lenP P s.at_.e)) = false := by
    rw [List.all_eq_false]
    refine ⟨P.ss[k], List.getElem_mem hk, ?_⟩
    simp [h1]; omega
  rw [this]; simp
theorem longB_es {P : Pln} {k : Nat} (hk : k < P.es.length) (h1 : P.es[k].k ≠ 4) (h2 : P.es[k].l < P.top) : longB P = false := by
  unfold longB
  have : P.es.all (fun e => decide (e.k = 4) || decide (P.top ≤ e.l)) = false := by
    rw [List.all_eq_false]
    refine ⟨P.es[k], List.getElem_mem hk, ?_⟩
    simp [h1]; omega
  rw [this]; simp
theorem longB_yes {P : Pln} (h0 : P.top + stp P.brake P.top ≤ P.margin) (h1 : ∀ k (hk : k < P.ss.length), kindP P P.ss[k].at_.e = 1 → P.margin ≤ lenP P P.ss[k].at_.e) (h2 : ∀ k (hk : k < P.es.length), P.es[k].k ≠ 4 → P.top ≤ P.es[k].l) : longB P = true := by
  unfold longB
  have a : P.ss.all (fun s => !decide (kindP P s.at_.e = 1) || decide (P.margin ≤ lenP P s.at_.e)) = true := by
    rw [List.all_eq_true]
    intro s hs
    obtain ⟨k, hk, rfl⟩ := List.mem_iff_getElem.1 hs
    by_cases e : kindP P P.ss[k].at_.e = 1
    · have := h1 k hk e; simp [this]
    · simp [e]
  have b : P.es.all (fun e => decide (e.k = 4) || decide (P.top ≤ e.l)) = true := by
    rw [List.all_eq_true]
    intro s hs
    obtain ⟨k, hk, rfl⟩ := List.mem_iff_getElem.1 hs
    by_cases e : P.es[k].k = 4
    · simp [e]
    · have := h2 k hk e; simp [this]
  rw [a, b]; simp [h0]
set_option maxRecDepth 100000 in
theorem refLong_any (v : Value) (P : Pln) (w : World) (hP : IsPln w v P) (ht : 0 ≤ P.top ∧ P.top ≤ 60) (hb : 1 ≤ P.brake ∧ P.brake ≤ 10) :
    Calls Tryz.prog 65 #[v] w fun e w' => e = .returned (.bool (longB P)) ∧ Gr w w' := by
  obtain ⟨a1, c1, a2, c2, a3, c3, a4, c4, rfl, h1, h2, h3, h4⟩ := hP
  have m1 := IsRow.len h1
  have m3 := IsRow.len h3
  unfold maxLen at m1 m3
  have H1 := Lib.hid h1
  have H3 := Lib.hid h3
  have HPv := Lib.hid (fun (w' : World) (g : Gr w w') => IsPln.mk (w' := w') h1 h2 h3 h4 g)
  have hbx := PBox.new w P (.slice a1 P.es.length c1) (.slice a2 P.js.length c2) (.slice a3 P.ss.length c3) (.slice a4 P.ls.length c4)
  have hg : Gr w (w.alloc (.cells #[.slice a1 P.es.length c1, .slice a2 P.js.length c2, .slice a3 P.ss.length c3, .slice a4 P.ls.length c4, .int .i64 P.top, .int .i64 P.brake, .int .i64 P.margin, .int .i64 P.throw, .bool P.hard] 28)) := (Gr.refl _).alloc _
  have hbd := stp_bd P.brake P.top hb.1 ht.2
  have HS := Lib.hid (fun w => refStop_any P.top P.brake ht hb w)
  have HL0 := Lib.hid (@longB_yes P)
  unfold plnV
  have HN0 : Hid (P.margin < P.top + stp P.brake P.top → longB P = false) := by
    intro h
    unfold longB; simp; omega
  generalize hst : stp P.brake P.top = st at *
  clear h1 h2 h3 h4 hst
  by_cases hM : P.margin < P.top + st
  · have HN := Lib.hid (HN0.out hM)
    clear HN0 HL0
    go_enter Tryz.func65, Tryz.ntmps65
    go_wp2_with fail
    have tw : IntKind.i64.wrap (P.top + st) = P.top + st := by rw [IntKind.wrap_i64]; omega
    go_quiet ((go_at_call 90; exact Calls.quiet_of_same (HS.out _)))
    go_wp2
    go_ret
    exact ⟨ret_bool HN.out.symm, hg.drewN _⟩
  have hM' : P.top + st ≤ P.margin := by omega
  clear HN0
  go_enter Tryz.func65, Tryz.ntmps65
  go_wp2_with fail
  have tw : IntKind.i64.wrap (P.top + st) = P.top + st := by rw [IntKind.wrap_i64]; omega
  go_quiet ((go_at_call 90; exact Calls.quiet_of_same (HS.out _)))
  clear tw HS
  have hbx' := hbx.drewN nq
  have hg' := hg.drewN nq
  clear hbx hg
  go_wp2_with fail
  go_loopw [3, 4] (fun i _ wr => ∃ k : Nat, i = .int .i64 k ∧ k ≤ P.ss.length ∧ Gr w wr ∧ PBox wr w.heap.size P (.slice a1 P.es.length c1) (.slice a2 P.js.length c2) (.slice a3 P.ss.length c3) (.slice a4 P.ls.length c4) ∧ Hid (∀ j (hj : j < P.ss.length), j < k → kindP P P.ss[j].at_.e = 1 → P.margin ≤ lenP P P.ss[j].at_.e)) (fun i _ _ => P.ss.length - (intOf i).toNat)
  case atStart => exact ⟨0, rfl, Nat.zero_le _, hg', hbx', fun j hj h => by omega⟩
  case round =>
    obtain ⟨k, rfl, hk, g, hx, HA⟩ := hrel
    clear hbx' hg'
    obtain ⟨zb, b0, b1, b2, b3, b4, b5, b6, b7, b8⟩ := hx
    have hB : PBox wr w.heap.size P (.slice a1 P.es.length c1) (.slice a2 P.js.length c2) (.slice a3 P.ss.length c3) (.slice a4 P.ls.length c4) := ⟨zb, b0, b1, b2, b3, b4, b5, b6, b7, b8⟩
    have hPS := hB.ps g
    by_cases hlt : k < P.ss.length
    · obtain ⟨b, o, rfl, zs, -, y1, y2, -⟩ := (H3.out.gr g).at k hlt
      have HSS := Lib.hid (@longB_ss P k hlt)
      have HA' : Hid ((kindP P P.ss[k].at_.e = 1 → P.margin ≤ lenP P P.ss[k].at_.e) → ∀ j (hj : j < P.ss.length), j < k + 1 → kindP P P.ss[j].at_.e = 1 → P.margin ≤ lenP P P.ss[j].at_.e) := by
        intro h j hj hjk
        by_cases e : j = k
        · subst e; exact h
        · exact HA.out j hj (by omega)
      have hk1 : (k : Int) < (P.ss.length : Int) := by omega
      generalize P.ss[k].at_ = q at *
      obtain ⟨qe, qx⟩ := q
      have HK := Lib.hid (fun (v' : Value) (w' : World) (h : IsPln w' v' P) => kind_any v' P qe w' h)
      have HL := Lib.hid (fun (v' : Value) (w' : World) (h : IsPln w' v' P) => length_any v' P qe w' h)
      dsimp only at HA' HSS y1 y2
      generalize kindP P qe = kk at *
      generalize lenP P qe = ll at *
      clear HA
      by_cases hkk : kk = 1
      · have t1 : (kk == 1) = true := by simpa using hkk
        go_wp2_with fail
        have hcb := fun (i : GrW wr) (o : Nat) => GrW.cell zb i o
        have hld := fun (i : GrW wr) => (hB.gr i.gr).load
        unfold plnV at hld
        by_cases hll : ll < P.margin
        · have HN := Lib.hid (HSS.out hkk hll)
          (refine wp_region_gr (by kernel_rfl) (by kernel_rfl) ?_; (repeat (go_big_quiet_step ((first | (go_at_call 86; exact Calls.gr_of (HK.out _ _ (HPv.out _ (g.trans (GrW.gr _))))) | (go_at_call 91; exact Calls.gr_of (HL.out _ _ (HPv.out _ (g.trans (GrW.gr _))))))))); refine wpQuiet_nil ?_; intro wz hz; obtain ⟨iz, hz⟩ := hz; obtain ⟨wn, gn⟩ := iz; dsimp only at hz; obtain rfl := hz.symm)
          go_wp2
          go_ret
          exact ⟨ret_bool HN.out.symm, g.trans gn⟩
        · have HA2 := Lib.hid (HA'.out fun _ => by omega)
          (refine wp_region_gr (by kernel_rfl) (by kernel_rfl) ?_; (repeat (go_big_quiet_step ((first | (go_at_call 86; exact Calls.gr_of (HK.out _ _ (HPv.out _ (g.trans (GrW.gr _))))) | (go_at_call 91; exact Calls.gr_of (HL.out _ _ (HPv.out _ (g.trans (GrW.gr _))))))))); refine wpQuiet_nil ?_; intro wz hz; obtain ⟨iz, hz⟩ := hz; obtain ⟨wn, gn⟩ := iz; dsimp only at hz; obtain rfl := hz.symm)
          have hB2 := hB.gr gn
          clear hB hPS
          go_wp2
          go_roundw
          case rel => exact ⟨k + 1, by go_num, by omega, g.trans gn, hB2, HA2.out⟩
          case measure => simp [intOf]; omega
      · have t1 : (kk == 1) = false := by simpa using hkk
        have HA2 := Lib.hid (HA'.out fun h => absurd h hkk)
        go_wp2_with fail
        have hcb := fun (i : GrW wr) (o : Nat) => GrW.cell zb i o
        have hld := fun (i : GrW wr) => (hB.gr i.gr).load
        unfold plnV at hld
        (refine wp_region_gr (by kernel_rfl) (by kernel_rfl) ?_; (repeat (go_big_quiet_step ((first | (go_at_call 86; exact Calls.gr_of (HK.out _ _ (HPv.out _ (g.trans (GrW.gr _))))) | (go_at_call 91; exact Calls.gr_of (HL.out _ _ (HPv.out _ (g.trans (GrW.gr _))))))))); refine wpQuiet_nil ?_; intro wz hz; obtain ⟨iz, hz⟩ := hz; obtain ⟨wn, gn⟩ := iz; dsimp only at hz; obtain rfl := hz.symm)
        have hB2 := hB.gr gn
        clear hB hPS
        go_wp2
        go_roundw
        case rel => exact ⟨k + 1, by go_num, by omega, g.trans gn, hB2, HA2.out⟩
        case measure => simp [intOf]; omega
    · have HL1 : Hid ((∀ k (hk : k < P.es.length), P.es[k].k ≠ 4 → P.top ≤ P.es[k].l) → longB P = true) := fun h => HL0.out hM' (fun j hj => HA.out j hj (by omega)) h
      clear HA HL0
      go_wp2_with fail
      go_loopw [5] (fun i wy => ∃ k : Nat, i = .int .i64 k ∧ k ≤ P.es.length ∧ Gr w wy ∧ PBox wy w.heap.size P (.slice a1 P.es.length c1) (.slice a2 P.js.length c2) (.slice a3 P.ss.length c3) (.slice a4 P.ls.length c4) ∧ Hid (∀ j (hj : j < P.es.length), j < k → P.es[j].k ≠ 4 → P.top ≤ P.es[j].l)) (fun i _ => P.es.length - (intOf i).toNat)
      case atStart => exact ⟨0, rfl, Nat.zero_le _, g, hB, fun j hj h => by omega⟩
      case round =>
        clear hB hPS b0 b1 b2 b3 b4 b5 b6 b7 b8 zb g hlt hk
        obtain ⟨k2, rfl, hk, g, hx, HA⟩ := hrel
        obtain ⟨zb, b0, b1, b2, b3, b4, b5, b6, b7, b8⟩ := hx
        have HB := Lib.hid (show PBox wr w.heap.size P (.slice a1 P.es.length c1) (.slice a2 P.js.length c2) (.slice a3 P.ss.length c3) (.slice a4 P.ls.length c4) from ⟨zb, b0, b1, b2, b3, b4, b5, b6, b7, b8⟩)
        by_cases hlt : k2 < P.es.length
        · obtain ⟨b, o, rfl, zs, -, y1, y2⟩ := (H1.out.gr g).at k2 hlt
          have HSS := Lib.hid (@longB_es P k2 hlt)
          have HA' : Hid ((P.es[k2].k ≠ 4 → P.top ≤ P.es[k2].l) → ∀ j (hj : j < P.es.length), j < k2 + 1 → P.es[j].k ≠ 4 → P.top ≤ P.es[j].l) := by
            intro h j hj hjk
            by_cases e : j = k2
            · subst e; exact h
            · exact HA.out j hj (by omega)
          have hk1 : (k2 : Int) < (P.es.length : Int) := by omega
          clear HA HL1
          generalize P.es[k2] = q at *
          obtain ⟨qn, qk, ql⟩ := q
          dsimp only at HA' HSS y1 y2
          by_cases hkk : qk = 4
          · have t1 : (qk != 4) = false := by simpa using hkk
            have HA2 := Lib.hid (HA'.out fun h => absurd hkk h)
            go_wp2_with fail
            go_quiet (fail)
            go_wp2
            go_roundw
            case rel => exact ⟨k2 + 1, by go_num, by omega, g.drewN _, HB.out.drewN _, HA2.out⟩
            case measure => simp [intOf]; omega
          · have t1 : (qk != 4) = true := by simpa using hkk
            by_cases hll : ql < P.top
            · have HN := Lib.hid (HSS.out hkk hll)
              go_wp2_with fail
              go_quiet (fail)
              go_wp2
              go_ret
              exact ⟨ret_bool HN.out.symm, g.drewN _⟩
            · have HA2 := Lib.hid (HA'.out fun _ => by omega)
              go_wp2_with fail
              go_quiet (fail)
              go_wp2
              go_roundw
              case rel => exact ⟨k2 + 1, by go_num, by omega, g.drewN _, HB.out.drewN _, HA2.out⟩
              case measure => simp [intOf]; omega
        · have HN := Lib.hid (HL1.out fun j hj => HA.out j hj (by omega))
          go_wp2
          go_ret
          exact ⟨ret_bool HN.out.symm, g⟩
end Go.Proofs.YtjblplflgiibdaaGreatDoor
