/- Chk5: The document's answer: names, args. Printed by wip/gen_chk5.py.
Chk6: The document's answer: args. -/
import Derived.Test.YtknmngejjoohdaaGreatDoorRows
import Derived.Test.YtknmngejjoohdaaGreatDoorB3
import Derived.Test.YtknmngejjoohdaaGreatDoorB2
namespace Go.Proofs.YtknmngejjoohdaaGreatDoor
open Go.ChangeShapes Go.WideShapes Go.ChangeAt Go.RowKit
set_option linter.unusedVariables false
set_option linter.unusedSimpArgs false

def bxW (w : World) (P : Pln) (e j s l : Value) : World := w.alloc (.cells #[e, j, s, l, .int .i64 P.top, .int .i64 P.brake, .int .i64 P.margin, .int .i64 P.throw, .bool P.hard] 28)
theorem bxW_gr (w : World) (P : Pln) (e j s l : Value) : Gr w (bxW w P e j s l) := (Gr.refl _).alloc _
theorem bxW_box (w : World) (P : Pln) (e j s l : Value) : PBox (bxW w P e j s l) w.heap.size P e j s l := PBox.new w P e j s l
def RetN (w : World) (A B C : List ByteArray) (e : Ending) (w' : World) : Prop := ∃ va vb vc, e = .returned (.tuple #[va, vb, vc]) ∧ IsVals w' va (A.map Value.string) ∧ IsVals w' vb (B.map Value.string) ∧ IsVals w' vc (C.map Value.string) ∧ Gr w w'
theorem map_take_snoc {α β : Type} (l : List α) (f : α → β) (k : Nat) (h : k < l.length) : (l.take k).map f ++ [f l[k]] = (l.take (k + 1)).map f := by
  rw [List.take_succ_eq_append_getElem h, List.map_append]; rfl
theorem map_take_all {α β : Type} (l : List α) (f : α → β) (k : Nat) (h : l.length ≤ k) : (l.take k).map f = l.map f := by
  rw [List.take_of_length_le h]
set_option maxRecDepth 100000 in
set_option maxHeartbeats 400000 in
theorem refNames_any (v : Value) (P : Pln) (w : World) (hP : IsPln w v P) (n1 : P.es.length ≤ 1000) (n3 : P.ss.length ≤ 1000) (n4 : P.ls.length ≤ 1000) :
    Calls Tryz.prog 92 #[v] w (RetN w (P.es.map (·.n)) (P.ss.map (·.n)) (P.ls.map (·.n))) := by
  obtain ⟨a1, c1, a2, c2, a3, c3, a4, c4, rfl, h1, h2, h3, h4⟩ := hP
  have H1 := Lib.hid h1
  have H3 := Lib.hid h3
  have H4 := Lib.hid h4
  have HB := Lib.hid (bxW_box w P (.slice a1 P.es.length c1) (.slice a2 P.js.length c2) (.slice a3 P.ss.length c3) (.slice a4 P.ls.length c4))
  have hw0 := bxW_gr w P (.slice a1 P.es.length c1) (.slice a2 P.js.length c2) (.slice a3 P.ss.length c3) (.slice a4 P.ls.length c4)
  obtain ⟨wb, hwb⟩ : ∃ wb, wb = bxW w P (.slice a1 P.es.length c1) (.slice a2 P.js.length c2) (.slice a3 P.ss.length c3) (.slice a4 P.ls.length c4) := ⟨_, rfl⟩
  rw [← hwb] at HB hw0
  unfold plnV
  obtain ⟨i0, hi, hz0, hz1, hz2⟩ := info_parts Tryz.infoS
  clear h1 h2 h3 h4
  have HWB := Lib.hid hwb
  clear hwb
  go_enter Tryz.func92, Tryz.ntmps92
  go_wp2_with fail
  rw [show (w.alloc (.cells #[.slice a1 P.es.length c1, .slice a2 P.js.length c2, .slice a3 P.ss.length c3, .slice a4 P.ls.length c4, .int .i64 P.top, .int .i64 P.brake, .int .i64 P.margin, .int .i64 P.throw, .bool P.hard] 28)) = wb from HWB.out.symm]
  go_loopw [5, 8] (fun v i wr => ∃ (V : Value) (k : Nat), V = v ∧ i = .int .i64 k ∧ k ≤ P.es.length ∧ OwnS wb.heap.size wr V ((P.es.take k).map (·.n)) ∧ Gr wb wr) (fun _ i _ => P.es.length - (intOf i).toNat)
  case atStart => exact ⟨_, 0, rfl, rfl, Nat.zero_le _, OwnS.nil _ _, Gr.refl _⟩
  case round =>
    obtain ⟨v1, k, rfl, rfl, hk, ho, g⟩ := hrel
    obtain ⟨zb, b0, b1, b2, b3, b4, b5, b6, b7, b8⟩ := HB.out.gr g
    have HO : Hid (wr.ownsRow wb.heap.size 9 1 v1 ((P.es.take k).map (·.n)).length (((P.es.take k).map (·.n)).map Value.string)) := ho
    have hgw := hw0.trans g
    by_cases hlt : k < P.es.length
    · obtain ⟨b, o, hsome, zs, y0, -, -⟩ := (H1.out.gr hgw).at k hlt
      subst hsome
      have HT := Lib.hid (map_take_snoc P.es (·.n) k hlt)
      have hk1 : (k : Int) < (P.es.length : Int) := by omega
      have hkl : ((P.es.take k).map (·.n)).length ≤ 1000 := by simp; omega
      generalize P.es[k].n = nm at *
      generalize (P.es.take k).map (·.n) = L at *
      go_wp2_with (first | (at_builtin; refine wpList_append_own _ rfl _ _ 57 rfl wb.heap.size 9 i0 (.string ByteArray.empty) 1 16 Tryz.underlying57 hi hz0 hz1 hz2 rfl (by decide) _ _ _ rfl (HO.out.alloc _) ⟨wr.heap.size, 0, none⟩ 1 1 [.string nm] rfl rfl ?c1 ?c2 ?c3 ?c4 ?c5 ?_))
      case c1 => exact cell_one_new _ _ _
      case c2 => simp [Value.oneCell']
      case c3 => unfold maxLen; omega
      case c4 => omega
      case c5 => have := g.size; simp; omega
      intro v' w1 hown' hgrow _
      have hg1 : Gr wb w1 := Gr.grown (g.alloc _) hgrow HO.out
      have ho1 : OwnS wb.heap.size w1 v' (L ++ [nm]) := OwnS.snoc hown'
      rw [HT.out] at ho1
      clear hown' hgrow HO
      go_wp2
      go_roundw
      case rel => exact ⟨_, k + 1, rfl, by go_num, by omega, ho1, hg1⟩
      case measure => simp [intOf]; omega
    · have hv1 : IsVals wr v1 ((P.es.map (·.n)).map Value.string) := by
        have := ho.vals (by unfold maxLen; simp; omega)
        rwa [map_take_all _ _ _ (by omega)] at this
      have HV1 := Lib.hid hv1
      have hb1 := HB.out.gr g
      have hw1 := hw0.trans g
      clear HO ho hv1 hgw zb b0 b1 b2 b3 b4 b5 b6 b7 b8
      have hb1' := hb1
      obtain ⟨zb, b0, b1, b2, b3, b4, b5, b6, b7, b8⟩ := hb1'
      go_wp2_with fail
      clear zb b0 b1 b2 b3 b4 b5 b6 b7 b8 g hlt hk
      have HB1 := Lib.hid hb1
      clear hb1
      obtain ⟨wa, hwa⟩ : ∃ wa, wa = wr := ⟨_, rfl⟩
      subst hwa
      go_loopw [6, 9] (fun v i wr => ∃ (V : Value) (k : Nat), V = v ∧ i = .int .i64 k ∧ k ≤ P.ss.length ∧ OwnS wa.heap.size wr V ((P.ss.take k).map (·.n)) ∧ Gr wa wr) (fun _ i _ => P.ss.length - (intOf i).toNat)
      case atStart => exact ⟨_, 0, rfl, rfl, Nat.zero_le _, OwnS.nil _ _, Gr.refl _⟩
      case round =>
        obtain ⟨v2, k, rfl, rfl, hk, ho, g⟩ := hrel
        obtain ⟨zb, b0, b1, b2, b3, b4, b5, b6, b7, b8⟩ := HB1.out.gr g
        have HO : Hid (wr.ownsRow wa.heap.size 9 1 v2 ((P.ss.take k).map (·.n)).length (((P.ss.take k).map (·.n)).map Value.string)) := ho
        have hgw := hw1.trans g
        by_cases hlt : k < P.ss.length
        · obtain ⟨b, o, hsome, zs, y0, -, -, -⟩ := (H3.out.gr hgw).at k hlt
          subst hsome
          have HT := Lib.hid (map_take_snoc P.ss (·.n) k hlt)
          have hk1 : (k : Int) < (P.ss.length : Int) := by omega
          have hkl : ((P.ss.take k).map (·.n)).length ≤ 1000 := by simp; omega
          generalize P.ss[k].n = nm at *
          generalize (P.ss.take k).map (·.n) = L at *
          go_wp2_with (first | (at_builtin; refine wpList_append_own _ rfl _ _ 57 rfl wa.heap.size 9 i0 (.string ByteArray.empty) 1 16 Tryz.underlying57 hi hz0 hz1 hz2 rfl (by decide) _ _ _ rfl (HO.out.alloc _) ⟨wr.heap.size, 0, none⟩ 1 1 [.string nm] rfl rfl ?c1 ?c2 ?c3 ?c4 ?c5 ?_))
          case c1 => exact cell_one_new _ _ _
          case c2 => simp [Value.oneCell']
          case c3 => unfold maxLen; omega
          case c4 => omega
          case c5 => have := g.size; simp; omega
          intro v' w1 hown' hgrow _
          have hg1 : Gr wa w1 := Gr.grown (g.alloc _) hgrow HO.out
          have ho1 : OwnS wa.heap.size w1 v' (L ++ [nm]) := OwnS.snoc hown'
          rw [HT.out] at ho1
          clear hown' hgrow HO
          go_wp2
          go_roundw
          case rel => exact ⟨_, k + 1, rfl, by go_num, by omega, ho1, hg1⟩
          case measure => simp [intOf]; omega
        · have hv2 : IsVals wr v2 ((P.ss.map (·.n)).map Value.string) := by
            have := ho.vals (by unfold maxLen; simp; omega)
            rwa [map_take_all _ _ _ (by omega)] at this
          have HV2 := Lib.hid hv2
          have HV1' := Lib.hid (HV1.out.gr g)
          have hb1 := HB1.out.gr g
          have hw2 := hw1.trans g
          clear HO ho hv2 hgw zb b0 b1 b2 b3 b4 b5 b6 b7 b8
          have hb1' := hb1
          obtain ⟨zb, b0, b1, b2, b3, b4, b5, b6, b7, b8⟩ := hb1'
          go_wp2_with fail
          clear zb b0 b1 b2 b3 b4 b5 b6 b7 b8 g hlt hk HV1
          have HB2 := Lib.hid hb1
          clear hb1
          obtain ⟨wc, hwc⟩ : ∃ wc, wc = wr := ⟨_, rfl⟩
          subst hwc
          go_loopw [7, 10] (fun v i wr => ∃ (V : Value) (k : Nat), V = v ∧ i = .int .i64 k ∧ k ≤ P.ls.length ∧ OwnS wc.heap.size wr V ((P.ls.take k).map (·.n)) ∧ Gr wc wr) (fun _ i _ => P.ls.length - (intOf i).toNat)
          case atStart => exact ⟨_, 0, rfl, rfl, Nat.zero_le _, OwnS.nil _ _, Gr.refl _⟩
          case round =>
            obtain ⟨v3, k, rfl, rfl, hk, ho, g⟩ := hrel
            obtain ⟨zb, b0, b1, b2, b3, b4, b5, b6, b7, b8⟩ := HB2.out.gr g
            have HO : Hid (wr.ownsRow wc.heap.size 9 1 v3 ((P.ls.take k).map (·.n)).length (((P.ls.take k).map (·.n)).map Value.string)) := ho
            have hgw := hw2.trans g
            by_cases hlt : k < P.ls.length
            · obtain ⟨b, o, _, hsome, zs, y0, -, -⟩ := (H4.out.gr hgw).at k hlt
              subst hsome
              have HT := Lib.hid (map_take_snoc P.ls (·.n) k hlt)
              have hk1 : (k : Int) < (P.ls.length : Int) := by omega
              have hkl : ((P.ls.take k).map (·.n)).length ≤ 1000 := by simp; omega
              generalize P.ls[k].n = nm at *
              generalize (P.ls.take k).map (·.n) = L at *
              go_wp2_with (first | (at_builtin; refine wpList_append_own _ rfl _ _ 57 rfl wc.heap.size 9 i0 (.string ByteArray.empty) 1 16 Tryz.underlying57 hi hz0 hz1 hz2 rfl (by decide) _ _ _ rfl (HO.out.alloc _) ⟨wr.heap.size, 0, none⟩ 1 1 [.string nm] rfl rfl ?c1 ?c2 ?c3 ?c4 ?c5 ?_))
              case c1 => exact cell_one_new _ _ _
              case c2 => simp [Value.oneCell']
              case c3 => unfold maxLen; omega
              case c4 => omega
              case c5 => have := g.size; simp; omega
              intro v' w1 hown' hgrow _
              have hg1 : Gr wc w1 := Gr.grown (g.alloc _) hgrow HO.out
              have ho1 : OwnS wc.heap.size w1 v' (L ++ [nm]) := OwnS.snoc hown'
              rw [HT.out] at ho1
              clear hown' hgrow HO
              go_wp2
              go_roundw
              case rel => exact ⟨_, k + 1, rfl, by go_num, by omega, ho1, hg1⟩
              case measure => simp [intOf]; omega
            · have hv3 : IsVals wr v3 ((P.ls.map (·.n)).map Value.string) := by
                have := ho.vals (by unfold maxLen; simp; omega)
                rwa [map_take_all _ _ _ (by omega)] at this
              clear HO ho
              go_wp2
              go_ret3
              exact ⟨_, _, _, rfl, HV1'.out.gr g, HV2.out.gr g, hv3, hgw⟩
end Go.Proofs.YtknmngejjoohdaaGreatDoor
namespace Go.Proofs.YtknmngejjoohdaaGreatDoor
open Go.ChangeShapes Go.WideShapes Go.ChangeAt Go.RowKit
set_option linter.unusedVariables false
set_option linter.unusedSimpArgs false

theorem all_false_of {α : Type} (l : List α) (f : α → Bool) (k : Nat) (h : k < l.length) (hf : f l[k] = false) : l.all f = false := by
  rw [List.all_eq_false]
  exact ⟨l[k], List.getElem_mem h, by simp [hf]⟩
theorem all_true_of {α : Type} (l : List α) (f : α → Bool) (h : ∀ k (hk : k < l.length), f l[k] = true) : l.all f = true := by
  rw [List.all_eq_true]
  intro x hx
  obtain ⟨k, hk, rfl⟩ := List.mem_iff_getElem.1 hx
  exact h k hk
def numsB (P : Pln) : Bool := inB P.top 1 60 && inB P.brake 1 10 && inB P.margin 1 4000 && inB P.throw 1 20 && !decide (P.es.length = 0)
theorem argsB_eq (P : Pln) : argsB P = (numsB P && P.es.all eleB && P.ss.all (fun s => nmB s.n) && P.ls.all (fun l => nmB l.n)) := rfl
theorem argsB_num {P : Pln} (h : numsB P = false) : argsB P = false := by rw [argsB_eq, h]; rfl
theorem argsB_es {P : Pln} {k : Nat} (hk : k < P.es.length) (h : eleB P.es[k] = false) : argsB P = false := by rw [argsB_eq, all_false_of _ _ k hk h]; simp
theorem argsB_ss {P : Pln} {k : Nat} (hk : k < P.ss.length) (h : nmB P.ss[k].n = false) : argsB P = false := by rw [argsB_eq, all_false_of P.ss (fun s => nmB s.n) k hk h]; simp
theorem argsB_ls {P : Pln} {k : Nat} (hk : k < P.ls.length) (h : nmB P.ls[k].n = false) : argsB P = false := by rw [argsB_eq, all_false_of P.ls (fun s => nmB s.n) k hk h]; simp
theorem argsB_yes {P : Pln} (h0 : numsB P = true) (h1 : ∀ k (hk : k < P.es.length), eleB P.es[k] = true) (h2 : ∀ k (hk : k < P.ss.length), nmB P.ss[k].n = true) (h3 : ∀ k (hk : k < P.ls.length), nmB P.ls[k].n = true) : argsB P = true := by
  rw [argsB_eq, h0, all_true_of _ _ h1, all_true_of P.ss (fun s => nmB s.n) h2, all_true_of P.ls (fun s => nmB s.n) h3]; rfl
set_option maxRecDepth 100000 in
set_option maxHeartbeats 1000000 in
theorem refArgs_any (v : Value) (P : Pln) (w : World) (hP : IsPln w v P) (hk : PlnOk P) :
    Calls Tryz.prog 93 #[v] w fun e w' => e = .returned (.bool (argsB P)) ∧ Gr w w' := by
  obtain ⟨a1, c1, a2, c2, a3, c3, a4, c4, rfl, h1, h2, h3, h4⟩ := hP
  have m1 := IsRow.len h1
  have m3 := IsRow.len h3
  have m4 : P.ls.length ≤ maxLen := by obtain ⟨S, hS, -⟩ := h4; exact IsRow.len hS
  unfold maxLen at m1 m3 m4
  have H1 := Lib.hid h1
  have H3 := Lib.hid h3
  have H4 := Lib.hid h4
  have HB := Lib.hid (bxW_box w P (.slice a1 P.es.length c1) (.slice a2 P.js.length c2) (.slice a3 P.ss.length c3) (.slice a4 P.ls.length c4))
  have hw0 := bxW_gr w P (.slice a1 P.es.length c1) (.slice a2 P.js.length c2) (.slice a3 P.ss.length c3) (.slice a4 P.ls.length c4)
  obtain ⟨wb, hwb⟩ : ∃ wb, wb = bxW w P (.slice a1 P.es.length c1) (.slice a2 P.js.length c2) (.slice a3 P.ss.length c3) (.slice a4 P.ls.length c4) := ⟨_, rfl⟩
  rw [← hwb] at HB hw0
  unfold plnV
  have HWB := Lib.hid hwb
  have HK := Lib.hid hk
  have HNO := Lib.hid (@argsB_num P)
  clear h1 h2 h3 h4 hwb hk
  go_enter Tryz.func93, Tryz.ntmps93
  go_wp2_with fail
  rw [show (w.alloc (.cells #[.slice a1 P.es.length c1, .slice a2 P.js.length c2, .slice a3 P.ss.length c3, .slice a4 P.ls.length c4, .int .i64 P.top, .int .i64 P.brake, .int .i64 P.margin, .int .i64 P.throw, .bool P.hard] 28)) = wb from HWB.out.symm]
  have hbo := HB.out
  obtain ⟨zb, b0, b1, b2, b3, b4, b5, b6, b7, b8⟩ := hbo
  have HI1 := Lib.hid (fun w => refWithin_any P.top 1 60 w)
  have HI2 := Lib.hid (fun w => refWithin_any P.brake 1 10 w)
  have HI3 := Lib.hid (fun w => refWithin_any P.margin 1 4000 w)
  have HI4 := Lib.hid (fun w => refWithin_any P.throw 1 20 w)
  have HNB : Hid (numsB P = (inB P.top 1 60 && inB P.brake 1 10 && inB P.margin 1 4000 && inB P.throw 1 20 && !decide (P.es.length = 0))) := rfl
  have HYES := Lib.hid (@argsB_yes P)
  generalize inB P.top 1 60 = i1 at HI1 HNB
  generalize inB P.brake 1 10 = i2 at HI2 HNB
  generalize inB P.margin 1 4000 = i3 at HI3 HNB
  generalize inB P.throw 1 20 = i4 at HI4 HNB
  cases i1
  · (go_wp2_with (first | (go_at_call 144; (first | (with_reducible refine (HI1.out _).mono ?_) | (with_reducible refine (HI2.out _).mono ?_) | (with_reducible refine (HI3.out _).mono ?_) | (with_reducible refine (HI4.out _).mono ?_)); rintro e w' ⟨rfl, hq⟩; obtain rfl := hq.symm)); go_ret; exact ⟨ret_bool (HNO.out (by rw [HNB.out]; simp)).symm, hw0⟩)
  cases i2
  · (go_wp2_with (first | (go_at_call 144; (first | (with_reducible refine (HI1.out _).mono ?_) | (with_reducible refine (HI2.out _).mono ?_) | (with_reducible refine (HI3.out _).mono ?_) | (with_reducible refine (HI4.out _).mono ?_)); rintro e w' ⟨rfl, hq⟩; obtain rfl := hq.symm)); go_ret; exact ⟨ret_bool (HNO.out (by rw [HNB.out]; simp)).symm, hw0⟩)
  cases i3
  · (go_wp2_with (first | (go_at_call 144; (first | (with_reducible refine (HI1.out _).mono ?_) | (with_reducible refine (HI2.out _).mono ?_) | (with_reducible refine (HI3.out _).mono ?_) | (with_reducible refine (HI4.out _).mono ?_)); rintro e w' ⟨rfl, hq⟩; obtain rfl := hq.symm)); go_ret; exact ⟨ret_bool (HNO.out (by rw [HNB.out]; simp)).symm, hw0⟩)
  cases i4
  · (go_wp2_with (first | (go_at_call 144; (first | (with_reducible refine (HI1.out _).mono ?_) | (with_reducible refine (HI2.out _).mono ?_) | (with_reducible refine (HI3.out _).mono ?_) | (with_reducible refine (HI4.out _).mono ?_)); rintro e w' ⟨rfl, hq⟩; obtain rfl := hq.symm)); go_ret; exact ⟨ret_bool (HNO.out (by rw [HNB.out]; simp)).symm, hw0⟩)
  by_cases hz : P.es.length = 0
  · have t1 : ((P.es.length : Int) == 0) = true := by simp [hz]
    have HZ := Lib.hid hz
    clear hz
    go_wp2_with (first | (go_at_call 144; (first | (with_reducible refine (HI1.out _).mono ?_) | (with_reducible refine (HI2.out _).mono ?_) | (with_reducible refine (HI3.out _).mono ?_) | (with_reducible refine (HI4.out _).mono ?_)); rintro e w' ⟨rfl, hq⟩; obtain rfl := hq.symm))
    go_ret
    exact ⟨ret_bool (HNO.out (by rw [HNB.out, HZ.out]; rfl)).symm, hw0⟩
  have t1 : ((P.es.length : Int) == 0) = false := beqF (by omega)
  have HT : Hid (numsB P = true) := by unfold Hid; rw [HNB.out, decide_eq_false hz]; rfl
  clear HNB HNO hz
  go_wp2_with (first | (go_at_call 144; (first | (with_reducible refine (HI1.out _).mono ?_) | (with_reducible refine (HI2.out _).mono ?_) | (with_reducible refine (HI3.out _).mono ?_) | (with_reducible refine (HI4.out _).mono ?_)); rintro e w' ⟨rfl, hq⟩; obtain rfl := hq.symm))
  clear zb b0 b1 b2 b3 b4 b5 b6 b7 b8 t1
  go_loopw [3, 4] (fun i _ wr => ∃ k : Nat, i = .int .i64 k ∧ k ≤ P.es.length ∧ Gr wb wr ∧ Hid (∀ j (hj : j < P.es.length), j < k → eleB P.es[j] = true)) (fun i _ _ => P.es.length - (intOf i).toNat)
  case atStart => exact ⟨0, rfl, Nat.zero_le _, Gr.refl _, fun j hj h => by omega⟩
  case round =>
    obtain ⟨k, rfl, hk, g, HA⟩ := hrel
    have hbo := HB.out.gr g
    obtain ⟨zb, b0, b1, b2, b3, b4, b5, b6, b7, b8⟩ := hbo
    by_cases hlt : k < P.es.length
    · obtain ⟨b, o, hsome, zs, y0, y1, y2⟩ := (H1.out.gr (hw0.trans g)).at k hlt
      subst hsome
      have HBAD := Lib.hid (@argsB_es P k hlt)
      have HA' : Hid (eleB P.es[k] = true → ∀ j (hj : j < P.es.length), j < k + 1 → eleB P.es[j] = true) := by
        intro h j hj hjk
        by_cases e : j = k
        · subst e; exact h
        · exact HA.out j hj (by omega)
      have HZN := Lib.hid (HK.out.es _ (List.getElem_mem hlt)).2.2
      have hk1 : (k : Int) < (P.es.length : Int) := by omega
      clear HA
      have HE : Hid (eleB P.es[k] = (nmB P.es[k].n && !decide (endsK P.es[k].k = 0) && (if P.es[k].k = 4 then decide (P.es[k].l = 0) else inB P.es[k].l 1 4000))) := rfl
      generalize P.es[k] = q at *
      obtain ⟨qn, qk, ql⟩ := q
      dsimp only at HE y0 y1 y2 HZN
      have LQ : (Instr.loadAt 80 (.pointer (some ⟨b, o + k * 3, none⟩))).run Tryz.prog wr = .ok (.agg #[.string qn, .int .i64 qk, .int .i64 ql]) wr :=
        run_loadAt_mid wr b (o + k * 3) 80 [.string qn, .int .i64 qk, .int .i64 ql] _ (fun j v h => by
          match j, h with
          | 0, h => cases h; exact y0
          | 1, h => cases h; exact y1
          | 2, h => cases h; exact y2) Tryz.underlying80 rfl (by kernel_rfl)
      have HNM := Lib.hid (fun w => refName_any qn HZN.out w)
      have HEN := Lib.hid (fun w => endsR_any qk w)
      have HIN := Lib.hid (fun w => refWithin_any ql 1 4000 w)
      generalize nmB qn = nb at HE HNM
      generalize endsK qk = en at HE HEN
      generalize inB ql 1 4000 = il at HE HIN
      cases nb
      · have HR := Lib.hid (HBAD.out (by rw [HE.out]; rfl))
        (go_wp2_with (first | (go_at_call 88; (with_reducible refine (HNM.out _).mono ?_); rintro e w' ⟨rfl, hq⟩; obtain rfl := hq.symm) | (go_at_call 145; (with_reducible refine (HEN.out _).mono ?_); rintro e w' ⟨rfl, hq⟩; obtain rfl := hq.symm) | (go_at_call 144; (with_reducible refine (HIN.out _).mono ?_); rintro e w' ⟨rfl, hq⟩; obtain rfl := hq.symm)); go_ret; exact ⟨ret_bool HR.out.symm, (hw0.trans g).alloc _⟩)
      by_cases hen : en = 0
      · have HR := Lib.hid (HBAD.out (by rw [HE.out, hen]; rfl))
        have t1 : (en == 0) = true := by simpa using hen
        clear hen
        (go_wp2_with (first | (go_at_call 88; (with_reducible refine (HNM.out _).mono ?_); rintro e w' ⟨rfl, hq⟩; obtain rfl := hq.symm) | (go_at_call 145; (with_reducible refine (HEN.out _).mono ?_); rintro e w' ⟨rfl, hq⟩; obtain rfl := hq.symm) | (go_at_call 144; (with_reducible refine (HIN.out _).mono ?_); rintro e w' ⟨rfl, hq⟩; obtain rfl := hq.symm)); go_ret; exact ⟨ret_bool HR.out.symm, (hw0.trans g).alloc _⟩)
      have t1 : (en == 0) = false := by simpa using hen
      by_cases hqk : qk = 4
      · have t2 : (qk == 4) = true := by simpa using hqk
        have t3 : (qk != 4) = false := by simpa using hqk
        by_cases hql : ql = 0
        · have HG := Lib.hid (HA'.out (by rw [HE.out, if_pos hqk, hql]; simp [hen]))
          have t4 : (ql != 0) = false := by simpa using hql
          clear hen hqk hql
          (go_wp2_with (first | (go_at_call 88; (with_reducible refine (HNM.out _).mono ?_); rintro e w' ⟨rfl, hq⟩; obtain rfl := hq.symm) | (go_at_call 145; (with_reducible refine (HEN.out _).mono ?_); rintro e w' ⟨rfl, hq⟩; obtain rfl := hq.symm) | (go_at_call 144; (with_reducible refine (HIN.out _).mono ?_); rintro e w' ⟨rfl, hq⟩; obtain rfl := hq.symm)); go_roundw; (case rel => exact ⟨k + 1, by go_num, by omega, g.alloc _, HG.out⟩); (case measure => simp [intOf]; omega))
        · have HR := Lib.hid (HBAD.out (by rw [HE.out, if_pos hqk]; simp [hql]))
          have t4 : (ql != 0) = true := by simpa using hql
          clear hen hqk hql
          (go_wp2_with (first | (go_at_call 88; (with_reducible refine (HNM.out _).mono ?_); rintro e w' ⟨rfl, hq⟩; obtain rfl := hq.symm) | (go_at_call 145; (with_reducible refine (HEN.out _).mono ?_); rintro e w' ⟨rfl, hq⟩; obtain rfl := hq.symm) | (go_at_call 144; (with_reducible refine (HIN.out _).mono ?_); rintro e w' ⟨rfl, hq⟩; obtain rfl := hq.symm)); go_ret; exact ⟨ret_bool HR.out.symm, (hw0.trans g).alloc _⟩)
      · have t2 : (qk == 4) = false := by simpa using hqk
        have t3 : (qk != 4) = true := by simpa using hqk
        cases il
        · have HR := Lib.hid (HBAD.out (by rw [HE.out, if_neg hqk]; simp))
          clear hen hqk
          (go_wp2_with (first | (go_at_call 88; (with_reducible refine (HNM.out _).mono ?_); rintro e w' ⟨rfl, hq⟩; obtain rfl := hq.symm) | (go_at_call 145; (with_reducible refine (HEN.out _).mono ?_); rintro e w' ⟨rfl, hq⟩; obtain rfl := hq.symm) | (go_at_call 144; (with_reducible refine (HIN.out _).mono ?_); rintro e w' ⟨rfl, hq⟩; obtain rfl := hq.symm)); go_ret; exact ⟨ret_bool HR.out.symm, (hw0.trans g).alloc _⟩)
        · have HG := Lib.hid (HA'.out (by rw [HE.out, if_neg hqk]; simp [hen]))
          clear hen hqk
          (go_wp2_with (first | (go_at_call 88; (with_reducible refine (HNM.out _).mono ?_); rintro e w' ⟨rfl, hq⟩; obtain rfl := hq.symm) | (go_at_call 145; (with_reducible refine (HEN.out _).mono ?_); rintro e w' ⟨rfl, hq⟩; obtain rfl := hq.symm) | (go_at_call 144; (with_reducible refine (HIN.out _).mono ?_); rintro e w' ⟨rfl, hq⟩; obtain rfl := hq.symm)); go_roundw; (case rel => exact ⟨k + 1, by go_num, by omega, g.alloc _, HG.out⟩); (case measure => simp [intOf]; omega))
    · have HY2 : Hid ((∀ k (hk : k < P.ss.length), nmB P.ss[k].n = true) → (∀ k (hk : k < P.ls.length), nmB P.ls[k].n = true) → argsB P = true) := fun h2 h3 => HYES.out HT.out (fun j hj => HA.out j hj (by omega)) h2 h3
      clear HA HYES HT
      go_wp2_with fail
      clear zb b0 b1 b2 b3 b4 b5 b6 b7 b8 hlt hk
      have HB1 := Lib.hid (HB.out.gr g)
      have hw1 := hw0.trans g
      obtain ⟨wa, hwa⟩ : ∃ wa, wa = wr := ⟨_, rfl⟩
      subst hwa
      clear g
      go_loopw [5] (fun i wr => ∃ k : Nat, i = .int .i64 k ∧ k ≤ P.ss.length ∧ wa = wr ∧ Hid (∀ j (hj : j < P.ss.length), j < k → nmB P.ss[j].n = true)) (fun i _ => P.ss.length - (intOf i).toNat)
      case atStart => exact ⟨0, rfl, Nat.zero_le _, rfl, fun j hj h => by omega⟩
      case round =>
        obtain ⟨k, rfl, hk, rfl, HA⟩ := hrel
        have hbo := HB1.out
        obtain ⟨zb, b0, b1, b2, b3, b4, b5, b6, b7, b8⟩ := hbo
        by_cases hlt : k < P.ss.length
        · obtain ⟨b, o, hsome, zs, y0, -, -, -⟩ := (H3.out.gr hw1).at k hlt
          subst hsome
          have HBAD := Lib.hid (@argsB_ss P k hlt)
          have HA' : Hid (nmB P.ss[k].n = true → ∀ j (hj : j < P.ss.length), j < k + 1 → nmB P.ss[j].n = true) := by
            intro h j hj hjk
            by_cases e : j = k
            · subst e; exact h
            · exact HA.out j hj (by omega)
          have HZN := Lib.hid (HK.out.ss _ (List.getElem_mem hlt)).2.2
          have hk1 : (k : Int) < (P.ss.length : Int) := by omega
          clear HA
          generalize P.ss[k].n = qn at *
          have HNM := Lib.hid (fun w => refName_any qn HZN.out w)
          generalize nmB qn = nb at *
          cases nb
          · have HR := Lib.hid (HBAD.out rfl)
            go_wp2_with (go_at_call 88; (with_reducible refine (HNM.out _).mono ?_); rintro e w' ⟨rfl, hq⟩; obtain rfl := hq.symm)
            go_ret
            exact ⟨ret_bool HR.out.symm, hw1⟩
          · have HG := Lib.hid (HA'.out rfl)
            go_wp2_with (go_at_call 88; (with_reducible refine (HNM.out _).mono ?_); rintro e w' ⟨rfl, hq⟩; obtain rfl := hq.symm)
            go_roundw
            case rel => exact ⟨k + 1, by go_num, by omega, by trivial, HG.out⟩
            case measure => simp [intOf]; omega
        · have HY3 : Hid ((∀ k (hk : k < P.ls.length), nmB P.ls[k].n = true) → argsB P = true) := fun h3 => HY2.out (fun j hj => HA.out j hj (by omega)) h3
          clear HA HY2
          go_wp2_with fail
          clear zb b0 b1 b2 b3 b4 b5 b6 b7 b8 hlt hk
          go_loopw [6] (fun i wr => ∃ k : Nat, i = .int .i64 k ∧ k ≤ P.ls.length ∧ wa = wr ∧ Hid (∀ j (hj : j < P.ls.length), j < k → nmB P.ls[j].n = true)) (fun i _ => P.ls.length - (intOf i).toNat)
          case atStart => exact ⟨0, rfl, Nat.zero_le _, rfl, fun j hj h => by omega⟩
          case round =>
            obtain ⟨k, rfl, hk, rfl, HA⟩ := hrel
            have hbo := HB1.out
            obtain ⟨zb, b0, b1, b2, b3, b4, b5, b6, b7, b8⟩ := hbo
            by_cases hlt : k < P.ls.length
            · obtain ⟨b, o, _, hsome, zs, y0, -, -⟩ := (H4.out.gr hw1).at k hlt
              subst hsome
              have HBAD := Lib.hid (@argsB_ls P k hlt)
              have HA' : Hid (nmB P.ls[k].n = true → ∀ j (hj : j < P.ls.length), j < k + 1 → nmB P.ls[j].n = true) := by
                intro h j hj hjk
                by_cases e : j = k
                · subst e; exact h
                · exact HA.out j hj (by omega)
              have HZN := Lib.hid (HK.out.ls _ (List.getElem_mem hlt)).1
              have hk1 : (k : Int) < (P.ls.length : Int) := by omega
              clear HA
              generalize P.ls[k].n = qn at *
              have HNM := Lib.hid (fun w => refName_any qn HZN.out w)
              generalize nmB qn = nb at *
              cases nb
              · have HR := Lib.hid (HBAD.out rfl)
                go_wp2_with (go_at_call 88; (with_reducible refine (HNM.out _).mono ?_); rintro e w' ⟨rfl, hq⟩; obtain rfl := hq.symm)
                go_ret
                exact ⟨ret_bool HR.out.symm, hw1⟩
              · have HG := Lib.hid (HA'.out rfl)
                go_wp2_with (go_at_call 88; (with_reducible refine (HNM.out _).mono ?_); rintro e w' ⟨rfl, hq⟩; obtain rfl := hq.symm)
                go_roundw
                case rel => exact ⟨k + 1, by go_num, by omega, by trivial, HG.out⟩
                case measure => simp [intOf]; omega
            · have HY := Lib.hid (HY3.out fun j hj => HA.out j hj (by omega))
              clear HA
              go_wp2
              go_ret
              exact ⟨ret_bool HY.out.symm, hw1⟩
end Go.Proofs.YtknmngejjoohdaaGreatDoor
