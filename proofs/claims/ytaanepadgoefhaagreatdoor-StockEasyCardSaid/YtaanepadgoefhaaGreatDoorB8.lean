/- Pla6: plan.lines.
Pla7: plan.long.
Pla8: plan.Check.
Cln: slices.Clone at the plan's element types. Printed by wip/gen_cln.py.
Few: Few, Fine. -/
import Derived.Test.YtaanepadgoefhaaGreatDoorRows
import Derived.Test.YtaanepadgoefhaaGreatDoorB5
import Derived.Test.YtaanepadgoefhaaGreatDoorB6
import Derived.Test.YtaanepadgoefhaaGreatDoorB7
import Derived.Deep.AppendLies
import Derived.Test.YtaanepadgoefhaaGreatDoorB3
import Derived.Test.YtaanepadgoefhaaGreatDoorB1
import Derived.WalkSpells
namespace Go.Proofs.YtaanepadgoefhaaGreatDoor
open Go.ChangeShapes Go.WideShapes Go.ChangeAt Go.RowKit Go.Maps
set_option linter.unusedVariables false
set_option linter.unusedSimpArgs false
/-- a set of numbers -/
def SeenI (l : List Int) (f : Value → Option Value) : Prop := ∀ x : Int, (x ∈ l → f (.int .i64 x) = some (.bool true)) ∧ (x ∉ l → f (.int .i64 x) = none)
theorem SeenI.nil : SeenI [] (fun _ => none) := fun x => ⟨fun h => (List.not_mem_nil h).elim, fun _ => rfl⟩
theorem SeenI.put {l : List Int} {f : Value → Option Value} (h : SeenI l f) (x : Int) : SeenI (l ++ [x]) (put f (.int .i64 x) (.bool true)) := by
  intro y
  by_cases e : y = x
  · subst e; rw [put_self]; simp
  · rw [put_else _ (fun h => e (by injection h))]
    have h1 := h y
    simp only [List.mem_append, List.mem_singleton, e, or_false]
    exact h1
theorem seenI_yes {w : World} {b n : Nat} {f : Value → Option Value} {l : List Int} {x : Int} (h : MapIs Tryz.prog 3 w b n f) (hf : SeenI l f) (hx : I64 x) (hn : x ∈ l) :
    (Instr.lookup 173 (.map (some b)) (.int .i64 x) false).run Tryz.prog w = .ok (.bool true) w := by
  have := h.lookup int_key Tryz.underlying173 (bool_zero w) (keyOf_int_mk Tryz.underlying3 hx)
  rw [(hf x).1 hn] at this
  exact this
theorem seenI_no {w : World} {b n : Nat} {f : Value → Option Value} {l : List Int} {x : Int} (h : MapIs Tryz.prog 3 w b n f) (hf : SeenI l f) (hx : I64 x) (hn : x ∉ l) :
    (Instr.lookup 173 (.map (some b)) (.int .i64 x) false).run Tryz.prog w = .ok (.bool false) w := by
  have := h.lookup int_key Tryz.underlying173 (bool_zero w) (keyOf_int_mk Tryz.underlying3 hx)
  rw [(hf x).2 hn] at this
  exact this
set_option maxRecDepth 100000 in
set_option maxHeartbeats 1000000 in
theorem lines_anyP (v : Value) (P : Pln) (w : World) (b n : Nat) (f : Value → Option Value) (hP : IsPln w v P) (hk : PlnOk P) (hn : (P.ls.flatMap (·.es)).length ≤ 1000000) (hln : P.ls.length ≤ 1000000) (hm : MapIs Tryz.prog 68 w b n f) (hf : FnL P.js f) (hok : okL P P.js) :
    Calls Tryz.prog 124 #[v, .map (some b)] w fun e w' => e = .returned (.bool (linesB P)) ∧ Gr w w' := by
  obtain ⟨a1, c1, a2, c2, a3, c3, a4, c4, rfl, h1, h2, h3, h4⟩ := hP
  have m1 := IsRow.len h1
  unfold maxLen at m1
  have hmm := @run_makeMap Tryz.prog
  have H1 := Lib.hid h1
  have H4 := Lib.hid h4
  have HB := Lib.hid (bxW_box w P (.slice a1 P.es.length c1) (.slice a2 P.js.length c2) (.slice a3 P.ss.length c3) (.slice a4 P.ls.length c4))
  have hw0 := bxW_gr w P (.slice a1 P.es.length c1) (.slice a2 P.js.length c2) (.slice a3 P.ss.length c3) (.slice a4 P.ls.length c4)
  have hsz : (bxW w P (.slice a1 P.es.length c1) (.slice a2 P.js.length c2) (.slice a3 P.ss.length c3) (.slice a4 P.ls.length c4)).heap.size = w.heap.size + 1 := by unfold bxW; simp
  obtain ⟨wb, hwb⟩ : ∃ wb, wb = bxW w P (.slice a1 P.es.length c1) (.slice a2 P.js.length c2) (.slice a3 P.ss.length c3) (.slice a4 P.ls.length c4) := ⟨_, rfl⟩
  rw [← hwb] at HB hw0 hsz
  have HSZ := Lib.hid hsz
  have hm0 : MapIs Tryz.prog 3 (wb.alloc (.map #[] 0)) (w.heap.size + 1) 0 (fun _ => none) := by rw [← hsz]; exact MapIs.made _ _ _
  have HM0 := Lib.hid hm0
  unfold plnV
  have HWB := Lib.hid hwb
  have HKL := Lib.hid hk.ls
  have HM := Lib.hid hm
  have HF := Lib.hid hf
  have HJ := Lib.hid hok.2
  have HN := Lib.hid hn
  clear h1 h2 h3 h4 hwb hk hsz hm0 hm hf hok hn
  go_enter Tryz.func124, Tryz.ntmps124
  go_wp2_with fail
  rw [show (w.alloc (.cells #[.slice a1 P.es.length c1, .slice a2 P.js.length c2, .slice a3 P.ss.length c3, .slice a4 P.ls.length c4, .int .i64 P.top, .int .i64 P.brake, .int .i64 P.margin, .int .i64 P.throw, .bool P.hard] 27)) = wb from HWB.out.symm]
  clear HWB hmm
  go_loopw [14, 25] (fun x _ wr => ∃ (i n : Nat) (f : Value → Option Value), x = .int .i64 i ∧ i ≤ P.ls.length ∧ n ≤ ((P.ls.take i).flatMap (·.es)).length ∧ Gr wb wr ∧ MapIs Tryz.prog 3 wr (w.heap.size + 1) n f ∧ Hid (SeenI ((P.ls.take i).flatMap (·.es)) f) ∧ Hid (((P.ls.take i).flatMap (·.es)).Nodup ∧ ∀ j (hj : j < P.ls.length), j < i → entB P P.ls[j].es = true)) (fun x _ _ => P.ls.length - (intOf x).toNat)
  case atStart => exact ⟨0, 0, _, rfl, Nat.zero_le _, Nat.zero_le _, (Gr.refl _).alloc _, HM0.out, SeenI.nil, List.nodup_nil, fun j _ h => by omega⟩
  case round =>
    obtain ⟨i, n0, f0, rfl, hi, hn0, g0, hm1, HS, HA⟩ := hrel
    have hB := HB.out.gr g0
    have hwr : Gr w wr := hw0.trans g0
    obtain ⟨zb, b0, b1, b2, b3, b4, b5, b6, b7, b8⟩ := hB
    by_cases hlt : i < P.ls.length
    · obtain ⟨bl, o, u, hsome, zs, y0, y1, hu⟩ := (H4.out).at i hlt
      have y0 := (hwr.cell _ _ zs).trans y0
      have y1 := (hwr.cell _ _ zs).trans y1
      subst hsome
      have i1 : (i : Int) < (P.ls.length : Int) := by omega
      have HD := Lib.hid (fun k => @linesB_dup P i k hlt)
      have HE := Lib.hid (@linesB_ent P i hlt)
      have HST := Lib.hid (lines_step hlt)
      have HKLi := Lib.hid (HKL.out _ (List.getElem_mem hlt)).2
      have hll : ((P.ls.take i).flatMap (·.es)).length + P.ls[i].es.length ≤ 1000000 := by
        have := HN.out
        rw [lines_split hlt] at this
        simp only [List.length_append] at this
        omega
      have HA' : Hid (((P.ls.take (i + 1)).flatMap (·.es)).Nodup → entB P P.ls[i].es = true → (((P.ls.take (i + 1)).flatMap (·.es)).Nodup ∧ ∀ j (hj : j < P.ls.length), j < i + 1 → entB P P.ls[j].es = true)) := by
        intro h1 h2
        refine ⟨h1, fun j hj hji => ?_⟩
        by_cases e : j = i
        · subst e; exact h2
        · exact HA.out.2 j hj (by omega)
      have HM0 := Lib.hid HA.out.1
      clear HA
      generalize P.ls[i].n = ln at *
      generalize P.ls[i].es = l at *
      obtain ⟨M, hM⟩ : ∃ M, M = (P.ls.take i).flatMap (·.es) := ⟨_, rfl⟩
      rw [← hM] at HD HST hll HM0 hn0 HS
      clear hM
      have hu' := hu
      obtain ⟨au, cu, rfl, -, -⟩ := hu'
      simp only [List.length_map] at hu y1
      have HU := Lib.hid hu
      clear hu
      by_cases hl0 : l.length = 0
      · have t1 : ((l.length : Int) == 0) = true := by simp [hl0]
        have HR := Lib.hid (HE.out (by rw [List.length_eq_zero_iff.1 hl0]; exact entB_nil P))
        clear hl0
        go_wp2
        go_ret
        exact ⟨ret_bool HR.out.symm, hwr.alloc _⟩
      have t1 : ((l.length : Int) == 0) = false := beqF (by omega)
      have hl0' : 0 < l.length := by omega
      clear hl0
      have hblt := hm1.lt
      go_wp2_with fail
      clear b0 b1 b2 b3 b4 b5 b6 b7 b8 y0 y1 t1
      obtain ⟨lb, hlb⟩ : ∃ lb, lb = wr.heap.size := ⟨_, rfl⟩
      have HLB := Lib.hid hlb
      have hm1' := hm1.gr ((Gr.refl wr).alloc (.cells #[.string ln, .slice au l.length cu] 101))
      have hq : (wr.alloc (.cells #[.string ln, .slice au l.length cu] 101)).cell? ⟨lb, 1, none⟩ = some (.slice au l.length cu) := by rw [hlb, World.cell?_alloc_mark]; rfl
      have hq2 : lb < (wr.alloc (.cells #[.string ln, .slice au l.length cu] 101)).heap.size := by rw [hlb]; simp
      have hlbm : w.heap.size + 1 < lb := by omega
      rw [← hlb]
      clear hlb hm1
      go_loopw [9, 25] (fun _ x wr => ∃ (k n : Nat) (f : Value → Option Value), x = .int .i64 k ∧ k ≤ l.length ∧ n ≤ M.length + k ∧ Gr wb wr ∧ MapIs Tryz.prog 3 wr (w.heap.size + 1) n f ∧ Hid (SeenI (M ++ l.take k) f) ∧ Hid ((M ++ l.take k).Nodup ∧ ∀ j (hj : j < l.length), j < k → kindP P l[j] = 1) ∧ wr.cell? ⟨lb, 1, none⟩ = some (.slice au l.length cu) ∧ lb < wr.heap.size) (fun _ x _ => l.length - (intOf x).toNat)
      case atStart => exact ⟨0, n0, f0, rfl, Nat.zero_le _, by omega, g0.alloc _, hm1', by unfold Hid; simpa using HS.out, ⟨by simpa using HM0.out, fun j _ h => by omega⟩, hq, hq2⟩
      case round =>
        clear hq hq2 hm1' zb hwr hblt
        obtain ⟨k, n1, f1, rfl, hk, hn1, g, hm1, HS1, HNd, q1, q2⟩ := hrel
        have HM1 := Lib.hid hm1
        clear hm1
        have hB := HB.out.gr g
        have hwr2 : Gr w wr := hw0.trans g
        obtain ⟨zb, b0, b1, b2, b3, b4, b5, b6, b7, b8⟩ := hB
        by_cases hkl : k < l.length
        · have k1 : (k : Int) < (l.length : Int) := by omega
          obtain ⟨b', o', hsome', zs', y0⟩ := ints_at (HU.out.gr hwr2) k hkl
          subst hsome'
          have HDk := Lib.hid (HD.out k hkl)
          have HEk := Lib.hid (@entB_kind P l k hkl)
          have HIK := Lib.hid (HKLi.out _ (List.getElem_mem hkl))
          have HTK : Hid ((M ++ l.take k) ++ [l[k]] = M ++ l.take (k + 1)) := by unfold Hid; rw [List.take_succ_eq_append_getElem hkl, List.append_assoc]
          have HND2 : Hid (l[k] ∉ M ++ l.take k → kindP P l[k] = 1 → ((M ++ l.take k) ++ [l[k]]).Nodup ∧ ∀ j (hj : j < l.length), j < k + 1 → kindP P l[j] = 1) := fun h h2 => ⟨nodup_snoc HNd.out.1 h, fun j hj hjk => by
            by_cases e : j = k
            · subst e; exact h2
            · exact HNd.out.2 j hj (by omega)⟩
          clear HNd
          obtain ⟨x, hx⟩ : ∃ x, x = l[k] := ⟨_, rfl⟩
          rw [← hx] at y0 HDk HEk HIK HTK HND2
          clear hx
          by_cases hx0 : x < 0
          · have HR := Lib.hid (HE.out (HEk.out (by rw [kindP_out P x (by omega)]; omega)))
            go_wp2
            go_ret
            exact ⟨ret_bool HR.out.symm, hwr2⟩
          by_cases hxl : (P.es.length : Int) ≤ x
          · have HR := Lib.hid (HE.out (HEk.out (by rw [kindP_out P x (by omega)]; omega)))
            go_wp2
            go_ret
            exact ⟨ret_bool HR.out.symm, hwr2⟩
          obtain ⟨m, rfl⟩ := Int.eq_ofNat_of_zero_le (show 0 ≤ x by omega)
          have hml : m < P.es.length := by omega
          have hml1 : (m : Int) < (P.es.length : Int) := by omega
          obtain ⟨be, oe, hsome, zse, -, x1, -⟩ := (H1.out.gr hwr2).at m hml
          subst hsome
          have HKD := Lib.hid (kindP_in P m hml)
          rw [HKD.out] at HEk HND2
          clear HKD hx0 hxl
          generalize P.es[m].k = kk at *
          by_cases hkk : kk = 1
          · have t1 := bneF hkk
            by_cases hdup : (m : Int) ∈ M ++ l.take k
            · have HR := Lib.hid (HDk.out hdup)
              have l1 := seenI_yes HM1.out HS1.out HIK.out hdup
              clear hdup hkk
              go_wp2
              go_ret
              exact ⟨ret_bool HR.out.symm, hwr2⟩
            · have l1 := seenI_no HM1.out HS1.out HIK.out hdup
              have HN3 := HND2.out hdup hkk
              rw [HTK.out] at HN3
              have HN4 := Lib.hid HN3
              have HS2 : Hid (SeenI (M ++ l.take (k + 1)) (put f1 (.int .i64 m) (.bool true))) := by
                unfold Hid
                rw [← HTK.out]
                exact HS1.out.put _
              clear hdup hkk HN3 HND2 HDk HEk HS1
              go_wp2_with (at_mapUpdate; refine wpList_put _ rfl _ _ _ 173 rfl int_key Tryz.underlying173 rfl HM1.out (by unfold maxLen; omega) _ _ _ rfl rfl (keyOf_int_mk Tryz.underlying3 HIK.out) ?_; intro w7 hm7 hg7)
              have g8 : Gr wb w7 := Gr.grownM g hg7 (by have := HSZ.out; omega)
              have q1' := (hg7.cell_far ⟨lb, 1, none⟩ q2 (fun e => by simp at e; omega)).trans q1
              go_roundw
              case rel => exact ⟨k + 1, n1 + 1, _, by go_num, by omega, by omega, g8, hm7, HS2.out, HN4.out, q1', Nat.lt_of_lt_of_le q2 hg7.size⟩
              case measure => simp [intOf]; omega
          · have t1 := bneT hkk
            have HR := Lib.hid (HE.out (HEk.out hkk))
            clear hkk
            go_wp2
            go_ret
            exact ⟨ret_bool HR.out.symm, hwr2⟩
        · have HMl : Hid (M ++ l.take k = (P.ls.take (i + 1)).flatMap (·.es)) := by unfold Hid; rw [List.take_of_length_le (by omega)]; exact HST.out
          have hnd := HNd.out
          have HEB := Lib.hid (entB_all hl0' fun j hj => hnd.2 j hj (by omega))
          have hnd1 := hnd.1
          have hs2 := HS1.out
          rw [HMl.out] at hnd1 hs2
          have HS2 := Lib.hid hs2
          have HA2 := Lib.hid (HA'.out hnd1)
          have hnl : M.length + k = ((P.ls.take (i + 1)).flatMap (·.es)).length := by rw [← HMl.out, List.take_of_length_le (by omega), List.length_append]; omega
          have HNL := Lib.hid hnl
          clear HNd hnd hnd1 hs2 hnl HS1
          have HRW := Lib.hid (fun w' (h : Gr w w') => row_any _ P l w' b n f (HU.out.gr h) HKLi.out (HM.out.gr h) HF.out HJ.out (by omega))
          have HE2 := HE.out
          have HA3 := HA2.out
          rw [HEB.out] at HE2 HA3
          have HE3 := Lib.hid HE2
          have HA4 := Lib.hid HA3
          clear HE2 HA3 HE HA2 HEB
          generalize rowB P l = rb at *
          cases rb
          · have HR := Lib.hid (HE3.out rfl)
            go_wp2_with (go_at_call 144; (with_reducible refine (HRW.out _ hwr2).mono ?_); rintro e w5 ⟨rfl, h5⟩)
            go_ret
            exact ⟨ret_bool HR.out.symm, hwr2.trans h5⟩
          · have HA5 := Lib.hid (HA4.out rfl)
            go_wp2_with (go_at_call 144; (with_reducible refine (HRW.out _ hwr2).mono ?_); rintro e w5 ⟨rfl, h5⟩)
            go_roundw
            case rel => exact ⟨i + 1, n1, f1, by go_num, by omega, by rw [← HNL.out]; omega, g.trans h5, HM1.out.gr h5, HS2.out, HA5.out⟩
            case measure => simp [intOf]; omega
    · have HR : Hid (linesB P = true) := by
        refine linesB_yes ?_ fun j hj => HA.out.2 j hj (by omega)
        have := HA.out.1
        rwa [List.take_of_length_le (by omega)] at this
      clear HA
      go_wp2
      go_ret
      exact ⟨ret_bool HR.out.symm, hwr⟩
end Go.Proofs.YtaanepadgoefhaaGreatDoor
namespace Go.Proofs.YtaanepadgoefhaaGreatDoor
open Go.ChangeShapes Go.WideShapes Go.ChangeAt Go.RowKit
set_option linter.unusedVariables false
set_option linter.unusedSimpArgs false
set_option maxRecDepth 100000 in
set_option maxHeartbeats 1000000 in
theorem long_any (v : Value) (P : Pln) (w : World) (hP : IsPln w v P) (ht : 0 ≤ P.top ∧ P.top ≤ 60) (hb : 1 ≤ P.brake ∧ P.brake ≤ 10) (hs : ∀ s ∈ P.ss, 0 ≤ s.at_.e ∧ s.at_.e < P.es.length) :
    Calls Tryz.prog 125 #[v] w fun e w' => e = .returned (.bool (longB P)) ∧ Gr w w' := by
  obtain ⟨a1, c1, a2, c2, a3, c3, a4, c4, rfl, h1, h2, h3, h4⟩ := hP
  have m1 := IsRow.len h1
  have m3 := IsRow.len h3
  unfold maxLen at m1 m3
  have H1 := Lib.hid h1
  have H3 := Lib.hid h3
  have HIN := Lib.hid hs
  have hbx := PBox.new w P (.slice a1 P.es.length c1) (.slice a2 P.js.length c2) (.slice a3 P.ss.length c3) (.slice a4 P.ls.length c4)
  have hg : Gr w (w.alloc (.cells #[.slice a1 P.es.length c1, .slice a2 P.js.length c2, .slice a3 P.ss.length c3, .slice a4 P.ls.length c4, .int .i64 P.top, .int .i64 P.brake, .int .i64 P.margin, .int .i64 P.throw, .bool P.hard] 27)) := (Gr.refl _).alloc _
  have hbd := stp_bd P.brake P.top hb.1 ht.2
  have HS := Lib.hid (fun w => planStop_any P.top P.brake ht hb w)
  have HL0 := Lib.hid (@longB_yes P)
  unfold plnV
  have HN0 : Hid (P.margin < P.top + stp P.brake P.top → longB P = false) := by
    intro h
    unfold longB; simp; omega
  generalize hst : stp P.brake P.top = st at *
  clear h1 h2 h3 h4 hst hs
  by_cases hM : P.margin < P.top + st
  · have HN := Lib.hid (HN0.out hM)
    clear HN0 HL0
    go_enter Tryz.func125, Tryz.ntmps125
    go_wp2_with fail
    have tw : IntKind.i64.wrap (P.top + st) = P.top + st := by rw [IntKind.wrap_i64]; omega
    go_quiet ((go_at_call 133; exact Calls.quiet_of_same (HS.out _)))
    go_wp2
    go_ret
    exact ⟨ret_bool HN.out.symm, hg.drewN _⟩
  have hM' : P.top + st ≤ P.margin := by omega
  clear HN0
  go_enter Tryz.func125, Tryz.ntmps125
  go_wp2_with fail
  have tw : IntKind.i64.wrap (P.top + st) = P.top + st := by rw [IntKind.wrap_i64]; omega
  go_quiet ((go_at_call 133; exact Calls.quiet_of_same (HS.out _)))
  clear tw HS
  have hbx' := hbx.drewN nq
  have hg' := hg.drewN nq
  clear hbx hg
  go_wp2_with fail
  go_loopw [22] (fun i wr => ∃ k : Nat, i = .int .i64 k ∧ k ≤ P.ss.length ∧ Gr w wr ∧ PBox wr w.heap.size P (.slice a1 P.es.length c1) (.slice a2 P.js.length c2) (.slice a3 P.ss.length c3) (.slice a4 P.ls.length c4) ∧ Hid (∀ j (hj : j < P.ss.length), j < k → kindP P P.ss[j].at_.e = 1 → P.margin ≤ lenP P P.ss[j].at_.e)) (fun i _ => P.ss.length - (intOf i).toNat)
  case atStart => exact ⟨0, rfl, Nat.zero_le _, hg', hbx', fun j hj h => by omega⟩
  case round =>
    obtain ⟨k, rfl, hk, g, hx, HA⟩ := hrel
    clear hbx' hg'
    have HB := Lib.hid hx
    obtain ⟨zb, b0, b1, b2, b3, b4, b5, b6, b7, b8⟩ := hx
    by_cases hlt : k < P.ss.length
    · obtain ⟨b, o, hsome, zs, y0, y1, y2, y3⟩ := (H3.out.gr g).at k hlt
      subst hsome
      have HSS := Lib.hid (@longB_ss P k hlt)
      have HA' : Hid ((kindP P P.ss[k].at_.e = 1 → P.margin ≤ lenP P P.ss[k].at_.e) → ∀ j (hj : j < P.ss.length), j < k + 1 → kindP P P.ss[j].at_.e = 1 → P.margin ≤ lenP P P.ss[j].at_.e) := by
        intro h j hj hjk
        by_cases e : j = k
        · subst e; exact h
        · exact HA.out j hj (by omega)
      have hk1 : (k : Int) < (P.ss.length : Int) := by omega
      have hin := HIN.out _ (List.getElem_mem hlt)
      obtain ⟨q, hq⟩ : ∃ q, q = P.ss[k] := ⟨_, rfl⟩
      rw [← hq] at y0 y1 y2 y3 HSS HA' hin
      clear hq HA
      obtain ⟨qn, ⟨qe, qx⟩, qa⟩ := q
      dsimp only at y0 y1 y2 y3 HSS HA' hin
      obtain ⟨m, rfl⟩ := Int.eq_ofNat_of_zero_le hin.1
      have hml : m < P.es.length := by omega
      have hml1 : (m : Int) < (P.es.length : Int) := by omega
      obtain ⟨be, oe, hsome, zse, x0, x1, x2⟩ := (H1.out.gr g).at m hml
      subst hsome
      rw [kindP_in P m hml, lenP_in P m hml] at HSS HA'
      clear hin
      obtain ⟨q, hq⟩ : ∃ q, q = P.es[m] := ⟨_, rfl⟩
      rw [← hq] at x0 x1 x2 HSS HA'
      clear hq
      obtain ⟨en, kk, ll⟩ := q
      dsimp only at x0 x1 x2 HSS HA'
      have zz1 : w.heap.size < wr.heap.size + 1 := by omega
      have zz2 : be < wr.heap.size + 1 := by omega
      by_cases hkk : kk = 1
      · have t1 := beqT hkk
        by_cases hll : ll < P.margin
        · have HN := Lib.hid (HSS.out hkk hll)
          clear hkk
          go_wp2
          go_ret
          exact ⟨ret_bool HN.out.symm, (g.alloc _).alloc _⟩
        · have HA2 := Lib.hid (HA'.out fun _ => by omega)
          clear hkk
          go_wp2
          go_roundw
          case rel => exact ⟨k + 1, by go_num, by omega, (g.alloc _).alloc _, HB.out.gr (((Gr.refl _).alloc _).alloc _), HA2.out⟩
          case measure => simp [intOf]; omega
      · have t1 := beqF hkk
        have HA2 := Lib.hid (HA'.out fun h => absurd h hkk)
        clear hkk
        go_wp2
        go_roundw
        case rel => exact ⟨k + 1, by go_num, by omega, (g.alloc _).alloc _, HB.out.gr (((Gr.refl _).alloc _).alloc _), HA2.out⟩
        case measure => simp [intOf]; omega
    · have HL1 : Hid ((∀ k (hk : k < P.es.length), P.es[k].k ≠ 4 → P.top ≤ P.es[k].l) → longB P = true) := fun h => HL0.out hM' (fun j hj => HA.out j hj (by omega)) h
      clear HA HL0
      go_wp2_with fail
      go_loopw [47] (fun i wy => ∃ k : Nat, i = .int .i64 k ∧ k ≤ P.es.length ∧ Gr w wy ∧ PBox wy w.heap.size P (.slice a1 P.es.length c1) (.slice a2 P.js.length c2) (.slice a3 P.ss.length c3) (.slice a4 P.ls.length c4) ∧ Hid (∀ j (hj : j < P.es.length), j < k → P.es[j].k ≠ 4 → P.top ≤ P.es[j].l)) (fun i _ => P.es.length - (intOf i).toNat)
      case atStart => exact ⟨0, rfl, Nat.zero_le _, g, HB.out, fun j hj h => by omega⟩
      case round =>
        clear HB b0 b1 b2 b3 b4 b5 b6 b7 b8 zb g hlt hk
        obtain ⟨k2, rfl, hk, g, hx, HA⟩ := hrel
        have HB := Lib.hid hx
        obtain ⟨zb, b0, b1, b2, b3, b4, b5, b6, b7, b8⟩ := hx
        by_cases hlt : k2 < P.es.length
        · obtain ⟨b, o, hsome, zs, y0, y1, y2⟩ := (H1.out.gr g).at k2 hlt
          subst hsome
          have HSS := Lib.hid (@longB_es P k2 hlt)
          have HA' : Hid ((P.es[k2].k ≠ 4 → P.top ≤ P.es[k2].l) → ∀ j (hj : j < P.es.length), j < k2 + 1 → P.es[j].k ≠ 4 → P.top ≤ P.es[j].l) := by
            intro h j hj hjk
            by_cases e : j = k2
            · subst e; exact h
            · exact HA.out j hj (by omega)
          have hk1 : (k2 : Int) < (P.es.length : Int) := by omega
          clear HA HL1
          generalize P.es[k2] = q at *
          obtain ⟨qn, qk, ql⟩ := q
          dsimp only at HA' HSS y0 y1 y2
          by_cases hkk : qk = 4
          · have t1 := bneF hkk
            have HA2 := Lib.hid (HA'.out fun h => absurd hkk h)
            clear hkk
            go_wp2
            go_roundw
            case rel => exact ⟨k2 + 1, by go_num, by omega, g.alloc _, HB.out.gr ((Gr.refl _).alloc _), HA2.out⟩
            case measure => simp [intOf]; omega
          · have t1 := bneT hkk
            by_cases hll : ql < P.top
            · have HN := Lib.hid (HSS.out hkk hll)
              clear hkk
              go_wp2
              go_ret
              exact ⟨ret_bool HN.out.symm, g.alloc _⟩
            · have HA2 := Lib.hid (HA'.out fun _ => by omega)
              clear hkk
              go_wp2
              go_roundw
              case rel => exact ⟨k2 + 1, by go_num, by omega, g.alloc _, HB.out.gr ((Gr.refl _).alloc _), HA2.out⟩
              case measure => simp [intOf]; omega
        · have HN := Lib.hid (HL1.out fun j hj => HA.out j hj (by omega))
          go_wp2
          go_ret
          exact ⟨ret_bool HN.out.symm, g⟩
end Go.Proofs.YtaanepadgoefhaaGreatDoor
namespace Go.Proofs.YtaanepadgoefhaaGreatDoor
open Go.ChangeShapes Go.WideShapes Go.ChangeAt Go.RowKit Go.Maps
set_option linter.unusedVariables false
set_option linter.unusedSimpArgs false
/-- the map and what it holds -/
def MapFn (l : List Jn) (w : World) (b n : Nat) (f : Value → Option Value) : Prop := MapIs Tryz.prog 68 w b n f ∧ FnL l f
theorem MapFn.gr {l : List Jn} {w w' : World} {b n : Nat} {f : Value → Option Value} (h : MapFn l w b n f) (g : Gr w w') : MapFn l w' b n f := ⟨h.1.gr g, h.2⟩
theorem sig_in {P : Pln} (h : signalsB P = true) : ∀ s ∈ P.ss, 0 ≤ s.at_.e ∧ s.at_.e < P.es.length := by
  intro s hs
  obtain ⟨k, hk, rfl⟩ := List.mem_iff_getElem.1 hs
  have hb : sigB P k = true := by
    cases hh : sigB P k with
    | true => rfl
    | false => rw [signalsB_no hk hh] at h; cases h
  rw [sigB_at P k hk] at hb
  simp only [Bool.and_eq_true] at hb
  have := hasP_bd hb.1.1.1
  exact ⟨this.1, this.2.1⟩
set_option maxRecDepth 100000 in
set_option maxHeartbeats 1000000 in
theorem check_any (v : Value) (P : Pln) (w : World) (hP : IsPln w v P) (hk : PlnOk P) (hl : (P.ls.flatMap (·.es)).length ≤ 1000000) :
    Calls Tryz.prog 89 #[v] w fun e w' => e = .returned (.int .i64 (chk P)) ∧ Gr w w' := by
  obtain ⟨a1, c1, a2, c2, a3, c3, a4, c4, rfl, h1, h2, h3, h4⟩ := hP
  have m1 := IsRow.len h1
  have m2 := IsRow.len h2
  have m3 := IsRow.len h3
  have m4 : P.ls.length ≤ maxLen := by obtain ⟨S, hS, -⟩ := h4; exact IsRow.len hS
  unfold maxLen at m1 m2 m3 m4
  have H1 := Lib.hid h1
  have H3 := Lib.hid h3
  have H4 := Lib.hid h4
  have HPv := Lib.hid (fun (w' : World) (g : Gr w w') => IsPln.mk (w' := w') h1 h2 h3 h4 g)
  have HB := Lib.hid (bxW_box w P (.slice a1 P.es.length c1) (.slice a2 P.js.length c2) (.slice a3 P.ss.length c3) (.slice a4 P.ls.length c4))
  have hw0 := bxW_gr w P (.slice a1 P.es.length c1) (.slice a2 P.js.length c2) (.slice a3 P.ss.length c3) (.slice a4 P.ls.length c4)
  obtain ⟨wb, hwb⟩ : ∃ wb, wb = bxW w P (.slice a1 P.es.length c1) (.slice a2 P.js.length c2) (.slice a3 P.ss.length c3) (.slice a4 P.ls.length c4) := ⟨_, rfl⟩
  rw [← hwb] at HB hw0
  unfold plnV
  have HWB := Lib.hid hwb
  have HKK := Lib.hid hk
  have HLL := Lib.hid hl
  clear h1 h2 h3 h4 hwb hk hl
  by_cases hlong : 40 < P.es.length ∨ 24 < P.ss.length ∨ 4 < P.ls.length ∨ 80 < P.js.length
  · have HC := Lib.hid (chk_long hlong)
    have hcs : (40 < (P.es.length : Int)) ∨ (¬ 40 < (P.es.length : Int) ∧ 24 < (P.ss.length : Int)) ∨ (¬ 40 < (P.es.length : Int) ∧ ¬ 24 < (P.ss.length : Int) ∧ 4 < (P.ls.length : Int)) ∨ (¬ 40 < (P.es.length : Int) ∧ ¬ 24 < (P.ss.length : Int) ∧ ¬ 4 < (P.ls.length : Int) ∧ 80 < (P.js.length : Int)) := by omega
    clear hlong
    rcases hcs with l1 | ⟨l1, l2⟩ | ⟨l1, l2, l3⟩ | ⟨l1, l2, l3, l4⟩
    all_goals
      go_enter Tryz.func89, Tryz.ntmps89
      go_wp2
      go_ret
      exact ⟨ret_int HC.out.symm, (Gr.refl _).alloc _⟩
  have HC := Lib.hid (chk_rest hlong)
  obtain ⟨l1, l2, l3, l4⟩ : ¬ 40 < (P.es.length : Int) ∧ ¬ 24 < (P.ss.length : Int) ∧ ¬ 4 < (P.ls.length : Int) ∧ ¬ 80 < (P.js.length : Int) := by omega
  have HL1 : Hid (P.es.length ≤ 40 ∧ P.ss.length ≤ 24 ∧ P.ls.length ≤ 4 ∧ P.js.length ≤ 80) := by unfold Hid; omega
  clear hlong
  have hmf : ∀ (fn : Fn) (first cap : Array Value) (w : World), (Instr.makeFunc fn first cap).run Tryz.prog w = .ok (.func fn first cap) w := fun _ _ _ _ => rfl
  go_enter Tryz.func89, Tryz.ntmps89
  go_wp2_with (fail)
  rw [show (w.alloc (.cells #[.slice a1 P.es.length c1, .slice a2 P.js.length c2, .slice a3 P.ss.length c3, .slice a4 P.ls.length c4, .int .i64 P.top, .int .i64 P.brake, .int .i64 P.margin, .int .i64 P.throw, .bool P.hard] 27)) = wb from HWB.out.symm]
  clear HWB l1 l2 l3 l4
  have HAR := Lib.hid (fun (v' : Value) (w' : World) (h : IsPln w' v' P) => numbers_any v' P w' h HKK.out)
  have HTA : Hid (∀ w', Gr wb w' → Calls Tryz.prog 118 #[.int .i64 P.es.length, .func (.func 119) #[] #[.pointer (some ⟨w.heap.size, 0, none⟩)]] w' fun e w'' => e = .returned (.bool (twiceB (P.es.map (·.n)))) ∧ Gr w' w'') := by
    intro w' h
    have := twice1_any (P.es.map (·.n)) w.heap.size w' (fun x hx => by obtain ⟨e, he, rfl⟩ := List.mem_map.1 hx; exact (HKK.out.es e he).2.2) (by have := HL1.out; simp; omega) (fun w'' h' i hi => by
      rw [List.getElem_map]
      exact name1_any w'' P w.heap.size a1 c1 _ _ _ _ (HB.out.gr (h.trans h')) rfl (H1.out.gr ((hw0.trans h).trans h')) (by have := HL1.out; omega) i (by simpa using hi))
    rwa [List.length_map] at this
  have HTB : Hid (∀ w', Gr wb w' → Calls Tryz.prog 118 #[.int .i64 P.ss.length, .func (.func 120) #[] #[.pointer (some ⟨w.heap.size, 0, none⟩)]] w' fun e w'' => e = .returned (.bool (twiceB (P.ss.map (·.n)))) ∧ Gr w' w'') := by
    intro w' h
    have := twice2_any (P.ss.map (·.n)) w.heap.size w' (fun x hx => by obtain ⟨e, he, rfl⟩ := List.mem_map.1 hx; exact (HKK.out.ss e he).2.2) (by have := HL1.out; simp; omega) (fun w'' h' i hi => by
      rw [List.getElem_map]
      exact name2_any w'' P w.heap.size a3 c3 _ _ _ _ (HB.out.gr (h.trans h')) rfl (H3.out.gr ((hw0.trans h).trans h')) (by have := HL1.out; omega) i (by simpa using hi))
    rwa [List.length_map] at this
  have HTC : Hid (∀ w', Gr wb w' → Calls Tryz.prog 118 #[.int .i64 P.ls.length, .func (.func 121) #[] #[.pointer (some ⟨w.heap.size, 0, none⟩)]] w' fun e w'' => e = .returned (.bool (twiceB (P.ls.map (·.n)))) ∧ Gr w' w'') := by
    intro w' h
    have := twice3_any (P.ls.map (·.n)) w.heap.size w' (fun x hx => by obtain ⟨e, he, rfl⟩ := List.mem_map.1 hx; exact (HKK.out.ls e he).1) (by have := HL1.out; simp; omega) (fun w'' h' i hi => by
      rw [List.getElem_map]
      exact name3_any w'' P w.heap.size a4 c4 _ _ _ _ (HB.out.gr (h.trans h')) rfl (H4.out.gr ((hw0.trans h).trans h')) (by have := HL1.out; omega) i (by simpa using hi))
    rwa [List.length_map] at this
  have HJO := Lib.hid (fun (v' : Value) (w' : World) (h : IsPln w' v' P) => joined_any v' P w' h HKK.out (by have := HL1.out; omega))
  have HSI : Hid (joinedB P = true → ∀ (v' : Value) (w' : World) (b n : Nat) (f : Value → Option Value) (h : IsPln w' v' P) (hm : MapFn P.js w' b n f), Calls Tryz.prog 123 #[v', .map (some b)] w' fun e w'' => e = .returned (.bool (signalsB P)) ∧ Gr w' w'') := fun hj v' w' b n f h hm => signals_any v' P w' b n f h HKK.out (by have := HL1.out; omega) hm.1 hm.2 (joined_ports hj)
  have HLN : Hid (joinedB P = true → ∀ (v' : Value) (w' : World) (b n : Nat) (f : Value → Option Value) (h : IsPln w' v' P) (hm : MapFn P.js w' b n f), Calls Tryz.prog 124 #[v', .map (some b)] w' fun e w'' => e = .returned (.bool (linesB P)) ∧ Gr w' w'') := fun hj v' w' b n f h hm => lines_anyP v' P w' b n f h HKK.out HLL.out (by have := HL1.out; omega) hm.1 hm.2 (joined_ports hj)
  have HLG : Hid (argsB P = true → signalsB P = true → ∀ (v' : Value) (w' : World) (h : IsPln w' v' P), Calls Tryz.prog 125 #[v'] w' fun e w'' => e = .returned (.bool (longB P)) ∧ Gr w' w'') := fun ha hs v' w' h => long_any v' P w' h (by have := args_nums ha; omega) (by have := args_nums ha; omega) (sig_in hs)
  generalize argsB P = ab at *
  generalize twiceB (P.es.map (·.n)) = ta at *
  generalize twiceB (P.ss.map (·.n)) = tb at *
  generalize twiceB (P.ls.map (·.n)) = tc at *
  generalize signalsB P = sb at *
  generalize linesB P = lb at *
  generalize longB P = gb at *
  have hz : Gr wb wb := Gr.refl _
  refine (HAR.out _ _ (HPv.out _ hw0)).mono ?_
  rintro e w5 ⟨rfl, h5⟩
  replace hz := hz.trans h5; obtain ⟨zb5, d05, d15, d25, d35, d45, d55, d65, d75, d85⟩ := HB.out.gr hz
  cases ab
  · go_wp2_with fail
    (go_ret; exact ⟨ret_int (by rw [HC.out]; rfl), hw0.trans hz⟩)
  cases ta
  case true => (go_wp2_with (first | (go_at_call 118; first | ((with_reducible refine (HTA.out _ hz).mono ?_); rintro e w21 ⟨rfl, h21⟩; replace hz := hz.trans h21; obtain ⟨zb21, d021, d121, d221, d321, d421, d521, d621, d721, d821⟩ := HB.out.gr hz) | ((with_reducible refine (HTB.out _ hz).mono ?_); rintro e w22 ⟨rfl, h22⟩; replace hz := hz.trans h22; obtain ⟨zb22, d022, d122, d222, d322, d422, d522, d622, d722, d822⟩ := HB.out.gr hz) | ((with_reducible refine (HTC.out _ hz).mono ?_); rintro e w23 ⟨rfl, h23⟩; replace hz := hz.trans h23; obtain ⟨zb23, d023, d123, d223, d323, d423, d523, d623, d723, d823⟩ := HB.out.gr hz)) | fail)); (go_ret; exact ⟨ret_int (by rw [HC.out]; rfl), hw0.trans hz⟩)
  cases tb
  case true => (go_wp2_with (first | (go_at_call 118; first | ((with_reducible refine (HTA.out _ hz).mono ?_); rintro e w21 ⟨rfl, h21⟩; replace hz := hz.trans h21; obtain ⟨zb21, d021, d121, d221, d321, d421, d521, d621, d721, d821⟩ := HB.out.gr hz) | ((with_reducible refine (HTB.out _ hz).mono ?_); rintro e w22 ⟨rfl, h22⟩; replace hz := hz.trans h22; obtain ⟨zb22, d022, d122, d222, d322, d422, d522, d622, d722, d822⟩ := HB.out.gr hz) | ((with_reducible refine (HTC.out _ hz).mono ?_); rintro e w23 ⟨rfl, h23⟩; replace hz := hz.trans h23; obtain ⟨zb23, d023, d123, d223, d323, d423, d523, d623, d723, d823⟩ := HB.out.gr hz)) | fail)); (go_ret; exact ⟨ret_int (by rw [HC.out]; rfl), hw0.trans hz⟩)
  cases tc
  case true => (go_wp2_with (first | (go_at_call 118; first | ((with_reducible refine (HTA.out _ hz).mono ?_); rintro e w21 ⟨rfl, h21⟩; replace hz := hz.trans h21; obtain ⟨zb21, d021, d121, d221, d321, d421, d521, d621, d721, d821⟩ := HB.out.gr hz) | ((with_reducible refine (HTB.out _ hz).mono ?_); rintro e w22 ⟨rfl, h22⟩; replace hz := hz.trans h22; obtain ⟨zb22, d022, d122, d222, d322, d422, d522, d622, d722, d822⟩ := HB.out.gr hz) | ((with_reducible refine (HTC.out _ hz).mono ?_); rintro e w23 ⟨rfl, h23⟩; replace hz := hz.trans h23; obtain ⟨zb23, d023, d123, d223, d323, d423, d523, d623, d723, d823⟩ := HB.out.gr hz)) | fail)); (go_ret; exact ⟨ret_int (by rw [HC.out]; rfl), hw0.trans hz⟩)
  go_wp2_with (first | (go_at_call 118; first | ((with_reducible refine (HTA.out _ hz).mono ?_); rintro e w21 ⟨rfl, h21⟩; replace hz := hz.trans h21; obtain ⟨zb21, d021, d121, d221, d321, d421, d521, d621, d721, d821⟩ := HB.out.gr hz) | ((with_reducible refine (HTB.out _ hz).mono ?_); rintro e w22 ⟨rfl, h22⟩; replace hz := hz.trans h22; obtain ⟨zb22, d022, d122, d222, d322, d422, d522, d622, d722, d822⟩ := HB.out.gr hz) | ((with_reducible refine (HTC.out _ hz).mono ?_); rintro e w23 ⟨rfl, h23⟩; replace hz := hz.trans h23; obtain ⟨zb23, d023, d123, d223, d323, d423, d523, d623, d723, d823⟩ := HB.out.gr hz)) | fail)
  refine (HJO.out _ _ (HPv.out _ (hw0.trans hz))).mono ?_
  rintro e w12 ⟨m, rfl, h12, hmap⟩
  replace hz := hz.trans h12; obtain ⟨zb12, d012, d112, d212, d312, d412, d512, d612, d712, d812⟩ := HB.out.gr hz
  generalize hjb : joinedB P = jb at *
  cases jb
  · clear hmap hjb
    go_wp2_with fail
    (go_ret; exact ⟨ret_int (by rw [HC.out]; rfl), hw0.trans hz⟩)
  obtain ⟨b, n, f, rfl, -, hm, hf⟩ := hmap rfl
  have HMF : Hid (MapFn P.js w12 b n f) := ⟨hm, hf⟩
  have HSI2 := Lib.hid (HSI.out (by trivial))
  have HLN2 := Lib.hid (HLN.out (by trivial))
  have HLG2 := Lib.hid (HLG.out (by trivial))
  clear hmap hjb hm hf
  cases sb
  · go_wp2_with (first | (go_at_call 123; (with_reducible refine (HSI2.out _ _ _ _ _ (HPv.out _ (hw0.trans hz)) HMF.out).mono ?_); rintro e w13 ⟨rfl, h13⟩; have HMF := Lib.hid (HMF.out.gr h13); replace hz := hz.trans h13; obtain ⟨zb13, d013, d113, d213, d313, d413, d513, d613, d713, d813⟩ := HB.out.gr hz) | fail)
    (go_ret; exact ⟨ret_int (by rw [HC.out]; rfl), hw0.trans hz⟩)
  have HLG3 := Lib.hid (HLG2.out (by trivial))
  go_wp2_with (first | (go_at_call 123; (with_reducible refine (HSI2.out _ _ _ _ _ (HPv.out _ (hw0.trans hz)) HMF.out).mono ?_); rintro e w13 ⟨rfl, h13⟩; have HMF := Lib.hid (HMF.out.gr h13); replace hz := hz.trans h13; obtain ⟨zb13, d013, d113, d213, d313, d413, d513, d613, d713, d813⟩ := HB.out.gr hz) | fail)
  cases lb
  · go_wp2_with (first | (go_at_call 124; (with_reducible refine (HLN2.out _ _ _ _ _ (HPv.out _ (hw0.trans hz)) HMF.out).mono ?_); rintro e w14 ⟨rfl, h14⟩; have HMF := Lib.hid (HMF.out.gr h14); replace hz := hz.trans h14; obtain ⟨zb14, d014, d114, d214, d314, d414, d514, d614, d714, d814⟩ := HB.out.gr hz) | fail)
    (go_ret; exact ⟨ret_int (by rw [HC.out]; rfl), hw0.trans hz⟩)
  go_wp2_with (first | (go_at_call 124; (with_reducible refine (HLN2.out _ _ _ _ _ (HPv.out _ (hw0.trans hz)) HMF.out).mono ?_); rintro e w14 ⟨rfl, h14⟩; have HMF := Lib.hid (HMF.out.gr h14); replace hz := hz.trans h14; obtain ⟨zb14, d014, d114, d214, d314, d414, d514, d614, d714, d814⟩ := HB.out.gr hz) | fail)
  cases gb
  · go_wp2_with (first | (go_at_call 125; (with_reducible refine (HLG3.out _ _ (HPv.out _ (hw0.trans hz))).mono ?_); rintro e w15 ⟨rfl, h15⟩; replace hz := hz.trans h15; obtain ⟨zb15, d015, d115, d215, d315, d415, d515, d615, d715, d815⟩ := HB.out.gr hz) | fail)
    (go_ret; exact ⟨ret_int (by rw [HC.out]; rfl), hw0.trans hz⟩)
  go_wp2_with (first | (go_at_call 125; (with_reducible refine (HLG3.out _ _ (HPv.out _ (hw0.trans hz))).mono ?_); rintro e w15 ⟨rfl, h15⟩; replace hz := hz.trans h15; obtain ⟨zb15, d015, d115, d215, d315, d415, d515, d615, d715, d815⟩ := HB.out.gr hz) | fail)
  (go_ret; exact ⟨ret_int (by rw [HC.out]; rfl), hw0.trans hz⟩)
end Go.Proofs.YtaanepadgoefhaaGreatDoor
namespace Go.Proofs.YtaanepadgoefhaaGreatDoor
open Go.ChangeShapes Go.WideShapes Go.ChangeAt Go.RowKit
set_option linter.unusedVariables false
set_option linter.unusedSimpArgs false
/-- the cells of a row, one behind the other -/
def rowL (sz n : Nat) (C : Nat → Nat → Value) : List Value := (List.range (n * sz)).map fun k => C (k / sz) (k % sz)
theorem rowL_len (sz n : Nat) (C : Nat → Nat → Value) : (rowL sz n C).length = n * sz := by unfold rowL; simp
theorem rowL_get {sz n : Nat} {C : Nat → Nat → Value} {i j : Nat} (hi : i < n) (hj : j < sz) : (rowL sz n C)[i * sz + j]? = some (C i j) := by
  unfold rowL
  have h : i * sz + j < n * sz := by
    have : (i + 1) * sz ≤ n * sz := Nat.mul_le_mul_right sz hi
    rw [Nat.succ_mul] at this
    omega
  have h0 : 0 < sz := by omega
  rw [List.getElem?_map, List.getElem?_range h]
  have e1 : (i * sz + j) / sz = i := by rw [Nat.mul_comm, Nat.mul_add_div h0, Nat.div_eq_of_lt hj, Nat.add_zero]
  have e2 : (i * sz + j) % sz = j := by rw [Nat.mul_comm, Nat.mul_add_mod, Nat.mod_eq_of_lt hj]
  simp [e1, e2]
/-- the value of a clone -/
theorem own_row {w : World} {B : Nat} {e : TypeId} {sz n : Nat} {v : Value} {C : Nat → Nat → Value} (h : w.ownsRow B e sz v n (rowL sz n C)) (hl : n ≤ maxLen) : IsRow w v sz n C :=
  row_of_own h hl fun i j hi hj => rowL_get hi hj
theorem rowL_at {w : World} {sz n : Nat} {C : Nat → Nat → Value} {a : Addr} {c : Nat} (hs : 0 < sz) (h : IsRow w (.slice (some a) n c) sz n C) : ∀ j u, (rowL sz n C)[j]? = some u → w.cell? (a.add j) = some u := by
  intro j u hu
  obtain ⟨a', c', e, _, hx⟩ := h
  simp only [Value.slice.injEq] at e
  obtain ⟨rfl, -, -⟩ := e
  have hj : j < n * sz := by
    have := (List.getElem?_eq_some_iff.1 hu).1
    rwa [rowL_len] at this
  rcases hx with h0 | ⟨b, o, hb, hlt, hc⟩
  · subst h0; omega
  · cases hb
    have hi : j / sz < n := (Nat.div_lt_iff_lt_mul hs).2 hj
    have hm : j % sz < sz := Nat.mod_lt _ hs
    have := hc (j / sz) (j % sz) hi hm
    have e : o + j / sz * sz + j % sz = o + j := by have := Nat.div_add_mod j sz; rw [Nat.mul_comm] at this; omega
    rw [e] at this
    rw [Go.WideShapes.add_plain, this]
    have h2 := rowL_get (C := C) hi hm
    rw [show j / sz * sz + j % sz = j from by have := Nat.div_add_mod j sz; rw [Nat.mul_comm] at this; exact this, hu] at h2
    exact h2.symm
theorem rowL_one {sz n : Nat} {C : Nat → Nat → Value} (hC : ∀ i j, (C i j).oneCell' = true) : ∀ u ∈ rowL sz n C, u.oneCell' = true := by
  intro u hu
  unfold rowL at hu
  obtain ⟨k, _, rfl⟩ := List.mem_map.1 hu
  exact hC _ _
/-- what Clone returns -/
def RetC (w : World) (e : TypeId) (sz n : Nat) (C : Nat → Nat → Value) (en : Ending) (w' : World) : Prop := ∃ v, en = .returned v ∧ Gr w w' ∧ w'.ownsRow w.heap.size e sz v n (rowL sz n C)
theorem RetC.nil {w : World} {e : TypeId} {sz : Nat} {C : Nat → Nat → Value} : RetC w e sz 0 C (.returned (.slice none 0 0)) w :=
  ⟨_, rfl, Gr.refl _, by rw [rowL_len], .inl ⟨rfl, rfl⟩⟩
theorem Tryz.infoCElem : (Tryz.prog.info? 103).map (fun i => (i.zero, i.size, i.bytes)) = some (some (.agg #[.string ByteArray.empty, .int .i64 0, .int .i64 0]), 3, 32) := by kernel_rfl
set_option maxHeartbeats 400000 in
theorem cloneElem_any (v : Value) (n : Nat) (C : Nat → Nat → Value) (w : World) (hv : IsRow w v 3 n C) (hC : ∀ i j, (C i j).oneCell' = true) (hn : n ≤ 1000000) :
    Calls Tryz.prog 126 #[v] w (RetC w 103 3 n C) := by
  obtain ⟨i0, hi, hz0, hz1, hz2⟩ := info_parts Tryz.infoCElem
  have HV := Lib.hid hv
  obtain ⟨a, c, rfl, hm, hx⟩ := hv
  have E := fun w a n c => Lib.run_eql_slice_nil (P := Tryz.prog) w 22 103 a n c 0 0 Tryz.underlying22
  cases a with
  | none =>
    have hn0 : n = 0 := by
      rcases hx with h | ⟨b, o, h, _⟩
      · exact h
      · cases h
    subst hn0
    clear hx hm hn
    go_enter Tryz.func126, Tryz.ntmps126
    go_wp2
    go_ret
    exact RetC.nil
  | some ad =>
    have HA := Lib.hid (fun w' (g : Gr w w') => rowL_at (by omega) (HV.out.gr g))
    have H1 := Lib.hid (rowL_one (sz := 3) (n := n) hC)
    have hown : (w.alloc (.cells #[] 103)).ownsRow w.heap.size 103 3 (.slice (some ⟨w.heap.size, 0, none⟩) 0 0) 0 [] :=
      ⟨rfl, .inr ⟨w.heap.size, 0, #[], rfl, Nat.le_refl _, heap_alloc_new w _, Nat.le_refl _, Nat.zero_le _, rfl, rfl⟩⟩
    have HO := Lib.hid hown
    clear hx hown
    go_enter Tryz.func126, Tryz.ntmps126
    go_wp2_with (first | (at_builtin; refine wpList_append_own _ rfl _ _ 22 rfl w.heap.size 103 i0 (.agg #[.string ByteArray.empty, .int .i64 0, .int .i64 0]) 3 32 Tryz.underlying22 hi hz0 hz1 hz2 rfl (by decide) _ _ _ rfl HO.out ad n c (rowL 3 n C) rfl (rowL_len _ _ _) ?c1 ?c2 ?c3 ?c4 ?c5 ?_))
    case c1 => exact HA.out _ ((Gr.refl w).alloc _)
    case c2 => exact H1.out
    case c3 => unfold maxLen; omega
    case c4 => omega
    case c5 => simp
    intro v' w1 hown' hgrow _
    have hg1 : Gr w w1 := Gr.grown ((Gr.refl w).alloc _) hgrow HO.out
    go_wp2
    go_ret
    refine ⟨v', rfl, hg1, ?_⟩
    simpa using hown'
theorem Tryz.infoCJoin : (Tryz.prog.info? 110).map (fun i => (i.zero, i.size, i.bytes)) = some (some (.agg #[.int .i64 0, .int .i64 0, .int .i64 0, .int .i64 0]), 4, 32) := by kernel_rfl
set_option maxHeartbeats 400000 in
theorem cloneJoin_any (v : Value) (n : Nat) (C : Nat → Nat → Value) (w : World) (hv : IsRow w v 4 n C) (hC : ∀ i j, (C i j).oneCell' = true) (hn : n ≤ 1000000) :
    Calls Tryz.prog 127 #[v] w (RetC w 110 4 n C) := by
  obtain ⟨i0, hi, hz0, hz1, hz2⟩ := info_parts Tryz.infoCJoin
  have HV := Lib.hid hv
  obtain ⟨a, c, rfl, hm, hx⟩ := hv
  have E := fun w a n c => Lib.run_eql_slice_nil (P := Tryz.prog) w 23 110 a n c 0 0 Tryz.underlying23
  cases a with
  | none =>
    have hn0 : n = 0 := by
      rcases hx with h | ⟨b, o, h, _⟩
      · exact h
      · cases h
    subst hn0
    clear hx hm hn
    go_enter Tryz.func127, Tryz.ntmps127
    go_wp2
    go_ret
    exact RetC.nil
  | some ad =>
    have HA := Lib.hid (fun w' (g : Gr w w') => rowL_at (by omega) (HV.out.gr g))
    have H1 := Lib.hid (rowL_one (sz := 4) (n := n) hC)
    have hown : (w.alloc (.cells #[] 110)).ownsRow w.heap.size 110 4 (.slice (some ⟨w.heap.size, 0, none⟩) 0 0) 0 [] :=
      ⟨rfl, .inr ⟨w.heap.size, 0, #[], rfl, Nat.le_refl _, heap_alloc_new w _, Nat.le_refl _, Nat.zero_le _, rfl, rfl⟩⟩
    have HO := Lib.hid hown
    clear hx hown
    go_enter Tryz.func127, Tryz.ntmps127
    go_wp2_with (first | (at_builtin; refine wpList_append_own _ rfl _ _ 23 rfl w.heap.size 110 i0 (.agg #[.int .i64 0, .int .i64 0, .int .i64 0, .int .i64 0]) 4 32 Tryz.underlying23 hi hz0 hz1 hz2 rfl (by decide) _ _ _ rfl HO.out ad n c (rowL 4 n C) rfl (rowL_len _ _ _) ?c1 ?c2 ?c3 ?c4 ?c5 ?_))
    case c1 => exact HA.out _ ((Gr.refl w).alloc _)
    case c2 => exact H1.out
    case c3 => unfold maxLen; omega
    case c4 => omega
    case c5 => simp
    intro v' w1 hown' hgrow _
    have hg1 : Gr w w1 := Gr.grown ((Gr.refl w).alloc _) hgrow HO.out
    go_wp2
    go_ret
    refine ⟨v', rfl, hg1, ?_⟩
    simpa using hown'
theorem Tryz.infoCSignal : (Tryz.prog.info? 105).map (fun i => (i.zero, i.size, i.bytes)) = some (some (.agg #[.string ByteArray.empty, .int .i64 0, .int .i64 0, .bool false]), 4, 40) := by kernel_rfl
set_option maxHeartbeats 400000 in
theorem cloneSignal_any (v : Value) (n : Nat) (C : Nat → Nat → Value) (w : World) (hv : IsRow w v 4 n C) (hC : ∀ i j, (C i j).oneCell' = true) (hn : n ≤ 1000000) :
    Calls Tryz.prog 128 #[v] w (RetC w 105 4 n C) := by
  obtain ⟨i0, hi, hz0, hz1, hz2⟩ := info_parts Tryz.infoCSignal
  have HV := Lib.hid hv
  obtain ⟨a, c, rfl, hm, hx⟩ := hv
  have E := fun w a n c => Lib.run_eql_slice_nil (P := Tryz.prog) w 24 105 a n c 0 0 Tryz.underlying24
  cases a with
  | none =>
    have hn0 : n = 0 := by
      rcases hx with h | ⟨b, o, h, _⟩
      · exact h
      · cases h
    subst hn0
    clear hx hm hn
    go_enter Tryz.func128, Tryz.ntmps128
    go_wp2
    go_ret
    exact RetC.nil
  | some ad =>
    have HA := Lib.hid (fun w' (g : Gr w w') => rowL_at (by omega) (HV.out.gr g))
    have H1 := Lib.hid (rowL_one (sz := 4) (n := n) hC)
    have hown : (w.alloc (.cells #[] 105)).ownsRow w.heap.size 105 4 (.slice (some ⟨w.heap.size, 0, none⟩) 0 0) 0 [] :=
      ⟨rfl, .inr ⟨w.heap.size, 0, #[], rfl, Nat.le_refl _, heap_alloc_new w _, Nat.le_refl _, Nat.zero_le _, rfl, rfl⟩⟩
    have HO := Lib.hid hown
    clear hx hown
    go_enter Tryz.func128, Tryz.ntmps128
    go_wp2_with (first | (at_builtin; refine wpList_append_own _ rfl _ _ 24 rfl w.heap.size 105 i0 (.agg #[.string ByteArray.empty, .int .i64 0, .int .i64 0, .bool false]) 4 40 Tryz.underlying24 hi hz0 hz1 hz2 rfl (by decide) _ _ _ rfl HO.out ad n c (rowL 4 n C) rfl (rowL_len _ _ _) ?c1 ?c2 ?c3 ?c4 ?c5 ?_))
    case c1 => exact HA.out _ ((Gr.refl w).alloc _)
    case c2 => exact H1.out
    case c3 => unfold maxLen; omega
    case c4 => omega
    case c5 => simp
    intro v' w1 hown' hgrow _
    have hg1 : Gr w w1 := Gr.grown ((Gr.refl w).alloc _) hgrow HO.out
    go_wp2
    go_ret
    refine ⟨v', rfl, hg1, ?_⟩
    simpa using hown'
theorem Tryz.infoCLine : (Tryz.prog.info? 101).map (fun i => (i.zero, i.size, i.bytes)) = some (some (.agg #[.string ByteArray.empty, .slice none 0 0]), 2, 40) := by kernel_rfl
set_option maxHeartbeats 400000 in
theorem cloneLine_any (v : Value) (n : Nat) (C : Nat → Nat → Value) (w : World) (hv : IsRow w v 2 n C) (hC : ∀ i j, (C i j).oneCell' = true) (hn : n ≤ 1000000) :
    Calls Tryz.prog 129 #[v] w (RetC w 101 2 n C) := by
  obtain ⟨i0, hi, hz0, hz1, hz2⟩ := info_parts Tryz.infoCLine
  have HV := Lib.hid hv
  obtain ⟨a, c, rfl, hm, hx⟩ := hv
  have E := fun w a n c => Lib.run_eql_slice_nil (P := Tryz.prog) w 25 101 a n c 0 0 Tryz.underlying25
  cases a with
  | none =>
    have hn0 : n = 0 := by
      rcases hx with h | ⟨b, o, h, _⟩
      · exact h
      · cases h
    subst hn0
    clear hx hm hn
    go_enter Tryz.func129, Tryz.ntmps129
    go_wp2
    go_ret
    exact RetC.nil
  | some ad =>
    have HA := Lib.hid (fun w' (g : Gr w w') => rowL_at (by omega) (HV.out.gr g))
    have H1 := Lib.hid (rowL_one (sz := 2) (n := n) hC)
    have hown : (w.alloc (.cells #[] 101)).ownsRow w.heap.size 101 2 (.slice (some ⟨w.heap.size, 0, none⟩) 0 0) 0 [] :=
      ⟨rfl, .inr ⟨w.heap.size, 0, #[], rfl, Nat.le_refl _, heap_alloc_new w _, Nat.le_refl _, Nat.zero_le _, rfl, rfl⟩⟩
    have HO := Lib.hid hown
    clear hx hown
    go_enter Tryz.func129, Tryz.ntmps129
    go_wp2_with (first | (at_builtin; refine wpList_append_own _ rfl _ _ 25 rfl w.heap.size 101 i0 (.agg #[.string ByteArray.empty, .slice none 0 0]) 2 40 Tryz.underlying25 hi hz0 hz1 hz2 rfl (by decide) _ _ _ rfl HO.out ad n c (rowL 2 n C) rfl (rowL_len _ _ _) ?c1 ?c2 ?c3 ?c4 ?c5 ?_))
    case c1 => exact HA.out _ ((Gr.refl w).alloc _)
    case c2 => exact H1.out
    case c3 => unfold maxLen; omega
    case c4 => omega
    case c5 => simp
    intro v' w1 hown' hgrow _
    have hg1 : Gr w w1 := Gr.grown ((Gr.refl w).alloc _) hgrow HO.out
    go_wp2
    go_ret
    refine ⟨v', rfl, hg1, ?_⟩
    simpa using hown'
theorem Tryz.infoCInt : (Tryz.prog.info? 3).map (fun i => (i.zero, i.size, i.bytes)) = some (some (.int .i64 0), 1, 8) := by kernel_rfl
set_option maxHeartbeats 400000 in
theorem cloneInt_any (v : Value) (n : Nat) (C : Nat → Nat → Value) (w : World) (hv : IsRow w v 1 n C) (hC : ∀ i j, (C i j).oneCell' = true) (hn : n ≤ 1000000) :
    Calls Tryz.prog 130 #[v] w (RetC w 3 1 n C) := by
  obtain ⟨i0, hi, hz0, hz1, hz2⟩ := info_parts Tryz.infoCInt
  have HV := Lib.hid hv
  obtain ⟨a, c, rfl, hm, hx⟩ := hv
  have E := fun w a n c => Lib.run_eql_slice_nil (P := Tryz.prog) w 28 3 a n c 0 0 Tryz.underlying28
  cases a with
  | none =>
    have hn0 : n = 0 := by
      rcases hx with h | ⟨b, o, h, _⟩
      · exact h
      · cases h
    subst hn0
    clear hx hm hn
    go_enter Tryz.func130, Tryz.ntmps130
    go_wp2
    go_ret
    exact RetC.nil
  | some ad =>
    have HA := Lib.hid (fun w' (g : Gr w w') => rowL_at (by omega) (HV.out.gr g))
    have H1 := Lib.hid (rowL_one (sz := 1) (n := n) hC)
    have hown : (w.alloc (.cells #[] 3)).ownsRow w.heap.size 3 1 (.slice (some ⟨w.heap.size, 0, none⟩) 0 0) 0 [] :=
      ⟨rfl, .inr ⟨w.heap.size, 0, #[], rfl, Nat.le_refl _, heap_alloc_new w _, Nat.le_refl _, Nat.zero_le _, rfl, rfl⟩⟩
    have HO := Lib.hid hown
    clear hx hown
    go_enter Tryz.func130, Tryz.ntmps130
    go_wp2_with (first | (at_builtin; refine wpList_append_own _ rfl _ _ 28 rfl w.heap.size 3 i0 (.int .i64 0) 1 8 Tryz.underlying28 hi hz0 hz1 hz2 rfl (by decide) _ _ _ rfl HO.out ad n c (rowL 1 n C) rfl (rowL_len _ _ _) ?c1 ?c2 ?c3 ?c4 ?c5 ?_))
    case c1 => exact HA.out _ ((Gr.refl w).alloc _)
    case c2 => exact H1.out
    case c3 => unfold maxLen; omega
    case c4 => omega
    case c5 => simp
    intro v' w1 hown' hgrow _
    have hg1 : Gr w w1 := Gr.grown ((Gr.refl w).alloc _) hgrow HO.out
    go_wp2
    go_ret
    refine ⟨v', rfl, hg1, ?_⟩
    simpa using hown'
end Go.Proofs.YtaanepadgoefhaaGreatDoor
namespace Go.Proofs.YtaanepadgoefhaaGreatDoor
open Go.ChangeShapes Go.WideShapes Go.ChangeAt Go.RowKit
set_option linter.unusedVariables false
set_option linter.unusedSimpArgs false
def fewL (l : Ln) : Bool := decide (l.es.length ≤ 60) && decide (l.n.size ≤ 100)
/-- is a plan looked at -/
def fewB (P : Pln) : Bool := (decide (P.es.length ≤ 60) && decide (P.js.length ≤ 120) && decide (P.ss.length ≤ 60) && decide (P.ls.length ≤ 20)) && P.ls.all fewL && P.es.all (fun e => decide (e.n.size ≤ 100)) && P.ss.all (fun s => decide (s.n.size ≤ 100))
theorem fewB_num {P : Pln} (h : 60 < P.es.length ∨ 120 < P.js.length ∨ 60 < P.ss.length ∨ 20 < P.ls.length) : fewB P = false := by
  unfold fewB
  have : (decide (P.es.length ≤ 60) && decide (P.js.length ≤ 120) && decide (P.ss.length ≤ 60) && decide (P.ls.length ≤ 20)) = false := by
    simp; omega
  rw [this]; rfl
theorem fewB_ls {P : Pln} {k : Nat} (hk : k < P.ls.length) (h : fewL P.ls[k] = false) : fewB P = false := by unfold fewB; rw [all_false_of _ _ k hk h]; simp
theorem fewB_es {P : Pln} {k : Nat} (hk : k < P.es.length) (h : 100 < P.es[k].n.size) : fewB P = false := by
  unfold fewB; rw [all_false_of P.es (fun e => decide (e.n.size ≤ 100)) k hk (by simpa using h)]; simp
theorem fewB_ss {P : Pln} {k : Nat} (hk : k < P.ss.length) (h : 100 < P.ss[k].n.size) : fewB P = false := by
  unfold fewB; rw [all_false_of P.ss (fun e => decide (e.n.size ≤ 100)) k hk (by simpa using h)]; simp
theorem fewB_yes {P : Pln} (h0 : P.es.length ≤ 60 ∧ P.js.length ≤ 120 ∧ P.ss.length ≤ 60 ∧ P.ls.length ≤ 20) (h1 : ∀ k (hk : k < P.ls.length), fewL P.ls[k] = true) (h2 : ∀ k (hk : k < P.es.length), P.es[k].n.size ≤ 100) (h3 : ∀ k (hk : k < P.ss.length), P.ss[k].n.size ≤ 100) : fewB P = true := by
  unfold fewB
  rw [all_true_of _ _ h1, all_true_of P.es (fun e => decide (e.n.size ≤ 100)) (fun k hk => by simpa using h2 k hk), all_true_of P.ss (fun e => decide (e.n.size ≤ 100)) (fun k hk => by simpa using h3 k hk)]
  simp [h0]
theorem few_bd {P : Pln} (h : fewB P = true) : P.es.length ≤ 60 ∧ P.js.length ≤ 120 ∧ P.ss.length ≤ 60 ∧ P.ls.length ≤ 20 ∧ (∀ l ∈ P.ls, l.es.length ≤ 60 ∧ l.n.size ≤ 100) ∧ (∀ e ∈ P.es, e.n.size ≤ 100) ∧ (∀ s ∈ P.ss, s.n.size ≤ 100) := by
  unfold fewB at h
  simp only [Bool.and_eq_true, decide_eq_true_eq, List.all_eq_true] at h
  refine ⟨h.1.1.1.1.1.1, h.1.1.1.1.1.2, h.1.1.1.1.2, h.1.1.1.2, fun l hl => ?_, h.1.2, h.2⟩
  have := h.1.1.2 l hl
  unfold fewL at this
  simpa using this
theorem flat_len_le : ∀ (l : List Ln) (n : Nat), (∀ x ∈ l, x.es.length ≤ n) → (l.flatMap (·.es)).length ≤ l.length * n
  | [], _, _ => by simp
  | x :: t, n, h => by
    have h1 := h x (by simp)
    have h2 := flat_len_le t n fun y hy => h y (by simp [hy])
    rw [List.flatMap_cons, List.length_append, List.length_cons, Nat.succ_mul]
    omega
theorem few_flat {P : Pln} (h : fewB P = true) : (P.ls.flatMap (·.es)).length ≤ 1200 := by
  obtain ⟨-, -, -, h4, h5, -, -⟩ := few_bd h
  have := flat_len_le P.ls 60 fun x hx => (h5 x hx).1
  have h6 : P.ls.length * 60 ≤ 20 * 60 := Nat.mul_le_mul_right 60 h4
  omega

set_option maxRecDepth 100000 in
set_option maxHeartbeats 1000000 in
theorem few_any (v : Value) (P : Pln) (w : World) (hP : IsPln w v P) :
    Calls Tryz.prog 29 #[v] w fun e w' => e = .returned (.bool (fewB P)) ∧ Gr w w' := by
  obtain ⟨a1, c1, a2, c2, a3, c3, a4, c4, rfl, h1, h2, h3, h4⟩ := hP
  have m1 := IsRow.len h1
  have m2 := IsRow.len h2
  have m3 := IsRow.len h3
  have m4 : P.ls.length ≤ maxLen := by obtain ⟨S, hS, -⟩ := h4; exact IsRow.len hS
  unfold maxLen at m1 m2 m3 m4
  have H1 := Lib.hid h1
  have H3 := Lib.hid h3
  have H4 := Lib.hid h4
  have HB := Lib.hid (bxW_box w P (.slice a1 P.es.length c1) (.slice a2 P.js.length c2) (.slice a3 P.ss.length c3) (.slice a4 P.ls.length c4))
  have hw0 := bxW_gr w P (.slice a1 P.es.length c1) (.slice a2 P.js.length c2) (.slice a3 P.ss.length c3) (.slice a4 P.ls.length c4)
  obtain ⟨wb, hwb⟩ : ∃ wb, wb = bxW w P (.slice a1 P.es.length c1) (.slice a2 P.js.length c2) (.slice a3 P.ss.length c3) (.slice a4 P.ls.length c4) := ⟨_, rfl⟩
  rw [← hwb] at HB hw0
  unfold plnV
  have HWB := Lib.hid hwb
  have HYES := Lib.hid (@fewB_yes P)
  clear h1 h2 h3 h4 hwb
  by_cases hlong : 60 < P.es.length ∨ 120 < P.js.length ∨ 60 < P.ss.length ∨ 20 < P.ls.length
  · have HC := Lib.hid (fewB_num hlong)
    have hcs : (60 < (P.es.length : Int)) ∨ (¬ 60 < (P.es.length : Int) ∧ 120 < (P.js.length : Int)) ∨ (¬ 60 < (P.es.length : Int) ∧ ¬ 120 < (P.js.length : Int) ∧ 60 < (P.ss.length : Int)) ∨ (¬ 60 < (P.es.length : Int) ∧ ¬ 120 < (P.js.length : Int) ∧ ¬ 60 < (P.ss.length : Int) ∧ 20 < (P.ls.length : Int)) := by omega
    clear hlong
    rcases hcs with l1 | ⟨l1, l2⟩ | ⟨l1, l2, l3⟩ | ⟨l1, l2, l3, l4⟩
    all_goals
      go_enter Tryz.func29, Tryz.ntmps29
      go_wp2
      go_ret
      exact ⟨ret_bool HC.out.symm, (Gr.refl _).alloc _⟩
  have HL0 : Hid (P.es.length ≤ 60 ∧ P.js.length ≤ 120 ∧ P.ss.length ≤ 60 ∧ P.ls.length ≤ 20) := by unfold Hid; omega
  obtain ⟨l1, l2, l3, l4⟩ : ¬ 60 < (P.es.length : Int) ∧ ¬ 120 < (P.js.length : Int) ∧ ¬ 60 < (P.ss.length : Int) ∧ ¬ 20 < (P.ls.length : Int) := by omega
  clear hlong
  go_enter Tryz.func29, Tryz.ntmps29
  go_wp2_with fail
  rw [show (w.alloc (.cells #[.slice a1 P.es.length c1, .slice a2 P.js.length c2, .slice a3 P.ss.length c3, .slice a4 P.ls.length c4, .int .i64 P.top, .int .i64 P.brake, .int .i64 P.margin, .int .i64 P.throw, .bool P.hard] 27)) = wb from HWB.out.symm]
  clear l1 l2 l3 l4
  have hbo := HB.out
  obtain ⟨zb, b0, b1, b2, b3, b4, b5, b6, b7, b8⟩ := hbo
  go_loopw [3] (fun i wr => ∃ k : Nat, i = .int .i64 k ∧ k ≤ P.ls.length ∧ wb = wr ∧ Hid (∀ j (hj : j < P.ls.length), j < k → fewL P.ls[j] = true)) (fun i _ => P.ls.length - (intOf i).toNat)
  case atStart => exact ⟨0, rfl, Nat.zero_le _, rfl, fun j _ h => by omega⟩
  case round =>
    obtain ⟨k, rfl, hk, rfl, HA⟩ := hrel
    by_cases hlt : k < P.ls.length
    · obtain ⟨b, o, u, hsome, zs, y0, y1, hu⟩ := (H4.out.gr hw0).at k hlt
      subst hsome
      obtain ⟨au, cu, rfl, -, -⟩ := hu
      simp only [List.length_map] at y1
      have hk1 : (k : Int) < (P.ls.length : Int) := by omega
      have HNO := Lib.hid (@fewB_ls P k hlt)
      have HA' : Hid (fewL P.ls[k] = true → ∀ j (hj : j < P.ls.length), j < k + 1 → fewL P.ls[j] = true) := by
        intro h j hj hjk
        by_cases e : j = k
        · subst e; exact h
        · exact HA.out j hj (by omega)
      have HF : Hid (fewL P.ls[k] = (decide (P.ls[k].es.length ≤ 60) && decide (P.ls[k].n.size ≤ 100))) := rfl
      clear HA
      generalize P.ls[k] = q at *
      obtain ⟨ln, le⟩ := q
      dsimp only at HF y0 y1
      by_cases q1 : 60 < le.length
      · have HR := Lib.hid (HNO.out (by rw [HF.out, decide_eq_false (by omega : ¬ le.length ≤ 60)]; rfl))
        have t1 : 60 < (le.length : Int) := by omega
        go_wp2
        go_ret
        exact ⟨ret_bool HR.out.symm, hw0⟩
      have t1 : ¬ 60 < (le.length : Int) := by omega
      by_cases q2 : 100 < ln.size
      · have HR := Lib.hid (HNO.out (by rw [HF.out, decide_eq_false (by omega : ¬ ln.size ≤ 100)]; simp))
        have t2 : 100 < (ln.size : Int) := by omega
        go_wp2
        go_ret
        exact ⟨ret_bool HR.out.symm, hw0⟩
      · have HG := Lib.hid (HA'.out (by rw [HF.out, decide_eq_true (by omega : ln.size ≤ 100), decide_eq_true (by omega : le.length ≤ 60)]; rfl))
        have t2 : ¬ 100 < (ln.size : Int) := by omega
        go_wp2
        go_roundw
        case rel => exact ⟨k + 1, by go_num, by omega, by trivial, HG.out⟩
        case measure => simp [intOf]; omega
    · have HY1 : Hid ((∀ k (hk : k < P.es.length), P.es[k].n.size ≤ 100) → (∀ k (hk : k < P.ss.length), P.ss[k].n.size ≤ 100) → fewB P = true) := fun h2 h3 => HYES.out HL0.out (fun j hj => HA.out j hj (by omega)) h2 h3
      clear HA HYES
      go_wp2_with fail
      go_loopw [4] (fun i wr => ∃ k : Nat, i = .int .i64 k ∧ k ≤ P.es.length ∧ wb = wr ∧ Hid (∀ j (hj : j < P.es.length), j < k → P.es[j].n.size ≤ 100)) (fun i _ => P.es.length - (intOf i).toNat)
      case atStart => exact ⟨0, rfl, Nat.zero_le _, rfl, fun j _ h => by omega⟩
      case round =>
        clear hlt hk
        obtain ⟨k, rfl, hk, rfl, HA⟩ := hrel
        by_cases hlt : k < P.es.length
        · obtain ⟨b, o, hsome, zs, y0, -, -⟩ := (H1.out.gr hw0).at k hlt
          subst hsome
          have hk1 : (k : Int) < (P.es.length : Int) := by omega
          have HNO := Lib.hid (@fewB_es P k hlt)
          have HA' : Hid (P.es[k].n.size ≤ 100 → ∀ j (hj : j < P.es.length), j < k + 1 → P.es[j].n.size ≤ 100) := by
            intro h j hj hjk
            by_cases e : j = k
            · subst e; exact h
            · exact HA.out j hj (by omega)
          clear HA
          generalize P.es[k].n = ln at *
          by_cases q2 : 100 < ln.size
          · have HR := Lib.hid (HNO.out q2)
            have t2 : 100 < (ln.size : Int) := by omega
            go_wp2
            go_ret
            exact ⟨ret_bool HR.out.symm, hw0⟩
          · have HG := Lib.hid (HA'.out (by omega))
            have t2 : ¬ 100 < (ln.size : Int) := by omega
            go_wp2
            go_roundw
            case rel => exact ⟨k + 1, by go_num, by omega, by trivial, HG.out⟩
            case measure => simp [intOf]; omega
        · have HY2 : Hid ((∀ k (hk : k < P.ss.length), P.ss[k].n.size ≤ 100) → fewB P = true) := fun h3 => HY1.out (fun j hj => HA.out j hj (by omega)) h3
          clear HA HY1
          go_wp2_with fail
          go_loopw [5] (fun i wr => ∃ k : Nat, i = .int .i64 k ∧ k ≤ P.ss.length ∧ wb = wr ∧ Hid (∀ j (hj : j < P.ss.length), j < k → P.ss[j].n.size ≤ 100)) (fun i _ => P.ss.length - (intOf i).toNat)
          case atStart => exact ⟨0, rfl, Nat.zero_le _, rfl, fun j _ h => by omega⟩
          case round =>
            clear hlt hk
            obtain ⟨k, rfl, hk, rfl, HA⟩ := hrel
            by_cases hlt : k < P.ss.length
            · obtain ⟨b, o, hsome, zs, y0, -, -, -⟩ := (H3.out.gr hw0).at k hlt
              subst hsome
              have hk1 : (k : Int) < (P.ss.length : Int) := by omega
              have HNO := Lib.hid (@fewB_ss P k hlt)
              have HA' : Hid (P.ss[k].n.size ≤ 100 → ∀ j (hj : j < P.ss.length), j < k + 1 → P.ss[j].n.size ≤ 100) := by
                intro h j hj hjk
                by_cases e : j = k
                · subst e; exact h
                · exact HA.out j hj (by omega)
              clear HA
              generalize P.ss[k].n = ln at *
              by_cases q2 : 100 < ln.size
              · have HR := Lib.hid (HNO.out q2)
                have t2 : 100 < (ln.size : Int) := by omega
                go_wp2
                go_ret
                exact ⟨ret_bool HR.out.symm, hw0⟩
              · have HG := Lib.hid (HA'.out (by omega))
                have t2 : ¬ 100 < (ln.size : Int) := by omega
                go_wp2
                go_roundw
                case rel => exact ⟨k + 1, by go_num, by omega, by trivial, HG.out⟩
                case measure => simp [intOf]; omega
            · have HR := Lib.hid (HY2.out fun j hj => HA.out j hj (by omega))
              clear HA
              go_wp2
              go_ret
              exact ⟨ret_bool HR.out.symm, hw0⟩
/-- may a plan be, and is it looked at -/
def fineB (P : Pln) : Bool := fewB P && decide (chk P = 0)
set_option maxRecDepth 100000 in
theorem fine_any (v : Value) (P : Pln) (w : World) (hP : IsPln w v P) (hk : PlnOk P) :
    Calls Tryz.prog 12 #[v] w fun e w' => e = .returned (.bool (fineB P)) ∧ Gr w w' := by
  obtain ⟨a1, c1, a2, c2, a3, c3, a4, c4, rfl, h1, h2, h3, h4⟩ := hP
  have HPv := Lib.hid (fun (w' : World) (g : Gr w w') => IsPln.mk (w' := w') h1 h2 h3 h4 g)
  have HB := Lib.hid (bxW_box w P (.slice a1 P.es.length c1) (.slice a2 P.js.length c2) (.slice a3 P.ss.length c3) (.slice a4 P.ls.length c4))
  have hw0 := bxW_gr w P (.slice a1 P.es.length c1) (.slice a2 P.js.length c2) (.slice a3 P.ss.length c3) (.slice a4 P.ls.length c4)
  have HFW := Lib.hid (fun (v' : Value) (w' : World) (h : IsPln w' v' P) => few_any v' P w' h)
  have HCK : Hid (fewB P = true → ∀ (v' : Value) (w' : World), IsPln w' v' P → Calls Tryz.prog 38 #[v'] w' fun e w'' => e = .returned (.int .i64 (chk P)) ∧ Gr w' w'') := fun hf v' w' h => refCheck_any v' P w' h hk (by have := few_flat hf; omega)
  have HFB : Hid (fineB P = (fewB P && decide (chk P = 0))) := rfl
  unfold plnV
  generalize fewB P = fb at *
  generalize chk P = ck at *
  clear h1 h2 h3 h4
  cases fb
  · go_enter Tryz.func12, Tryz.ntmps12
    go_wp2_with (go_at_call 29; refine (HFW.out _ _ (HPv.out _ hw0)).mono ?_; rintro e w5 ⟨rfl, h5⟩)
    go_ret
    exact ⟨ret_bool (by rw [HFB.out]; rfl), hw0.trans h5⟩
  · have HCK2 := Lib.hid (HCK.out rfl)
    by_cases hck : ck = 0
    · have t1 := beqT hck
      have HR : Hid (fineB P = true) := by unfold Hid; rw [HFB.out, decide_eq_true hck]; rfl
      clear hck
      go_enter Tryz.func12, Tryz.ntmps12
      go_wp2_with (first | (go_at_call 29; refine (HFW.out _ _ (HPv.out _ hw0)).mono ?_; rintro e w5 ⟨rfl, h5⟩; obtain ⟨zb5, d05, d15, d25, d35, d45, d55, d65, d75, d85⟩ := HB.out.gr h5) | (go_at_call 38; refine (HCK2.out _ _ (HPv.out _ (hw0.trans h5))).mono ?_; rintro e w6 ⟨rfl, h6⟩))
      go_ret
      exact ⟨ret_bool HR.out.symm, (hw0.trans h5).trans h6⟩
    · have t1 := beqF hck
      have HR : Hid (fineB P = false) := by unfold Hid; rw [HFB.out, decide_eq_false hck]; rfl
      clear hck
      go_enter Tryz.func12, Tryz.ntmps12
      go_wp2_with (first | (go_at_call 29; refine (HFW.out _ _ (HPv.out _ hw0)).mono ?_; rintro e w5 ⟨rfl, h5⟩; obtain ⟨zb5, d05, d15, d25, d35, d45, d55, d65, d75, d85⟩ := HB.out.gr h5) | (go_at_call 38; refine (HCK2.out _ _ (HPv.out _ (hw0.trans h5))).mono ?_; rintro e w6 ⟨rfl, h6⟩))
      go_ret
      exact ⟨ret_bool HR.out.symm, (hw0.trans h5).trans h6⟩
end Go.Proofs.YtaanepadgoefhaaGreatDoor
