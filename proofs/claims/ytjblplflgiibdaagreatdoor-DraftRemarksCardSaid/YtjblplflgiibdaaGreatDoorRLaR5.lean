/- DraftRemarks. -/
import Derived.Test.YtjblplflgiibdaaGreatDoorRKy
import Derived.Test.YtjblplflgiibdaaGreatDoorRows
import Derived.Test.YtjblplflgiibdaaGreatDoorRDrKn
import Derived.Test.YtjblplflgiibdaaGreatDoorRDrPr
import Derived.Test.YtjblplflgiibdaaGreatDoorRDrL
import Derived.Test.YtjblplflgiibdaaGreatDoorB6
import Derived.Test.YtjblplflgiibdaaGreatDoorB9
import Derived.Test.YtjblplflgiibdaaGreatDoorRDrQ
import Derived.Test.YtjblplflgiibdaaGreatDoorB11
import Derived.Test.YtjblplflgiibdaaGreatDoorROpnU
namespace Go.Proofs.YtjblplflgiibdaaGreatDoor
open Go.ChangeShapes Go.WideShapes Go.ChangeAt Go.RowKit Go.Maps
set_option linter.unusedVariables false
set_option linter.unusedSimpArgs false
theorem u8s_at {w : World} {A : List Int} {a : Option Addr} {c : Nat} (h : IsVals w (.slice a A.length c) (A.map (Value.int .u8))) (k : Nat) (hk : k < A.length) :
    ∃ b o, a = some ⟨b, o, none⟩ ∧ b < w.heap.size ∧ w.cell? ⟨b, o + k, none⟩ = some (.int .u8 A[k]) := by
  obtain ⟨a', c', e, _, hx⟩ := h
  simp only [Value.slice.injEq] at e
  obtain ⟨rfl, -, rfl⟩ := e
  rcases hx with hx | ⟨b, o, rfl, hb, hc⟩
  · exfalso
    have := congrArg List.length hx
    simp at this
    rw [this] at hk
    simp at hk
  · exact ⟨b, o, rfl, hb, hc k _ (by rw [List.getElem?_map, List.getElem?_eq_getElem hk]; rfl)⟩
set_option maxRecDepth 100000 in
set_option maxHeartbeats 4000000 in
theorem draftRemarks_walk (pv : Value) (P : Pln) (av : Value) (A : List Int) (w : World) (ht : Tabs w) (hP : IsPln w pv P ∧ PlnOk P) (hA : IsVals w av (A.map (Value.int .u8)) ∧ ∀ n ∈ A, (Lit.int .u8 n).wf = true) :
    Calls Tryz.prog 6 #[pv, av] w fun e w' => e = .returned (.bool true) ∧ Gr w w' := by
  obtain ⟨hA, hAw⟩ := hA
  have HAV := Lib.hid hA
  obtain ⟨va1, vc1, rfl, hAl, -⟩ := hA
  rw [List.length_map] at HAV hAl ⊢
  unfold maxLen at hAl
  have hAb : ∀ n ∈ A, 0 ≤ n ∧ n ≤ 255 := fun n hn => by
    have := hAw n hn
    simpa [Lit.wf, IntKind.min, IntKind.max, IntKind.signed, IntKind.bits] using this
  obtain ⟨hP, hok⟩ := hP
  have HFI0 := Lib.hid (fun (w' : World) (g : Gr w w') => fine_any _ P w' (hP.gr g) hok)
  have HPI := Lib.hid hP
  obtain ⟨a1, c1, a2, c2, a3, c3, a4, c4, rfl, -⟩ := hP
  unfold plnV at *
  have G1 : Gr w (w.alloc (.cells #[.slice a1 P.es.length c1, .slice a2 P.js.length c2, .slice a3 P.ss.length c3, .slice a4 P.ls.length c4, .int .i64 P.top, .int .i64 P.brake, .int .i64 P.margin, .int .i64 P.throw, .bool P.hard] 28)) := (Gr.refl _).alloc _
  have HKN := Lib.hid (known3_any _ (ht.gr G1))
  have HP := Lib.hid (fun (w' : World) (g : Gr (w.alloc (.cells #[.slice a1 P.es.length c1, .slice a2 P.js.length c2, .slice a3 P.ss.length c3, .slice a4 P.ls.length c4, .int .i64 P.top, .int .i64 P.brake, .int .i64 P.margin, .int .i64 P.throw, .bool P.hard] 28)) w') => (PBox.new w P (.slice a1 P.es.length c1) (.slice a2 P.js.length c2) (.slice a3 P.ss.length c3) (.slice a4 P.ls.length c4)).gr g)
  have hfine : fineB P = true → chk P = 0 := fine_chk
  generalize fineB P = fb at HFI0 hfine
  have HFI := HFI0
  have HAB := Lib.hid hAb
  clear hAw hAb
  cases fb
  · go_enter Tryz.func6, Tryz.ntmps6
    go_wp2_with (first | (go_at_call 9; (with_reducible refine (HKN.out).mono ?_); rintro e wk ⟨rfl, gk⟩; obtain ⟨zp, p0, p1, p2, p3, p4, p5, p6, p7, p8⟩ := HP.out _ (gk)) | (go_at_call 16; (with_reducible refine (HFI.out _ (G1.trans gk)).mono ?_); rintro e wf ⟨rfl, gf⟩; obtain ⟨zp, p0, p1, p2, p3, p4, p5, p6, p7, p8⟩ := HP.out _ (gk.trans gf)) | fail)
    go_ret
    exact ⟨rfl, G1.trans (gk.trans gf)⟩
  have hk := hfine rfl
  clear hfine
  by_cases hms : 50 < A.length
  · have tm : (50 : Int) < (A.length : Int) := by omega
    go_enter Tryz.func6, Tryz.ntmps6
    go_wp2_with (first | (go_at_call 9; (with_reducible refine (HKN.out).mono ?_); rintro e wk ⟨rfl, gk⟩; obtain ⟨zp, p0, p1, p2, p3, p4, p5, p6, p7, p8⟩ := HP.out _ (gk)) | (go_at_call 16; (with_reducible refine (HFI.out _ (G1.trans gk)).mono ?_); rintro e wf ⟨rfl, gf⟩; obtain ⟨zp, p0, p1, p2, p3, p4, p5, p6, p7, p8⟩ := HP.out _ (gk.trans gf)) | fail)
    go_ret
    exact ⟨rfl, G1.trans (gk.trans gf)⟩
  have tm : ¬ (50 : Int) < (A.length : Int) := by omega
  obtain ⟨⟨l1, l2, l3, l4⟩, -⟩ := fine_all hk
  have hfl : (P.ls.flatMap (·.es)).length ≤ 1000000 := by
    have h1 := flat_len_le P.ls 40 fun l hl => (line_parts hk hl).2.2.1
    have h2 : P.ls.length * 40 ≤ 4 * 40 := Nat.mul_le_mul_right 40 l3
    omega
  have HPR : Hid (∀ w', Gr w w' → Calls Tryz.prog 15 #[.agg #[.slice a1 P.es.length c1, .slice a2 P.js.length c2, .slice a3 P.ss.length c3, .slice a4 P.ls.length c4, .int .i64 P.top, .int .i64 P.brake, .int .i64 P.margin, .int .i64 P.throw, .bool P.hard]] w' fun e w'' => e = .returned (.tuple #[.string (printT P), .int .i64 0]) ∧ Gr w' w'') := fun w' g => by
    have := refPrintP_any _ P w' (HPI.out.gr g) hok hfl
    rwa [hk, if_pos rfl] at this
  have hz := print_size hk
  have HLI : Hid (∀ w', Calls Tryz.prog 17 #[.string (printT P)] w' (RetS w' (rowsT P))) := fun w' => by
    have := refLines_any (printT P) (by omega) w'
    rwa [lnB_printT hk] at this
  have hrl := rows_len P
  have HZV : Hid (∀ k, k ≤ (rowsT P).length → (unl (mixL A (rowsT P) k)).size ≤ 20000) := fun k hkl => by
    have h1 := mix_size (A := A) (X := rowsT P) k hkl
    have h2 := preT_size hk k
    unfold preT at h2
    omega
  have HZL : Hid (∀ k (h : k < (rowsT P).length), ((rowsT P)[k]).size ≤ 500) := fun k h => (rows_line hk _ (List.getElem_mem h)).2
  obtain ⟨np, hnp⟩ := parT_mix hk (A := A) (by omega)
  have HPA : Hid (∀ w', Gr w w' → Calls Tryz.prog 10 #[.string (unl (mixL A (rowsT P) (rowsT P).length))] w' fun e w'' => ∃ v, e = .returned (.tuple #[v, .int .i64 np, .int .i64 0]) ∧ IsPln w'' v P ∧ Gr w' w'') := fun w' g => by
    have := drParse_any (unl (mixL A (rowsT P) (rowsT P).length)) (by have := HZV.out _ (Nat.le_refl _); omega) w' (shp_gr ht.sh g)
    rw [hnp] at this
    exact this
  generalize printT P = T at HPR HLI hz
  generalize rowsT P = L at HLI hrl HZV HZL HPA hnp
  have hLb : L.length ≤ 200 := by omega
  clear hok hfl hk hnp hrl
  go_enter Tryz.func6, Tryz.ntmps6
  go_upto_region 9 with (first | (go_at_call 9; (with_reducible refine (HKN.out).mono ?_); rintro e wk ⟨rfl, gk⟩; obtain ⟨zp, p0, p1, p2, p3, p4, p5, p6, p7, p8⟩ := HP.out _ (gk)) | (go_at_call 16; (with_reducible refine (HFI.out _ (G1.trans gk)).mono ?_); rintro e wf ⟨rfl, gf⟩; obtain ⟨zp, p0, p1, p2, p3, p4, p5, p6, p7, p8⟩ := HP.out _ (gk.trans gf)) | (go_at_call 15; (with_reducible refine (HPR.out _ (G1.trans (gk.trans gf))).mono ?_); rintro e wp ⟨rfl, gp⟩; obtain ⟨zp, p0, p1, p2, p3, p4, p5, p6, p7, p8⟩ := HP.out _ ((gk.trans gf).trans gp)) | (go_at_call 17; (with_reducible refine (HLI.out _).mono ?_); rintro e wl ⟨vl, rfl, hvl, gl⟩; have HVL := Lib.hid hvl; obtain ⟨va, vc, rfl, -, -⟩ := hvl; rw [List.length_map] at HVL ⊢; obtain ⟨zp, p0, p1, p2, p3, p4, p5, p6, p7, p8⟩ := HP.out _ (((gk.trans gf).trans gp).trans gl)) | fail)
  have GL := Lib.hid (((gk.trans gf).trans gp).trans gl)
  clear zp p0 p1 p2 p3 p4 p5 p6 p7 p8
  go_wp2_with fail
  go_loopw [8, 9] (fun ov x wr => ∃ k : Nat, x = .int .i64 k ∧ k ≤ L.length ∧ ov = .string (unl (mixL A L k)) ∧ Gr wl wr) (fun _ x _ => L.length - (intOf x).toNat)
  case atStart => exact ⟨0, rfl, Nat.zero_le _, rfl, Gr.refl _⟩
  case round =>
    obtain ⟨k, rfl, hkl, rfl, g⟩ := hrel
    by_cases hlt : k < L.length
    · have hk1 : (k : Int) < (L.length : Int) := by omega
      obtain ⟨b0, o0, hs0, z0, x0⟩ := vals_at (HVL.out.gr g) k hlt
      subst hs0
      have hzv := HZV.out k hkl
      have hzl := HZL.out k hlt
      by_cases hlA : k < A.length
      · have hk2 : (k : Int) < (A.length : Int) := by omega
        obtain ⟨b1, o1, hs1, z1, x1⟩ := u8s_at (HAV.out.gr (G1.trans (GL.out.trans g))) k hlA
        subst hs1
        have hnx := mix_next_at (A := A) hlA hlt
        obtain ⟨ha0, ha1⟩ := HAB.out _ (List.getElem_mem hlA)
        generalize L[k] = lk at x0 hzl hnx
        generalize A[k] = ak at x1 hnx ha0 ha1
        generalize unl (mixL A L k) = V at hzv hnx ⊢
        have hc4 : ak % 4 = 0 ∨ ak % 4 = 1 ∨ ak % 4 = 2 ∨ ak % 4 = 3 := by omega
        have htm : ak.tmod 4 = ak % 4 := Int.tmod_eq_emod_of_nonneg ha0
        rcases hc4 with h4 | h4 | h4 | h4
        · rw [h4] at hnx htm
          have HNX : Hid (Value.string (V ++ ⟨#[]⟩ ++ lk ++ ⟨#[10]⟩) = Value.string (unl (mixL A L (k + 1)))) := congrArg Value.string hnx.symm
          have tk : IntKind.u8.wrap (ak.tmod 4) = 0 := by rw [htm]; rfl
          clear hnx h4
          go_wp2_with fail
          go_roundw
          case rel => exact ⟨k + 1, by go_num, hlt, HNX.out, g.alloc _⟩
          case measure => simp [intOf]; omega
        · rw [h4] at hnx htm
          have HNX : Hid (Value.string (V ++ ⟨#[10]⟩ ++ lk ++ ⟨#[10]⟩) = Value.string (unl (mixL A L (k + 1)))) := congrArg Value.string hnx.symm
          have tk : IntKind.u8.wrap (ak.tmod 4) = 1 := by rw [htm]; rfl
          clear hnx h4
          go_wp2_with fail
          go_roundw
          case rel => exact ⟨k + 1, by go_num, hlt, HNX.out, g.alloc _⟩
          case measure => simp [intOf]; omega
        · rw [h4] at hnx htm
          have HNX : Hid (Value.string (V ++ ⟨#[35, 32, 120, 10]⟩ ++ lk ++ ⟨#[10]⟩) = Value.string (unl (mixL A L (k + 1)))) := congrArg Value.string hnx.symm
          have tk : IntKind.u8.wrap (ak.tmod 4) = 2 := by rw [htm]; rfl
          clear hnx h4
          go_wp2_with fail
          go_roundw
          case rel => exact ⟨k + 1, by go_num, hlt, HNX.out, g.alloc _⟩
          case measure => simp [intOf]; omega
        · rw [h4] at hnx htm
          have HNX : Hid (Value.string (V ++ ⟨#[35, 10, 10]⟩ ++ lk ++ ⟨#[10]⟩) = Value.string (unl (mixL A L (k + 1)))) := congrArg Value.string hnx.symm
          have tk : IntKind.u8.wrap (ak.tmod 4) = 3 := by rw [htm]; rfl
          clear hnx h4
          go_wp2_with fail
          go_roundw
          case rel => exact ⟨k + 1, by go_num, hlt, HNX.out, g.alloc _⟩
          case measure => simp [intOf]; omega
      · have hk2 : ¬ (k : Int) < (A.length : Int) := by omega
        have hnx := mix_next_no (A := A) hlA hlt
        generalize L[k] = lk at x0 hzl hnx
        generalize unl (mixL A L k) = V at hzv hnx ⊢
        have HNX : Hid (Value.string (V ++ lk ++ ⟨#[10]⟩) = Value.string (unl (mixL A L (k + 1)))) := congrArg Value.string hnx.symm
        clear hnx
        go_wp2_with fail
        go_roundw
        case rel => exact ⟨k + 1, by go_num, hlt, HNX.out, g⟩
        case measure => simp [intOf]; omega
    have hk1 : ¬ (k : Int) < (L.length : Int) := by omega
    obtain rfl : k = L.length := by omega
    obtain ⟨zp, p0, p1, p2, p3, p4, p5, p6, p7, p8⟩ := HP.out _ (GL.out.trans g)
    go_upto_region 17 with (first | (go_at_call 10; (with_reducible refine (HPA.out _ (G1.trans (GL.out.trans g))).mono ?_); rintro e wq ⟨vq, rfl, hq, gq⟩; have HQ0 := Lib.hid hq; obtain ⟨b1, d1, b2, d2, b3, d3, b4, d4, rfl, -⟩ := hq; unfold plnV at HQ0 ⊢; obtain ⟨zp, p0, p1, p2, p3, p4, p5, p6, p7, p8⟩ := HP.out _ ((GL.out.trans g).trans gq)) | fail)
    have g9 : Gr wq (wq.alloc (.cells #[.slice b1 P.es.length d1, .slice b2 P.js.length d2, .slice b3 P.ss.length d3, .slice b4 P.ls.length d4, .int .i64 P.top, .int .i64 P.brake, .int .i64 P.margin, .int .i64 P.throw, .bool P.hard] 28)) := (Gr.refl _).alloc _
    have HQ := Lib.hid (fun (w' : World) (g : Gr (wq.alloc (.cells #[.slice b1 P.es.length d1, .slice b2 P.js.length d2, .slice b3 P.ss.length d3, .slice b4 P.ls.length d4, .int .i64 P.top, .int .i64 P.brake, .int .i64 P.margin, .int .i64 P.throw, .bool P.hard] 28)) w') => (PBox.new wq P (.slice b1 P.es.length d1) (.slice b2 P.js.length d2) (.slice b3 P.ss.length d3) (.slice b4 P.ls.length d4)).gr g)
    have gA := ((GL.out.trans g).trans gq).trans g9
    have HSM := Lib.hid (refSameP_any _ _ P _ (HPI.out.gr (G1.trans gA)) (HQ0.out.gr g9))
    clear HQ0 HPA HPR
    obtain ⟨zp, p0, p1, p2, p3, p4, p5, p6, p7, p8⟩ := HP.out _ (gA)
    obtain ⟨zq, q0, q1, q2, q3, q4, q5, q6, q7, q8⟩ := HQ.out _ (Gr.refl _)
    generalize wq.alloc (.cells #[.slice b1 P.es.length d1, .slice b2 P.js.length d2, .slice b3 P.ss.length d3, .slice b4 P.ls.length d4, .int .i64 P.top, .int .i64 P.brake, .int .i64 P.margin, .int .i64 P.throw, .bool P.hard] 28) = wb at *
    generalize wq.heap.size = qb at *
    go_wp2_with (first | (go_at_call 12; (with_reducible refine (HSM.out).mono ?_); rintro e ws ⟨rfl, gs⟩) | fail)
    go_ret
    exact ⟨rfl, (G1.trans gA).trans gs⟩
end Go.Proofs.YtjblplflgiibdaaGreatDoor
