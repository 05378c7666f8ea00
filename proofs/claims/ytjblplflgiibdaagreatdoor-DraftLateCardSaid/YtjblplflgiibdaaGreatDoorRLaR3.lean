/- DraftLate. -/
import Derived.Test.YtjblplflgiibdaaGreatDoorRKy
import Derived.Test.YtjblplflgiibdaaGreatDoorRows
import Derived.Test.YtjblplflgiibdaaGreatDoorRDrKn
import Derived.Test.YtjblplflgiibdaaGreatDoorRDrPr
import Derived.Test.YtjblplflgiibdaaGreatDoorRDrL
import Derived.Test.YtjblplflgiibdaaGreatDoorB6
import Derived.Test.YtjblplflgiibdaaGreatDoorB9
import Derived.Test.YtjblplflgiibdaaGreatDoorB11
namespace Go.Proofs.YtjblplflgiibdaaGreatDoor
open Go.ChangeShapes Go.WideShapes Go.ChangeAt Go.RowKit Go.Maps
set_option linter.unusedVariables false
set_option linter.unusedSimpArgs false
set_option maxRecDepth 100000 in
set_option maxHeartbeats 4000000 in
theorem draftLate_walk (pv : Value) (P : Pln) (i : Int) (w : World) (ht : Tabs w) (hP : IsPln w pv P ∧ PlnOk P) (wi : (Lit.int .u8 i).wf = true) :
    Calls Tryz.prog 8 #[pv, .int .u8 i] w fun e w' => e = .returned (.bool true) ∧ Gr w w' := by
  have hib : 0 ≤ i ∧ i ≤ 255 := by simpa [Lit.wf, IntKind.min, IntKind.max, IntKind.signed, IntKind.bits] using wi
  obtain ⟨hP, hok⟩ := hP
  have HFI0 := Lib.hid (fun (w' : World) (g : Gr w w') => fine_any _ P w' (hP.gr g) hok)
  have HPI := Lib.hid hP
  have hl1 : P.es.length ≤ maxLen ∧ P.js.length ≤ maxLen := by
    obtain ⟨_, _, _, _, _, _, _, _, _, h1, h2, h3, h4⟩ := hP
    exact ⟨IsRow.len h1, IsRow.len h2⟩
  obtain ⟨a1, c1, a2, c2, a3, c3, a4, c4, rfl, -⟩ := hP
  unfold plnV at *
  have G1 : Gr w (w.alloc (.cells #[.slice a1 P.es.length c1, .slice a2 P.js.length c2, .slice a3 P.ss.length c3, .slice a4 P.ls.length c4, .int .i64 P.top, .int .i64 P.brake, .int .i64 P.margin, .int .i64 P.throw, .bool P.hard] 28)) := (Gr.refl _).alloc _
  have HKN := Lib.hid (known3_any _ (ht.gr G1))
  have HP := Lib.hid (fun (w' : World) (g : Gr (w.alloc (.cells #[.slice a1 P.es.length c1, .slice a2 P.js.length c2, .slice a3 P.ss.length c3, .slice a4 P.ls.length c4, .int .i64 P.top, .int .i64 P.brake, .int .i64 P.margin, .int .i64 P.throw, .bool P.hard] 28)) w') => (PBox.new w P (.slice a1 P.es.length c1) (.slice a2 P.js.length c2) (.slice a3 P.ss.length c3) (.slice a4 P.ls.length c4)).gr g)
  have hfine : fineB P = true → chk P = 0 := fine_chk
  generalize fineB P = fb at HFI0 hfine
  have HFI := HFI0
  cases fb
  · go_enter Tryz.func8, Tryz.ntmps8
    go_wp2_with (first | (go_at_call 9; (with_reducible refine (HKN.out).mono ?_); rintro e wk ⟨rfl, gk⟩; obtain ⟨zp, p0, p1, p2, p3, p4, p5, p6, p7, p8⟩ := HP.out _ (gk)) | (go_at_call 16; (with_reducible refine (HFI.out _ (G1.trans gk)).mono ?_); rintro e wf ⟨rfl, gf⟩; obtain ⟨zp, p0, p1, p2, p3, p4, p5, p6, p7, p8⟩ := HP.out _ (gk.trans gf)) | fail)
    go_ret
    exact ⟨rfl, G1.trans (gk.trans gf)⟩
  have hk := hfine rfl
  clear hfine
  by_cases hj0 : P.js.length = 0
  · have tj : ((P.js.length : Int) == 0) = true := beqT (by omega)
    clear hj0
    go_enter Tryz.func8, Tryz.ntmps8
    go_wp2_with (first | (go_at_call 9; (with_reducible refine (HKN.out).mono ?_); rintro e wk ⟨rfl, gk⟩; obtain ⟨zp, p0, p1, p2, p3, p4, p5, p6, p7, p8⟩ := HP.out _ (gk)) | (go_at_call 16; (with_reducible refine (HFI.out _ (G1.trans gk)).mono ?_); rintro e wf ⟨rfl, gf⟩; obtain ⟨zp, p0, p1, p2, p3, p4, p5, p6, p7, p8⟩ := HP.out _ (gk.trans gf)) | fail)
    go_ret
    exact ⟨rfl, G1.trans (gk.trans gf)⟩
  have tj : ((P.js.length : Int) == 0) = false := beqF (by omega)
  have hjp : (0 : Int) < (P.js.length : Int) := by omega
  have hk0 : 0 ≤ i.tmod (P.js.length : Int) ∧ i.tmod (P.js.length : Int) < (P.js.length : Int) := ⟨Int.tmod_nonneg _ hib.1, Int.tmod_lt_of_pos _ hjp⟩
  obtain ⟨m, hmm⟩ := Int.eq_ofNat_of_zero_le hk0.1
  have hm : m < P.js.length := by omega
  obtain ⟨⟨l1, l2, l3, l4⟩, -⟩ := fine_all hk
  have hfl : (P.ls.flatMap (·.es)).length ≤ 1000000 := by
    have h1 := flat_len_le P.ls 40 fun l hl => (line_parts hk hl).2.2.1
    have h2 : P.ls.length * 40 ≤ 4 * 40 := Nat.mul_le_mul_right 40 l3
    omega
  have HPR : Hid (∀ w', Gr w w' → Calls Tryz.prog 15 #[.agg #[.slice a1 P.es.length c1, .slice a2 P.js.length c2, .slice a3 P.ss.length c3, .slice a4 P.ls.length c4, .int .i64 P.top, .int .i64 P.brake, .int .i64 P.margin, .int .i64 P.throw, .bool P.hard]] w' fun e w'' => e = .returned (.tuple #[.string (printT P), .int .i64 0]) ∧ Gr w' w'') := fun w' g => by
    have := refPrintP_any _ P w' (HPI.out.gr g) hok hfl
    rwa [hk, if_pos rfl] at this
  have hz := print_size hk
  have HLI : Hid (∀ w', Calls Tryz.prog 17 #[.string (printT P)] w' (RetS w' (rowsT P))) := fun w' => by
    have := refLines_any (printT P) (by omega) w'
    rwa [lnB_printT hk] at this
  have hq0 : (rowsT P)[0]? = some (jnW (wordsH P)) := rowsT_0 P
  have hq1 := rowsT_j (P := P) hm
  have hz0 := (rows_line hk _ (List.mem_of_getElem? hq0)).2
  have hz1 := (rows_line hk _ (List.mem_of_getElem? hq1)).2
  have hpt := parT_late hk (List.getElem_mem hm)
  have hll := rows_len P
  generalize jnW (wordsH P) = hd at hq0 hz0 hpt
  generalize jnW (wordsJ P P.js[m]) = jt at hq1 hz1 hpt
  generalize printT P = T at HPR HLI hz hpt
  have HPA : Hid (∀ w', Gr w w' → Calls Tryz.prog 10 #[.string (hd ++ ⟨#[10]⟩ ++ jt ++ ⟨#[10]⟩ ++ T)] w' fun e w'' => ∃ v, e = .returned (.tuple #[v, .int .i64 2, .int .i64 5]) ∧ IsPln w'' v pln0 ∧ Gr w' w'') := fun w' g => by
    have := drParse_any (hd ++ ⟨#[10]⟩ ++ jt ++ ⟨#[10]⟩ ++ T) (by have h1 : (⟨#[10]⟩ : ByteArray).size = 1 := rfl; simp only [size_app, h1]; omega) w' (shp_gr ht.sh g)
    rw [hpt] at this
    exact this
  generalize rowsT P = L at HLI hq0 hq1 hll
  generalize pln0 = P0 at HPA
  have tm : IntKind.i64.wrap (i.tmod (P.js.length : Int)) = (m : Int) := by rw [hmm]; exact IntWalk.i64_in _ (by omega)
  clear hk hpt hok hfl hk0
  go_enter Tryz.func8, Tryz.ntmps8
  go_upto_region 9 with (first | (go_at_call 9; (with_reducible refine (HKN.out).mono ?_); rintro e wk ⟨rfl, gk⟩; obtain ⟨zp, p0, p1, p2, p3, p4, p5, p6, p7, p8⟩ := HP.out _ (gk)) | (go_at_call 16; (with_reducible refine (HFI.out _ (G1.trans gk)).mono ?_); rintro e wf ⟨rfl, gf⟩; obtain ⟨zp, p0, p1, p2, p3, p4, p5, p6, p7, p8⟩ := HP.out _ (gk.trans gf)) | (go_at_call 15; (with_reducible refine (HPR.out _ (G1.trans (gk.trans gf))).mono ?_); rintro e wp ⟨rfl, gp⟩; obtain ⟨zp, p0, p1, p2, p3, p4, p5, p6, p7, p8⟩ := HP.out _ ((gk.trans gf).trans gp)) | (go_at_call 17; (with_reducible refine (HLI.out _).mono ?_); rintro e wl ⟨vl, rfl, hvl, gl⟩; have HVL := Lib.hid hvl; obtain ⟨va, vc, rfl, -, -⟩ := hvl; rw [List.length_map] at HVL ⊢; obtain ⟨zp, p0, p1, p2, p3, p4, p5, p6, p7, p8⟩ := HP.out _ (((gk.trans gf).trans gp).trans gl)) | fail)
  obtain ⟨b0, o0, hs0, z0, x0⟩ := vals_at HVL.out 0 (by omega)
  obtain ⟨b1, o1, hs1, z1, x1⟩ := vals_at HVL.out (1 + P.es.length + m) (by omega)
  rw [hs0] at hs1
  subst hs0
  simp only [Option.some.injEq, Addr.mk.injEq] at hs1
  obtain ⟨rfl, rfl, -⟩ := hs1
  have e0 : L[0]'(by omega) = hd := by rw [List.getElem?_eq_getElem (by omega)] at hq0; exact Option.some.inj hq0
  have e1 : L[1 + P.es.length + m]'(by omega) = jt := by rw [List.getElem?_eq_getElem (by omega)] at hq1; exact Option.some.inj hq1
  rw [e0, Nat.add_zero] at x0
  rw [e1] at x1
  have il1 : 1 + (P.es.length : Int) + (m : Int) < (L.length : Int) := by omega
  have il0 : ¬ 1 + (P.es.length : Int) + (m : Int) < 0 := by omega
  have il2 : (1 + (P.es.length : Int) + (m : Int)).toNat = 1 + P.es.length + m := by omega
  have il3 : (0 : Int) < (L.length : Int) := by omega
  clear hq0 hq1 e0 e1 HVL
  generalize L.length = nl at *
  go_region
  have gw : Gr w wl.drew := (G1.trans (((gk.trans gf).trans gp).trans gl)).drew
  clear zp p0 p1 p2 p3 p4 p5 p6 p7 p8 z1 x1
  go_wp2_with (first | (go_at_call 10; (with_reducible refine (HPA.out _ gw).mono ?_); rintro e wq ⟨vq, rfl, hq, gq⟩; obtain ⟨qa1, qc1, qa2, qc2, qa3, qc3, qa4, qc4, rfl, -⟩ := hq; unfold plnV) | fail)
  go_ret
  exact ⟨rfl, (gw.trans gq).alloc _⟩
end Go.Proofs.YtjblplflgiibdaaGreatDoor
