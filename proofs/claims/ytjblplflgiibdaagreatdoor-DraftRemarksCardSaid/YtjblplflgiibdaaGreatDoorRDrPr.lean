/- The reference's Print of a plan. -/
import Derived.Test.YtjblplflgiibdaaGreatDoorRKx
import Derived.Test.YtjblplflgiibdaaGreatDoorRows
import Derived.Test.YtjblplflgiibdaaGreatDoorRDrR
import Derived.Test.YtjblplflgiibdaaGreatDoorB10
import Derived.Test.YtjblplflgiibdaaGreatDoorB6
import Derived.Test.YtjblplflgiibdaaGreatDoorRDrL
import Derived.Deep.Cut
namespace Go.Proofs.YtjblplflgiibdaaGreatDoor
open Go.ChangeShapes Go.WideShapes Go.ChangeAt Go.RowKit Go.Maps
set_option linter.unusedVariables false
set_option linter.unusedSimpArgs false
def preT (P : Pln) (k : Nat) : ByteArray := unl ((rowsT P).take k)
theorem preT_succ {P : Pln} {k : Nat} {x : ByteArray} (h : (rowsT P)[k]? = some x) : preT P (k + 1) = preT P k ++ (x ++ ⟨#[10]⟩) := by
  obtain ⟨hk, rfl⟩ := List.getElem?_eq_some_iff.1 h
  unfold preT
  rw [List.take_succ_eq_append_getElem hk, unl_join, unl_one]
theorem preT_size {P : Pln} (h : chk P = 0) (k : Nat) : (preT P k).size ≤ 10000 := by
  have h1 := print_size h
  have h2 := congrArg ByteArray.size (unl_join ((rowsT P).take k) ((rowsT P).drop k))
  rw [List.take_append_drop, size_app] at h2
  unfold preT
  unfold printT at h1
  omega
theorem preT_all (P : Pln) : preT P (1 + P.es.length + P.js.length + P.ss.length + P.ls.length) = printT P := by
  unfold preT printT
  rw [List.take_of_length_le (by rw [rows_len]; omega)]
theorem preT_zero (P : Pln) : preT P 0 = ⟨#[]⟩ := rfl
theorem ba_take (A B : ByteArray) : (A ++ B).extract 0 A.size = A := by
  apply ByteArray.ext
  rw [ByteArray.data_extract]
  apply Array.ext'
  rw [Array.toList_extract]
  simp [ByteArray.data_append, List.extract_eq_take_drop]
theorem jnW_snoc : ∀ (A : List ByteArray) (x : ByteArray), A ≠ [] → jnW (A ++ [x]) = jnW A ++ ⟨#[32]⟩ ++ x
  | [], _, h => absurd rfl h
  | [a], x, _ => by rw [List.cons_append, List.nil_append, jnW_cons, jnW_lone, jnW_lone]
  | a :: b :: t, x, _ => by
    have ih := jnW_snoc (b :: t) x (by simp)
    rw [List.cons_append, List.cons_append, jnW_cons, ← List.cons_append, ih, jnW_cons]
    simp only [ba_assoc]
theorem txt_soft (a b c d : ByteArray) : (⟨#[112, 108, 97, 110, 32]⟩ : ByteArray) ++ a ++ ⟨#[32]⟩ ++ b ++ ⟨#[32]⟩ ++ c ++ ⟨#[32]⟩ ++ d ++ ⟨#[32, 115, 111, 102, 116, 10]⟩ = jnW [bPlan, a, b, c, d, bSoft] ++ ⟨#[10]⟩ := by
  rw [jnW_cons, jnW_cons, jnW_cons, jnW_cons, jnW_cons, jnW_lone, show (⟨#[112, 108, 97, 110, 32]⟩ : ByteArray) = bPlan ++ ⟨#[32]⟩ from rfl, show (⟨#[32, 115, 111, 102, 116, 10]⟩ : ByteArray) = ⟨#[32]⟩ ++ (bSoft ++ ⟨#[10]⟩) from rfl]
  simp only [ba_assoc]
theorem txt_hard (a b c d : ByteArray) (X : ByteArray) (hX : X = (⟨#[112, 108, 97, 110, 32]⟩ : ByteArray) ++ a ++ ⟨#[32]⟩ ++ b ++ ⟨#[32]⟩ ++ c ++ ⟨#[32]⟩ ++ d ++ ⟨#[32, 115, 111, 102, 116, 10]⟩) : X.extract 0 (X.size - 5) ++ ⟨#[104, 97, 114, 100, 10]⟩ = jnW [bPlan, a, b, c, d, bHard] ++ ⟨#[10]⟩ := by
  have h5 : (⟨#[115, 111, 102, 116, 10]⟩ : ByteArray).size = 5 := rfl
  have hX2 : X = ((⟨#[112, 108, 97, 110, 32]⟩ : ByteArray) ++ a ++ ⟨#[32]⟩ ++ b ++ ⟨#[32]⟩ ++ c ++ ⟨#[32]⟩ ++ d ++ ⟨#[32]⟩) ++ ⟨#[115, 111, 102, 116, 10]⟩ := by
    rw [hX, show (⟨#[32, 115, 111, 102, 116, 10]⟩ : ByteArray) = ⟨#[32]⟩ ++ ⟨#[115, 111, 102, 116, 10]⟩ from rfl]
    simp only [ba_assoc]
  have hz : X.size - 5 = ((⟨#[112, 108, 97, 110, 32]⟩ : ByteArray) ++ a ++ ⟨#[32]⟩ ++ b ++ ⟨#[32]⟩ ++ c ++ ⟨#[32]⟩ ++ d ++ ⟨#[32]⟩).size := by
    rw [hX2, size_app, h5, Nat.add_sub_cancel]
  rw [hz, hX2, ba_take, jnW_cons, jnW_cons, jnW_cons, jnW_cons, jnW_cons, jnW_lone, show (⟨#[112, 108, 97, 110, 32]⟩ : ByteArray) = bPlan ++ ⟨#[32]⟩ from rfl, show (⟨#[104, 97, 114, 100, 10]⟩ : ByteArray) = bHard ++ ⟨#[10]⟩ from rfl]
  simp only [ba_assoc]
theorem txt_e3 (U K Kb nm d : ByteArray) (h : Kb = K ++ ⟨#[32]⟩) : U ++ Kb ++ nm ++ ⟨#[32]⟩ ++ d ++ ⟨#[10]⟩ = U ++ (jnW [K, nm, d] ++ ⟨#[10]⟩) := by
  rw [jnW_cons, jnW_cons, jnW_lone, h]; simp only [ba_assoc]
theorem txt_e2 (U K Kb nm : ByteArray) (h : Kb = K ++ ⟨#[32]⟩) : U ++ Kb ++ nm ++ ⟨#[10]⟩ = U ++ (jnW [K, nm] ++ ⟨#[10]⟩) := by
  rw [jnW_cons, jnW_lone, h]; simp only [ba_assoc]
theorem ba_nil (x : ByteArray) : (⟨#[]⟩ : ByteArray) ++ x = x := by
  apply ByteArray.ext
  rw [ByteArray.data_append]
  exact Array.empty_append
theorem txt_hard2 (a b c d : ByteArray) (n : Nat) (hn : n = 5 + a.size + 1 + b.size + 1 + c.size + 1 + d.size + 1) : ((⟨#[112, 108, 97, 110, 32]⟩ : ByteArray) ++ a ++ ⟨#[32]⟩ ++ b ++ ⟨#[32]⟩ ++ c ++ ⟨#[32]⟩ ++ d ++ ⟨#[32, 115, 111, 102, 116, 10]⟩).extract 0 n ++ ⟨#[104, 97, 114, 100, 10]⟩ = jnW [bPlan, a, b, c, d, bHard] ++ ⟨#[10]⟩ := by
  have := txt_hard a b c d _ rfl
  rw [← this]
  congr 2
  rw [hn]
  simp only [size_app]
  rfl
theorem txt_e4 (U K Kb nm d e eb : ByteArray) (h : Kb = K ++ ⟨#[32]⟩) (h2 : eb = ⟨#[32]⟩ ++ e) : U ++ Kb ++ nm ++ ⟨#[32]⟩ ++ d ++ eb ++ ⟨#[10]⟩ = U ++ (jnW [K, nm, d, e] ++ ⟨#[10]⟩) := by
  rw [jnW_cons, jnW_cons, jnW_cons, jnW_lone, h, h2]; simp only [ba_assoc]
set_option maxRecDepth 100000 in
set_option maxHeartbeats 8000000 in
theorem refPrintP_any (pv : Value) (P : Pln) (w : World) (hP : IsPln w pv P) (hk : PlnOk P) (hfl : (P.ls.flatMap (·.es)).length ≤ 1000000) :
    Calls Tryz.prog 15 #[pv] w fun e w' => e = .returned (.tuple #[.string (if chk P = 0 then printT P else ⟨#[]⟩), .int .i64 (chk P)]) ∧ Gr w w' := by
  have HCK := Lib.hid (fun (w' : World) (g : Gr w w') => refCheck_any _ P w' (hP.gr g) hk hfl)
  have HPI := Lib.hid hP
  obtain ⟨a1, c1, a2, c2, a3, c3, a4, c4, rfl, h1, h2, h3, h4⟩ := hP
  have H1 := Lib.hid h1
  have H2 := Lib.hid h2
  have H3 := Lib.hid h3
  have H4 := Lib.hid h4
  have g0 : Gr w (w.alloc (.cells #[.slice a1 P.es.length c1, .slice a2 P.js.length c2, .slice a3 P.ss.length c3, .slice a4 P.ls.length c4, .int .i64 P.top, .int .i64 P.brake, .int .i64 P.margin, .int .i64 P.throw, .bool P.hard] 28)) := (Gr.refl _).alloc _
  have HB := Lib.hid (fun (w' : World) (g : Gr (w.alloc (.cells #[.slice a1 P.es.length c1, .slice a2 P.js.length c2, .slice a3 P.ss.length c3, .slice a4 P.ls.length c4, .int .i64 P.top, .int .i64 P.brake, .int .i64 P.margin, .int .i64 P.throw, .bool P.hard] 28)) w') => (PBox.new w P (.slice a1 P.es.length c1) (.slice a2 P.js.length c2) (.slice a3 P.ss.length c3) (.slice a4 P.ls.length c4)).gr g)
  unfold plnV at *
  obtain ⟨zb, p0, p1, p2, p3, p4, p5, p6, p7, p8⟩ := HB.out _ (Gr.refl _)
  by_cases hE : chk P = 0
  rotate_left
  · rw [if_neg hE]
    generalize chk P = E at *
    have tE : (E != 0) = true := bneT hE
    clear hE
    go_enter Tryz.func15, Tryz.ntmps15
    go_wp2_with (first | (go_at_call 28; (with_reducible refine (HCK.out _ g0).mono ?_); rintro e w1 ⟨rfl, g1⟩) | fail)
    go_ret2
    exact ⟨rfl, g0.trans g1⟩
  rw [if_pos hE]
  have HKP := Lib.hid hE
  have hsz := Lib.hid (preT_size hE)
  obtain ⟨⟨b1, b2, b3, b4⟩, -⟩ := fine_all hE
  obtain ⟨n1, n2, n3, n4⟩ := nums_in hE
  have HD := Lib.hid (fun (n : Int) (h0 : 0 ≤ n) (h1 : n ≤ 9999) (w' : World) => refDigits_any n.natAbs n w' (Nat.le_refl _) (by omega) (by omega))
  have HD1 := Lib.hid (HD.out P.top (by omega) (by omega))
  have HD2 := Lib.hid (HD.out P.brake (by omega) (by omega))
  have HD3 := Lib.hid (HD.out P.margin (by omega) (by omega))
  have HD4 := Lib.hid (HD.out P.throw (by omega) (by omega))
  have HTD : Hid (∀ (x : Prt) w', Gr w w' → Calls Tryz.prog 34 #[.agg #[.slice a1 P.es.length c1, .slice a2 P.js.length c2, .slice a3 P.ss.length c3, .slice a4 P.ls.length c4, .int .i64 P.top, .int .i64 P.brake, .int .i64 P.margin, .int .i64 P.throw, .bool P.hard], .agg #[.int .i64 x.e, .int .i64 x.x]] w' fun e w'' => e = .returned (.string (toldT P x)) ∧ Gr w' w'') := fun x w' g => refTold_any _ P x w' (HPI.out.gr g) (fun e he => by have := nm_size (fine_ele hE e he).1; omega)
  have z1 := dgs5_size (n := P.top) (by omega) (by omega)
  have z2 := dgs5_size (n := P.brake) (by omega) (by omega)
  have z3 := dgs5_size (n := P.margin) (by omega) (by omega)
  have z4 := dgs5_size (n := P.throw) (by omega) (by omega)
  have hwh : wordsH P = [bPlan, dgs P.top, dgs P.brake, dgs P.margin, dgs P.throw, if P.hard = true then bHard else bSoft] := rfl
  have hU1 := preT_succ (rowsT_0 P)
  rw [preT_zero, hwh, ba_nil] at hU1
  have HU1 := Lib.hid hU1
  rw [hE] at HCK ⊢
  clear h1 h2 h3 h4 hk hfl hE hwh hU1
  generalize dgs P.top = d1 at *
  generalize dgs P.brake = d2 at *
  generalize dgs P.margin = d3 at *
  generalize dgs P.throw = d4 at *
  go_enter Tryz.func15, Tryz.ntmps15
  go_upto_region 4 with (first | (go_at_call 28; (with_reducible refine (HCK.out _ g0).mono ?_); rintro e w1 ⟨rfl, g1⟩) | fail)
  obtain ⟨zb, p0, p1, p2, p3, p4, p5, p6, p7, p8⟩ := HB.out _ (g1)
  have hcb := fun (i : GrW w1) (o : Nat) => GrW.cell zb i o
  (refine wp_region_gr (by kernel_rfl) (by kernel_rfl) ?_; (repeat (go_big_quiet_step ((go_at_call 33; first | (with_reducible exact Calls.gr_of (HD1.out _)) | (with_reducible exact Calls.gr_of (HD2.out _)) | (with_reducible exact Calls.gr_of (HD3.out _)) | (with_reducible exact Calls.gr_of (HD4.out _)))))); refine wpQuiet_nil ?_; intro wz hz; obtain ⟨iz, hz⟩ := hz; obtain ⟨wn, gn⟩ := iz; dsimp only at hz; obtain rfl := hz.symm)
  clear hcb zb p0 p1 p2 p3 p4 p5 p6 p7 p8
  obtain ⟨zb, p0, p1, p2, p3, p4, p5, p6, p7, p8⟩ := HB.out _ (g1.trans gn)
  go_upto_if 38 with fail
  go_cut [5] from 15 to 44 (fun x wc => x = .string (preT P 1) ∧ wc = wn)
  case first =>
    clear HCK HD1 HD2 HD3 HD4 HTD HPI H1 H2 H3 H4
    go_wp2_with fail
    all_goals (first | rw [← (by assumption : P.hard = true)] | rw [← (by assumption : P.hard = false)] | skip)
    all_goals go_meet
    all_goals
      refine ⟨?_, rfl⟩
      rw [show preT P 1 = _ from HU1.out]
      first | (rw [if_pos (by assumption)]; exact congrArg Value.string (txt_hard2 _ _ _ _ _ rfl)) | (rw [if_neg (by assumption)]; exact congrArg Value.string (txt_soft _ _ _ _)) | (rw [if_neg (by simp [*])]; exact congrArg Value.string (txt_soft _ _ _ _))
  case rest =>
    obtain ⟨rfl, hwc⟩ := hcut
    obtain rfl := hwc.symm
    go_upto_region 8 with fail
    have gk : Gr wn (wn.alloc (.cells #[.string ⟨#[]⟩, .string ⟨#[116, 114, 97, 99, 107, 32]⟩, .string ⟨#[112, 111, 105, 110, 116, 115, 32]⟩, .string ⟨#[99, 114, 111, 115, 115, 32]⟩, .string ⟨#[103, 97, 116, 101, 32]⟩] 9)) := (Gr.refl _).alloc _
    have zk : wn.heap.size < (wn.alloc (.cells #[.string ⟨#[]⟩, .string ⟨#[116, 114, 97, 99, 107, 32]⟩, .string ⟨#[112, 111, 105, 110, 116, 115, 32]⟩, .string ⟨#[99, 114, 111, 115, 115, 32]⟩, .string ⟨#[103, 97, 116, 101, 32]⟩] 9)).heap.size := by simp
    have GWK := Lib.hid (((g0.trans g1).trans gn).trans gk)
    have GBK := Lib.hid ((g1.trans gn).trans gk)
    have HK5 := Lib.hid (fun (w' : World) (g : Gr (wn.alloc (.cells #[.string ⟨#[]⟩, .string ⟨#[116, 114, 97, 99, 107, 32]⟩, .string ⟨#[112, 111, 105, 110, 116, 115, 32]⟩, .string ⟨#[99, 114, 111, 115, 115, 32]⟩, .string ⟨#[103, 97, 116, 101, 32]⟩] 9)) w') => (⟨Nat.lt_of_lt_of_le zk g.size, (g.cell _ _ zk).trans (by go_simp), (g.cell _ _ zk).trans (by go_simp), (g.cell _ _ zk).trans (by go_simp), (g.cell _ _ zk).trans (by go_simp)⟩ : wn.heap.size < w'.heap.size ∧ w'.cell? ⟨wn.heap.size, 1, none⟩ = some (.string ⟨#[116, 114, 97, 99, 107, 32]⟩) ∧ w'.cell? ⟨wn.heap.size, 2, none⟩ = some (.string ⟨#[112, 111, 105, 110, 116, 115, 32]⟩) ∧ w'.cell? ⟨wn.heap.size, 3, none⟩ = some (.string ⟨#[99, 114, 111, 115, 115, 32]⟩) ∧ w'.cell? ⟨wn.heap.size, 4, none⟩ = some (.string ⟨#[103, 97, 116, 101, 32]⟩)))
    have l1 := IsRow.len H1.out
    have l2 := IsRow.len H2.out
    have l3 := IsRow.len H3.out
    clear HCK HD1 HD2 HD3 HD4 HU1 gk zk zb p0 p1 p2 p3 p4 p5 p6 p7 p8
    generalize wn.alloc (.cells #[.string ⟨#[]⟩, .string ⟨#[116, 114, 97, 99, 107, 32]⟩, .string ⟨#[112, 111, 105, 110, 116, 115, 32]⟩, .string ⟨#[99, 114, 111, 115, 115, 32]⟩, .string ⟨#[103, 97, 116, 101, 32]⟩] 9) = wk at *
    generalize wn.heap.size = kb at *
    obtain ⟨zb, p0, p1, p2, p3, p4, p5, p6, p7, p8⟩ := HB.out _ (GBK.out)
    go_wp2_with fail
    clear zb p0 p1 p2 p3 p4 p5 p6 p7 p8
    go_loopw [5, 7] (fun o x wr => ∃ k : Nat, x = .int .i64 k ∧ k ≤ P.es.length ∧ o = .string (preT P (1 + k)) ∧ Gr wk wr) (fun _ x _ => P.es.length - (intOf x).toNat)
    case atStart => exact ⟨0, rfl, Nat.zero_le _, rfl, Gr.refl _⟩
    case round =>
      obtain ⟨k, rfl, hk, rfl, g⟩ := hrel
      by_cases hlt : k < P.es.length
      · have hk1 : (k : Int) < (P.es.length : Int) := by omega
        obtain ⟨bb, o, hs, z, y0, y1, y2⟩ := IsEles.at (H1.out.gr (GWK.out.trans g)) k hlt
        subst hs
        obtain ⟨zb, p0, p1, p2, p3, p4, p5, p6, p7, p8⟩ := HB.out _ (GBK.out.trans g)
        have hfe := fine_ele HKP.out _ (List.getElem_mem hlt)
        have hU := preT_succ (rowsT_e (P := P) hlt)
        have hzU := hsz.out (1 + k)
        generalize P.es[k] = x at y0 y1 y2 hfe hU
        obtain ⟨nm, ek, el⟩ := x
        obtain ⟨hnm, hkk, hl0, hl1, -, -⟩ := hfe
        have hzn := nm_size hnm
        have hzd := dgs5_size (n := el) hl0 (show el < 100000 by have : el ≤ 4000 := hl1; omega)
        dsimp only at y0 y1 y2 hkk hl0 hl1 hU hzn
        have HDE := Lib.hid (HD.out el hl0 (by omega))
        generalize preT P (1 + k) = U at hU hzU ⊢
        obtain ⟨zK, k1, k2, k3, k4⟩ := HK5.out _ g
        have hk4 : ek = 1 ∨ ek = 2 ∨ ek = 3 ∨ ek = 4 := by omega
        clear hkk hnm
        rcases hk4 with h4 | h4 | h4 | h4
        · subst h4
          have HV : Hid (Value.string (U ++ ⟨#[116, 114, 97, 99, 107, 32]⟩ ++ nm ++ ⟨#[32]⟩ ++ dgs el ++ ⟨#[10]⟩) = Value.string (preT P (1 + (k + 1)))) := congrArg Value.string ((txt_e3 U bTrack _ nm (dgs el) rfl).trans hU.symm)
          clear hU
          generalize dgs el = de at *
          go_upto_region 11 with fail
          have hcb := fun (i : GrW wr) (o : Nat) => GrW.cell zb i o
          have hcr := fun (i : GrW wr) (o : Nat) => GrW.cell z i o
          have hck := fun (i : GrW wr) (o : Nat) => GrW.cell zK i o
          (refine wp_region_gr (by kernel_rfl) (by kernel_rfl) ?_; (repeat (go_big_quiet_step (fail))); refine wpQuiet_nil ?_; intro wz hz; obtain ⟨iz, hz⟩ := hz; obtain ⟨wn, gn⟩ := iz; dsimp only at hz; obtain rfl := hz.symm)
          have y1' := (gn.cell _ _ z).trans y1
          have y2' := (gn.cell _ _ z).trans y2
          have zn' := Nat.lt_of_lt_of_le z gn.size
          clear hcb hcr hck y0 y1 y2 z zK k1 k2 k3 k4 zb p0 p1 p2 p3 p4 p5 p6 p7 p8
          obtain ⟨zb, p0, p1, p2, p3, p4, p5, p6, p7, p8⟩ := HB.out _ (GBK.out.trans (g.trans gn))
          go_wp2_with (first | (go_at_call 33; (with_reducible refine (HDE.out _).mono ?_); rintro e w7 ⟨rfl, g7⟩) | fail)
          go_roundw
          case rel => exact ⟨k + 1, by go_num, hlt, HV.out, g.trans (gn.trans g7)⟩
          case measure => simp [intOf]; omega
        · subst h4
          have HV : Hid (Value.string (U ++ ⟨#[112, 111, 105, 110, 116, 115, 32]⟩ ++ nm ++ ⟨#[32]⟩ ++ dgs el ++ ⟨#[10]⟩) = Value.string (preT P (1 + (k + 1)))) := congrArg Value.string ((txt_e3 U bPoints _ nm (dgs el) rfl).trans hU.symm)
          clear hU
          generalize dgs el = de at *
          go_upto_region 11 with fail
          have hcb := fun (i : GrW wr) (o : Nat) => GrW.cell zb i o
          have hcr := fun (i : GrW wr) (o : Nat) => GrW.cell z i o
          have hck := fun (i : GrW wr) (o : Nat) => GrW.cell zK i o
          (refine wp_region_gr (by kernel_rfl) (by kernel_rfl) ?_; (repeat (go_big_quiet_step (fail))); refine wpQuiet_nil ?_; intro wz hz; obtain ⟨iz, hz⟩ := hz; obtain ⟨wn, gn⟩ := iz; dsimp only at hz; obtain rfl := hz.symm)
          have y1' := (gn.cell _ _ z).trans y1
          have y2' := (gn.cell _ _ z).trans y2
          have zn' := Nat.lt_of_lt_of_le z gn.size
          clear hcb hcr hck y0 y1 y2 z zK k1 k2 k3 k4 zb p0 p1 p2 p3 p4 p5 p6 p7 p8
          obtain ⟨zb, p0, p1, p2, p3, p4, p5, p6, p7, p8⟩ := HB.out _ (GBK.out.trans (g.trans gn))
          go_wp2_with (first | (go_at_call 33; (with_reducible refine (HDE.out _).mono ?_); rintro e w7 ⟨rfl, g7⟩) | fail)
          go_roundw
          case rel => exact ⟨k + 1, by go_num, hlt, HV.out, g.trans (gn.trans g7)⟩
          case measure => simp [intOf]; omega
        · subst h4
          have HV : Hid (Value.string (U ++ ⟨#[99, 114, 111, 115, 115, 32]⟩ ++ nm ++ ⟨#[32]⟩ ++ dgs el ++ ⟨#[10]⟩) = Value.string (preT P (1 + (k + 1)))) := congrArg Value.string ((txt_e3 U bCross _ nm (dgs el) rfl).trans hU.symm)
          clear hU
          generalize dgs el = de at *
          go_upto_region 11 with fail
          have hcb := fun (i : GrW wr) (o : Nat) => GrW.cell zb i o
          have hcr := fun (i : GrW wr) (o : Nat) => GrW.cell z i o
          have hck := fun (i : GrW wr) (o : Nat) => GrW.cell zK i o
          (refine wp_region_gr (by kernel_rfl) (by kernel_rfl) ?_; (repeat (go_big_quiet_step (fail))); refine wpQuiet_nil ?_; intro wz hz; obtain ⟨iz, hz⟩ := hz; obtain ⟨wn, gn⟩ := iz; dsimp only at hz; obtain rfl := hz.symm)
          have y1' := (gn.cell _ _ z).trans y1
          have y2' := (gn.cell _ _ z).trans y2
          have zn' := Nat.lt_of_lt_of_le z gn.size
          clear hcb hcr hck y0 y1 y2 z zK k1 k2 k3 k4 zb p0 p1 p2 p3 p4 p5 p6 p7 p8
          obtain ⟨zb, p0, p1, p2, p3, p4, p5, p6, p7, p8⟩ := HB.out _ (GBK.out.trans (g.trans gn))
          go_wp2_with (first | (go_at_call 33; (with_reducible refine (HDE.out _).mono ?_); rintro e w7 ⟨rfl, g7⟩) | fail)
          go_roundw
          case rel => exact ⟨k + 1, by go_num, hlt, HV.out, g.trans (gn.trans g7)⟩
          case measure => simp [intOf]; omega
        · subst h4
          have HV : Hid (Value.string (U ++ ⟨#[103, 97, 116, 101, 32]⟩ ++ nm ++ ⟨#[10]⟩) = Value.string (preT P (1 + (k + 1)))) := congrArg Value.string ((txt_e2 U bGateE _ nm rfl).trans hU.symm)
          clear hU
          generalize dgs el = de at *
          go_upto_region 11 with fail
          have hcb := fun (i : GrW wr) (o : Nat) => GrW.cell zb i o
          have hcr := fun (i : GrW wr) (o : Nat) => GrW.cell z i o
          have hck := fun (i : GrW wr) (o : Nat) => GrW.cell zK i o
          (refine wp_region_gr (by kernel_rfl) (by kernel_rfl) ?_; (repeat (go_big_quiet_step (fail))); refine wpQuiet_nil ?_; intro wz hz; obtain ⟨iz, hz⟩ := hz; obtain ⟨wn, gn⟩ := iz; dsimp only at hz; obtain rfl := hz.symm)
          have y1' := (gn.cell _ _ z).trans y1
          have y2' := (gn.cell _ _ z).trans y2
          have zn' := Nat.lt_of_lt_of_le z gn.size
          clear hcb hcr hck y0 y1 y2 z zK k1 k2 k3 k4 zb p0 p1 p2 p3 p4 p5 p6 p7 p8
          obtain ⟨zb, p0, p1, p2, p3, p4, p5, p6, p7, p8⟩ := HB.out _ (GBK.out.trans (g.trans gn))
          go_wp2_with fail
          go_roundw
          case rel => exact ⟨k + 1, by go_num, hlt, HV.out, g.trans gn⟩
          case measure => simp [intOf]; omega
      have hk1 : ¬ (k : Int) < (P.es.length : Int) := by omega
      obtain rfl : k = P.es.length := by omega
      obtain ⟨zb, p0, p1, p2, p3, p4, p5, p6, p7, p8⟩ := HB.out _ (GBK.out.trans g)
      go_wp2_with fail
      clear zb p0 p1 p2 p3 p4 p5 p6 p7 p8 hk hlt hk1
      go_loopw [5, 8] (fun o x wr => ∃ k : Nat, x = .int .i64 k ∧ k ≤ P.js.length ∧ o = .string (preT P (1 + P.es.length + k)) ∧ Gr wk wr) (fun _ x _ => P.js.length - (intOf x).toNat)
      case atStart => exact ⟨0, rfl, Nat.zero_le _, rfl, g⟩
      case round =>
        clear g
        obtain ⟨k, rfl, hk, rfl, g⟩ := hrel
        by_cases hlt : k < P.js.length
        · have hk1 : (k : Int) < (P.js.length : Int) := by omega
          obtain ⟨bb, o, hs, z, y0, y1, y2, y3⟩ := IsJns.at (H2.out.gr (GWK.out.trans g)) k hlt
          subst hs
          obtain ⟨zb, p0, p1, p2, p3, p4, p5, p6, p7, p8⟩ := HB.out _ (GBK.out.trans g)
          have hwe := wordsJ_word HKP.out (List.getElem_mem hlt)
          have hU := preT_succ (rowsT_j (P := P) hlt)
          have hzU := hsz.out (1 + P.es.length + k)
          generalize P.js[k] = x at y0 y1 y2 y3 hwe hU
          have hza := (hwe (toldT P x.a) (by simp [wordsJ])).2
          have hzb := (hwe (toldT P x.b) (by simp [wordsJ])).2
          have HTA := Lib.hid (HTD.out x.a)
          have HTB := Lib.hid (HTD.out x.b)
          have hwj : wordsJ P x = [bJoin, toldT P x.a, toldT P x.b] := rfl
          rw [hwj] at hU
          generalize toldT P x.a = ta at HTA hU hza
          generalize toldT P x.b = tb at HTB hU hzb
          obtain ⟨⟨ae, ax⟩, ⟨be, bx⟩⟩ := x
          dsimp only at y0 y1 y2 y3 HTA HTB
          generalize preT P (1 + P.es.length + k) = U at hU hzU ⊢
          have HV : Hid (Value.string (U ++ ⟨#[106, 111, 105, 110, 32]⟩ ++ ta ++ ⟨#[32]⟩ ++ tb ++ ⟨#[10]⟩) = Value.string (preT P (1 + P.es.length + (k + 1)))) := congrArg Value.string ((txt_e3 U bJoin _ ta tb rfl).trans hU.symm)
          clear hU hwj hwe
          have HGW := Lib.hid (GWK.out.trans g)
          go_upto_region 18 with fail
          have hcb := fun (i : GrW wr) (o : Nat) => GrW.cell zb i o
          have hcr := fun (i : GrW wr) (o : Nat) => GrW.cell z i o
          (refine wp_region_gr (by kernel_rfl) (by kernel_rfl) ?_; (repeat (go_big_quiet_step ((go_at_call 34; first | (with_reducible exact Calls.gr_of (HTA.out _ (HGW.out.trans (GrW.gr _)))) | (with_reducible exact Calls.gr_of (HTB.out _ (HGW.out.trans (GrW.gr _)))))))); refine wpQuiet_nil ?_; intro wz hz; obtain ⟨iz, hz⟩ := hz; obtain ⟨wn, gn⟩ := iz; dsimp only at hz; obtain rfl := hz.symm)
          clear hcb hcr y0 y1 y2 y3 z zb p0 p1 p2 p3 p4 p5 p6 p7 p8
          go_wp2_with fail
          go_roundw
          case rel => exact ⟨k + 1, by go_num, hlt, HV.out, g.trans gn⟩
          case measure => simp [intOf]; omega
        have hk1 : ¬ (k : Int) < (P.js.length : Int) := by omega
        obtain rfl : k = P.js.length := by omega
        obtain ⟨zb, p0, p1, p2, p3, p4, p5, p6, p7, p8⟩ := HB.out _ (GBK.out.trans g)
        go_wp2_with fail
        clear zb p0 p1 p2 p3 p4 p5 p6 p7 p8 hk hlt hk1
        go_loopw [5, 9] (fun o x wr => ∃ k : Nat, x = .int .i64 k ∧ k ≤ P.ss.length ∧ o = .string (preT P (1 + P.es.length + P.js.length + k)) ∧ Gr wk wr) (fun _ x _ => P.ss.length - (intOf x).toNat)
        case atStart => exact ⟨0, rfl, Nat.zero_le _, rfl, g⟩
        case round =>
          clear g
          obtain ⟨k, rfl, hk, rfl, g⟩ := hrel
          by_cases hlt : k < P.ss.length
          · have hk1 : (k : Int) < (P.ss.length : Int) := by omega
            obtain ⟨bb, o, hs, z, y0, y1, y2, y3⟩ := IsSgs.at (H3.out.gr (GWK.out.trans g)) k hlt
            subst hs
            obtain ⟨zb, p0, p1, p2, p3, p4, p5, p6, p7, p8⟩ := HB.out _ (GBK.out.trans g)
            have hwe := wordsG_word HKP.out (List.getElem_mem hlt)
            have hU := preT_succ (rowsT_s (P := P) hlt)
            have hzU := hsz.out (1 + P.es.length + P.js.length + k)
            generalize P.ss[k] = x at y0 y1 y2 y3 hwe hU
            have hza := (hwe (toldT P x.at_) (by simp [wordsG])).2
            have hzn := (hwe x.n (by simp [wordsG])).2
            have HTA := Lib.hid (HTD.out x.at_)
            have hwj : wordsG P x = [bSignal, x.n, toldT P x.at_] ++ (if x.auto = true then [bAuto] else []) := rfl
            rw [hwj] at hU
            obtain ⟨nm, ⟨ae, ax⟩, au⟩ := x
            dsimp only at y0 y1 y2 y3 HTA hU hza hzn
            generalize toldT P ⟨ae, ax⟩ = ta at HTA hU hza
            generalize preT P (1 + P.es.length + P.js.length + k) = U at hU hzU ⊢
            have HGW := Lib.hid (GWK.out.trans g)
            clear hwj hwe
            cases au
            · have HV : Hid (Value.string (U ++ ⟨#[115, 105, 103, 110, 97, 108, 32]⟩ ++ nm ++ ⟨#[32]⟩ ++ ta ++ ⟨#[10]⟩) = Value.string (preT P (1 + P.es.length + P.js.length + (k + 1)))) := congrArg Value.string ((txt_e3 U bSignal _ nm ta rfl).trans hU.symm)
              clear hU
              go_upto_region 22 with fail
              have hcb := fun (i : GrW wr) (o : Nat) => GrW.cell zb i o
              have hcr := fun (i : GrW wr) (o : Nat) => GrW.cell z i o
              (refine wp_region_gr (by kernel_rfl) (by kernel_rfl) ?_; (repeat (go_big_quiet_step ((go_at_call 34; (with_reducible exact Calls.gr_of (HTA.out _ (HGW.out.trans (GrW.gr _)))))))); refine wpQuiet_nil ?_; intro wz hz; obtain ⟨iz, hz⟩ := hz; obtain ⟨wn, gn⟩ := iz; dsimp only at hz; obtain rfl := hz.symm)
              have y3' := (gn.cell _ _ z).trans y3
              have zn' := Nat.lt_of_lt_of_le z gn.size
              clear hcb hcr y0 y1 y2 y3 z zb p0 p1 p2 p3 p4 p5 p6 p7 p8
              obtain ⟨zb, p0, p1, p2, p3, p4, p5, p6, p7, p8⟩ := HB.out _ (GBK.out.trans (g.trans gn))
              go_wp2_with fail
              go_roundw
              case rel => exact ⟨k + 1, by go_num, hlt, HV.out, g.trans gn⟩
              case measure => simp [intOf]; omega
            · have HV : Hid (Value.string (U ++ ⟨#[115, 105, 103, 110, 97, 108, 32]⟩ ++ nm ++ ⟨#[32]⟩ ++ ta ++ ⟨#[32, 97, 117, 116, 111]⟩ ++ ⟨#[10]⟩) = Value.string (preT P (1 + P.es.length + P.js.length + (k + 1)))) := congrArg Value.string ((txt_e4 U bSignal _ nm ta bAuto _ rfl rfl).trans hU.symm)
              clear hU
              go_upto_region 22 with fail
              have hcb := fun (i : GrW wr) (o : Nat) => GrW.cell zb i o
              have hcr := fun (i : GrW wr) (o : Nat) => GrW.cell z i o
              (refine wp_region_gr (by kernel_rfl) (by kernel_rfl) ?_; (repeat (go_big_quiet_step ((go_at_call 34; (with_reducible exact Calls.gr_of (HTA.out _ (HGW.out.trans (GrW.gr _)))))))); refine wpQuiet_nil ?_; intro wz hz; obtain ⟨iz, hz⟩ := hz; obtain ⟨wn, gn⟩ := iz; dsimp only at hz; obtain rfl := hz.symm)
              have y3' := (gn.cell _ _ z).trans y3
              have zn' := Nat.lt_of_lt_of_le z gn.size
              clear hcb hcr y0 y1 y2 y3 z zb p0 p1 p2 p3 p4 p5 p6 p7 p8
              obtain ⟨zb, p0, p1, p2, p3, p4, p5, p6, p7, p8⟩ := HB.out _ (GBK.out.trans (g.trans gn))
              go_wp2_with fail
              go_roundw
              case rel => exact ⟨k + 1, by go_num, hlt, HV.out, g.trans gn⟩
              case measure => simp [intOf]; omega
          have hk1 : ¬ (k : Int) < (P.ss.length : Int) := by omega
          obtain rfl : k = P.ss.length := by omega
          obtain ⟨zb, p0, p1, p2, p3, p4, p5, p6, p7, p8⟩ := HB.out _ (GBK.out.trans g)
          go_wp2_with fail
          clear zb p0 p1 p2 p3 p4 p5 p6 p7 p8 hk hlt hk1
          go_loopw [5, 10] (fun o x wr => ∃ k : Nat, x = .int .i64 k ∧ k ≤ P.ls.length ∧ o = .string (preT P (1 + P.es.length + P.js.length + P.ss.length + k)) ∧ Gr wk wr) (fun _ x _ => P.ls.length - (intOf x).toNat)
          case atStart => exact ⟨0, rfl, Nat.zero_le _, rfl, g⟩
          case round =>
            clear g
            obtain ⟨k, rfl, hk, rfl, g⟩ := hrel
            by_cases hlt : k < P.ls.length
            · have hk1 : (k : Int) < (P.ls.length : Int) := by omega
              obtain ⟨bb, o, us, hs, z, y0, y1, hvu⟩ := IsLns.at (H4.out.gr (GWK.out.trans g)) k hlt
              subst hs
              obtain ⟨zb, p0, p1, p2, p3, p4, p5, p6, p7, p8⟩ := HB.out _ (GBK.out.trans g)
              have hlp := line_parts HKP.out (List.getElem_mem hlt)
              have hU := preT_succ (rowsT_l (P := P) hlt)
              have hzU := hsz.out (1 + P.es.length + P.js.length + P.ss.length + k)
              generalize P.ls[k] = x at y0 y1 hvu hU hlp
              obtain ⟨nm, es⟩ := x
              obtain ⟨hnm, -, h40, hbd⟩ := hlp
              have hzn := nm_size hnm
              have hwj : wordsN P ⟨nm, es⟩ = bLine :: nm :: es.map (fun e => (P.es.getD e.toNat default).n) := rfl
              rw [hwj] at hU
              dsimp only at y0 y1 hvu h40 hbd hzn
              have HBD := Lib.hid hbd
              have HVU := Lib.hid hvu
              obtain ⟨ua, uc, rfl, -, -⟩ := hvu
              rw [List.length_map] at HVU y1
              generalize preT P (1 + P.es.length + P.js.length + P.ss.length + k) = U at hU hzU ⊢
              have HU := Lib.hid hU
              have hst : U ++ ⟨#[108, 105, 110, 101, 32]⟩ ++ nm = U ++ jnW (bLine :: nm :: (es.take 0).map (fun e => (P.es.getD e.toNat default).n)) := by
                rw [List.take_zero, List.map_nil, jnW_cons, jnW_lone, show (⟨#[108, 105, 110, 101, 32]⟩ : ByteArray) = bLine ++ ⟨#[32]⟩ from rfl]
                simp only [ba_assoc]
              have HST := Lib.hid hst
              have hst0 : (U ++ ⟨#[108, 105, 110, 101, 32]⟩ ++ nm).size ≤ 20000 + 1000 * 0 := by
                have h5 : (⟨#[108, 105, 110, 101, 32]⟩ : ByteArray).size = 5 := rfl
                simp only [size_app, h5]
                omega
              have HST0 := Lib.hid hst0
              clear hU hwj hnm hbd hst hst0
              go_upto_region 30 with fail
              go_wp2_with fail
              clear zb p0 p1 p2 p3 p4 p5 p6 p7 p8
              go_loopw [5, 11] (fun ov x wi => ∃ (j : Nat) (V : ByteArray), x = .int .i64 j ∧ j ≤ es.length ∧ ov = .string V ∧ V = U ++ jnW (bLine :: nm :: (es.take j).map (fun e => (P.es.getD e.toNat default).n)) ∧ V.size ≤ 20000 + 1000 * j ∧ Gr wr wi) (fun _ x _ => es.length - (intOf x).toNat)
              case atStart => exact ⟨0, _, rfl, Nat.zero_le _, rfl, HST.out, HST0.out, Gr.refl _⟩
              case round =>
                obtain ⟨j, V, rfl, hj, rfl, hV, hzV, gi⟩ := hrel
                have HVV := Lib.hid hV
                clear hV
                have y1i := (gi.cell _ _ z).trans y1
                have zi := Nat.lt_of_lt_of_le z gi.size
                by_cases hlj : j < es.length
                · have hj1 : (j : Int) < (es.length : Int) := by omega
                  obtain ⟨b3, o3, hs3, z3, u0⟩ := ints_at (HVU.out.gr gi) j hlj
                  subst hs3
                  obtain ⟨q0, q1⟩ := HBD.out _ (List.getElem_mem hlj)
                  have hM : (bLine :: nm :: (es.take (j + 1)).map (fun e => (P.es.getD e.toNat default).n) = (bLine :: nm :: (es.take j).map (fun e => (P.es.getD e.toNat default).n)) ++ [(P.es.getD (es[j]).toNat default).n]) := by
                    rw [List.take_succ_eq_append_getElem hlj, List.map_append]; rfl
                  generalize es[j] = ev at u0 q0 q1 hM
                  obtain ⟨m, rfl⟩ := Int.eq_ofNat_of_zero_le q0
                  have hm : m < P.es.length := by omega
                  obtain ⟨b5, o5, hs5, z5, t0, -, -⟩ := IsEles.at (H1.out.gr (GWK.out.trans (g.trans gi))) m hm
                  subst hs5
                  have hzm := nm_size (fine_ele HKP.out _ (List.getElem_mem hm)).1
                  rw [Int.toNat_natCast, getD_at _ _ hm] at hM
                  generalize P.es[m].n = en at t0 hM hzm
                  have hnx : V ++ ⟨#[32]⟩ ++ en = U ++ jnW (bLine :: nm :: (es.take (j + 1)).map (fun e => (P.es.getD e.toNat default).n)) := by
                    rw [hM, jnW_snoc _ _ (by simp), HVV.out]
                    simp only [ba_assoc]
                  have hnz : (V ++ ⟨#[32]⟩ ++ en).size ≤ 20000 + 1000 * (j + 1) := by
                    have h1 : (⟨#[32]⟩ : ByteArray).size = 1 := rfl
                    simp only [size_app, h1]
                    omega
                  have HNX := Lib.hid hnx
                  have HNZ := Lib.hid hnz
                  clear hM hnx hnz
                  obtain ⟨zb, p0, p1, p2, p3, p4, p5, p6, p7, p8⟩ := HB.out _ (GBK.out.trans (g.trans gi))
                  go_upto_region 33 with fail
                  have hcb := fun (i : GrW wr) (o : Nat) => GrW.cell zb i o
                  have hcr := fun (i : GrW wr) (o : Nat) => GrW.cell zi i o
                  have hcu := fun (i : GrW wr) (o : Nat) => GrW.cell z3 i o
                  have hce := fun (i : GrW wr) (o : Nat) => GrW.cell z5 i o
                  (refine wp_region_gr (by kernel_rfl) (by kernel_rfl) ?_; (repeat (go_big_quiet_step (fail))); refine wpQuiet_nil ?_; intro wz hz; obtain ⟨iz, hz⟩ := hz; obtain ⟨wn, gn⟩ := iz; dsimp only at hz; obtain rfl := hz.symm)
                  clear hcb hcr hcu hce y1i zi u0 z3 t0 z5 zb p0 p1 p2 p3 p4 p5 p6 p7 p8
                  go_wp2_with fail
                  go_roundw
                  case rel => exact ⟨j + 1, _, by go_num, hlj, rfl, HNX.out, HNZ.out, gi.trans gn⟩
                  case measure => simp [intOf]; omega
                · have hj1 : ¬ (j : Int) < (es.length : Int) := by omega
                  obtain rfl : j = es.length := by omega
                  have HVL : Hid (Value.string (V ++ ⟨#[10]⟩) = Value.string (preT P (1 + P.es.length + P.js.length + P.ss.length + (k + 1)))) := congrArg Value.string (by
                    rw [HVV.out, List.take_length]
                    exact (ba_assoc _ _ _).trans HU.out.symm)
                  obtain ⟨zb, p0, p1, p2, p3, p4, p5, p6, p7, p8⟩ := HB.out _ (GBK.out.trans (g.trans gi))
                  go_wp2_with fail
                  go_roundw
                  case rel => exact ⟨k + 1, by go_num, hlt, HVL.out, g.trans gi⟩
                  case measure => simp [intOf]; omega
            have hk1 : ¬ (k : Int) < (P.ls.length : Int) := by omega
            obtain rfl : k = P.ls.length := by omega
            obtain ⟨zb, p0, p1, p2, p3, p4, p5, p6, p7, p8⟩ := HB.out _ (GBK.out.trans g)
            have HAL := Lib.hid (preT_all P)
            go_wp2_with fail
            go_ret2
            exact ⟨(show Ending.returned (.tuple #[.string (preT P (1 + P.es.length + P.js.length + P.ss.length + P.ls.length)), .int .i64 0]) = .returned (.tuple #[.string (printT P), .int .i64 0]) from by rw [HAL.out]), GWK.out.trans g⟩
end Go.Proofs.YtjblplflgiibdaaGreatDoor
