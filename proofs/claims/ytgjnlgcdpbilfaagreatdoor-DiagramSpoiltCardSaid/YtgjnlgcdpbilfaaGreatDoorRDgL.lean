/- The reference's PrintDiagram (printed by gen_dgl.py). -/
import Derived.Test.YtgjnlgcdpbilfaaGreatDoorRows
import Derived.Test.YtgjnlgcdpbilfaaGreatDoorB17
import Derived.Test.YtgjnlgcdpbilfaaGreatDoorB18
import Derived.Deep.RegionHeld3
import Derived.Deep.RegionWith
import Derived.Deep.DrawnRows
import Derived.BigRegion
import Derived.Deep.Cut
import Derived.Deep.CutRange
namespace Go.Proofs.YtgjnlgcdpbilfaaGreatDoor
attribute [local go_sem ↓] Go.wp_at_zero Go.wp_at_succ
open Go.ChangeShapes Go.WideShapes Go.ChangeAt Go.RowKit Go.Maps
set_option linter.unusedVariables false
set_option linter.unusedSimpArgs false
theorem wpAnyH_monoS {P : Program} {ops : Array Oper} {Q : Exit → Act → World → Prop} {md : Region.Mode} {S1 S2 : World → Prop} (hS : ∀ w, S2 w → S1 w) : ∀ (fuel : Nat) (listed : Array Bool) (a : Act) (w : World), wpAnyH P md ops Q S2 fuel listed a w → wpAnyH P md ops Q S1 fuel listed a w
  | 0, _, _, _, h => h
  | fuel + 1, _, _, _, h => ⟨h.1, fun i hi => wpOp_mono (fun a' w' h' => ⟨hS _ h'.1, wpAnyH_monoS hS fuel _ a' w' h'.2⟩) (h.2 i hi)⟩
theorem train_text2 (U nm sn gn dg : ByteArray) : U ++ (⟨#[116, 114, 97, 105, 110, 32]⟩ : ByteArray) ++ nm ++ ⟨#[32]⟩ ++ sn ++ ⟨#[32]⟩ ++ gn ++ ⟨#[32]⟩ ++ dg ++ ⟨#[10]⟩ = U ++ (jnW [bTrain, nm, sn, gn, dg] ++ ⟨#[10]⟩) := by
  rw [← train_text]
  apply ByteArray.ext
  simp [ByteArray.data_append]
theorem day_text2 (ck : ByteArray) : (⟨#[100, 97, 121, 32]⟩ : ByteArray) ++ ck ++ ⟨#[10]⟩ = unl [jnW [bDay, ck]] := by
  show _ = jnW [bDay, ck] ++ ⟨#[10]⟩ ++ ⟨#[]⟩
  rw [jnW_cons, jnW_one]
  apply ByteArray.ext
  simp [ByteArray.data_append, bDay]
def preS (D : Dgm) (k : Nat) : List ByteArray := jnW [bDay, clkT D.beg] :: (D.st.take k).map lineS
theorem preS_next {D : Dgm} {k : Nat} (hk : k < D.st.length) : preS D (k + 1) = preS D k ++ [lineS D.st[k]] := by
  unfold preS
  rw [List.take_succ_eq_append_getElem hk, List.map_append]
  simp
theorem preS_done {P : Pln} {D : Dgm} {k : Nat} (hk : D.st.length ≤ k) : preS D k = preR P D 0 := by
  rw [preR_start]
  unfold preS
  rw [List.take_of_length_le hk]
theorem preS_size {D : Dgm} (h : ∀ s ∈ D.st, mayS s = true) (h4 : D.st.length ≤ 4) (k : Nat) : (unl (preS D k)).size ≤ 1000 := by
  have hl : (preS D k).length ≤ 5 := by unfold preS; simp; omega
  have := unl_size (preS D k) 40 (fun x hx => by
    unfold preS at hx
    rcases List.mem_cons.1 hx with rfl | hx
    · have h1 := clkT_size D.beg
      have := jnW_size [bDay, clkT D.beg] (fun x hx => by
        simp only [List.mem_cons, List.not_mem_nil, or_false] at hx
        rcases hx with rfl | rfl
        · decide
        · omega)
      simp only [List.length_cons, List.length_nil] at this
      omega
    · obtain ⟨s, hs, rfl⟩ := List.mem_map.1 hx
      exact lineS_size (h s (List.mem_of_mem_take hs)))
  omega
theorem leg_textGo (V ck nn : ByteArray) : V ++ (⟨#[103, 111, 32]⟩ : ByteArray) ++ ck ++ ⟨#[32]⟩ ++ nn ++ ⟨#[10]⟩ = V ++ (jnW [bGo, ck, nn] ++ ⟨#[10]⟩) := by
  rw [jnW_cons, jnW_cons, jnW_one]
  apply ByteArray.ext
  simp [ByteArray.data_append, bGo]
theorem leg_textGoT (V ck nn : ByteArray) : V ++ (⟨#[116, 117, 114, 110, 32]⟩ : ByteArray) ++ (⟨#[103, 111, 32]⟩ : ByteArray) ++ ck ++ ⟨#[32]⟩ ++ nn ++ ⟨#[10]⟩ = V ++ (jnW [bTurn, bGo, ck, nn] ++ ⟨#[10]⟩) := by
  rw [leg_textGo, jnW_cons bTurn]
  apply ByteArray.ext
  simp [ByteArray.data_append, bTurn]
theorem leg_textGate (V ck nn : ByteArray) : V ++ (⟨#[103, 97, 116, 101, 32]⟩ : ByteArray) ++ ck ++ ⟨#[32]⟩ ++ nn ++ ⟨#[10]⟩ = V ++ (jnW [bGate, ck, nn] ++ ⟨#[10]⟩) := by
  rw [jnW_cons, jnW_cons, jnW_one]
  apply ByteArray.ext
  simp [ByteArray.data_append, bGate]
theorem leg_textGateT (V ck nn : ByteArray) : V ++ (⟨#[116, 117, 114, 110, 32]⟩ : ByteArray) ++ (⟨#[103, 97, 116, 101, 32]⟩ : ByteArray) ++ ck ++ ⟨#[32]⟩ ++ nn ++ ⟨#[10]⟩ = V ++ (jnW [bTurn, bGate, ck, nn] ++ ⟨#[10]⟩) := by
  rw [leg_textGate, jnW_cons bTurn]
  apply ByteArray.ext
  simp [ByteArray.data_append, bTurn]
theorem leg_textBuf (V ck nn : ByteArray) : V ++ (⟨#[98, 117, 102, 102, 101, 114, 32]⟩ : ByteArray) ++ ck ++ ⟨#[32]⟩ ++ nn ++ ⟨#[10]⟩ = V ++ (jnW [bBuffer, ck, nn] ++ ⟨#[10]⟩) := by
  rw [jnW_cons, jnW_cons, jnW_one]
  apply ByteArray.ext
  simp [ByteArray.data_append, bBuffer]
theorem leg_textBufT (V ck nn : ByteArray) : V ++ (⟨#[116, 117, 114, 110, 32]⟩ : ByteArray) ++ (⟨#[98, 117, 102, 102, 101, 114, 32]⟩ : ByteArray) ++ ck ++ ⟨#[32]⟩ ++ nn ++ ⟨#[10]⟩ = V ++ (jnW [bTurn, bBuffer, ck, nn] ++ ⟨#[10]⟩) := by
  rw [leg_textBuf, jnW_cons bTurn]
  apply ByteArray.ext
  simp [ByteArray.data_append, bTurn]
set_option maxRecDepth 100000 in
set_option maxHeartbeats 4000000 in
theorem refPrintD_any (pv v : Value) (P : Pln) (D : Dgm) (w : World) (hP : IsPln w pv P) (hk : chk P = 0) (hD : IsDgm w v D) (hok : ∀ s ∈ D.st, s.nm.size ≤ maxLen) (hr : ∀ r ∈ D.runs, r.nm.size ≤ maxLen) :
    Calls Tryz.prog 19 #[pv, v] w fun e w' => e = .returned (.tuple #[.string (if chkD P D = 0 then printD P D else ⟨#[]⟩), .int .i64 (chkD P D)]) ∧ Gr w w' := by
  have HCK := Lib.hid (fun (w' : World) (g : Gr w w') => refCheckD_any _ _ P D w' (hP.gr g) (hD.gr g) hok hr)
  have HPI := Lib.hid hP
  obtain ⟨a1, c1, a2, c2, a3, c3, a4, c4, rfl, h1e, -, h3, -⟩ := hP
  have hm3 := IsRow.len h3
  have hm1 := IsRow.len h1e
  have HEL := Lib.hid h1e
  obtain ⟨s1, k1, s2, k2, rfl, hS, hR⟩ := hD
  have HST := Lib.hid hS
  have HRN := Lib.hid hR
  have HSG := Lib.hid h3
  have hm : D.runs.length ≤ maxLen := by obtain ⟨_, _, _, h, _⟩ := hR.form; exact h
  have hms : D.st.length ≤ maxLen := by obtain ⟨_, _, _, h, _⟩ := hS.form; exact h
  have g0 : Gr w ((w.alloc (.cells #[.slice a1 P.es.length c1, .slice a2 P.js.length c2, .slice a3 P.ss.length c3, .slice a4 P.ls.length c4, .int .i64 P.top, .int .i64 P.brake, .int .i64 P.margin, .int .i64 P.throw, .bool P.hard] 27)).alloc (.cells #[.int .i64 D.beg, .slice s1 D.st.length k1, .slice s2 D.runs.length k2] 31)) := ((Gr.refl _).alloc _).alloc _
  have HB := Lib.hid (fun (w' : World) (g : Gr ((w.alloc (.cells #[.slice a1 P.es.length c1, .slice a2 P.js.length c2, .slice a3 P.ss.length c3, .slice a4 P.ls.length c4, .int .i64 P.top, .int .i64 P.brake, .int .i64 P.margin, .int .i64 P.throw, .bool P.hard] 27)).alloc (.cells #[.int .i64 D.beg, .slice s1 D.st.length k1, .slice s2 D.runs.length k2] 31)) w') => (PBox.new w P (.slice a1 P.es.length c1) (.slice a2 P.js.length c2) (.slice a3 P.ss.length c3) (.slice a4 P.ls.length c4)).gr (((Gr.refl _).alloc _).trans g))
  have HDX : Hid (∀ w', Gr ((w.alloc (.cells #[.slice a1 P.es.length c1, .slice a2 P.js.length c2, .slice a3 P.ss.length c3, .slice a4 P.ls.length c4, .int .i64 P.top, .int .i64 P.brake, .int .i64 P.margin, .int .i64 P.throw, .bool P.hard] 27)).alloc (.cells #[.int .i64 D.beg, .slice s1 D.st.length k1, .slice s2 D.runs.length k2] 31)) w' → w.heap.size + 1 < w'.heap.size ∧ w'.cell? ⟨w.heap.size + 1, 0, none⟩ = some (.int .i64 D.beg) ∧ w'.cell? ⟨w.heap.size + 1, 1, none⟩ = some (.slice s1 D.st.length k1) ∧ w'.cell? ⟨w.heap.size + 1, 2, none⟩ = some (.slice s2 D.runs.length k2)) := fun w' g => by
    have hz : w.heap.size + 1 < (((w.alloc (.cells #[.slice a1 P.es.length c1, .slice a2 P.js.length c2, .slice a3 P.ss.length c3, .slice a4 P.ls.length c4, .int .i64 P.top, .int .i64 P.brake, .int .i64 P.margin, .int .i64 P.throw, .bool P.hard] 27)).alloc (.cells #[.int .i64 D.beg, .slice s1 D.st.length k1, .slice s2 D.runs.length k2] 31))).heap.size := by simp
    exact ⟨Nat.lt_of_lt_of_le hz g.size, (g.cell _ _ hz).trans (by go_simp), (g.cell _ _ hz).trans (by go_simp), (g.cell _ _ hz).trans (by go_simp)⟩
  have HDG := Lib.hid (fun (n : Int) (h0 : 0 ≤ n) (h1 : n ≤ 9999) (w' : World) => refDigits_any n.natAbs n w' (Nat.le_refl _) (by omega) (by omega))
  have HOKS := Lib.hid (fun (h : chkD P D = 0) => chkD_ok h)
  have HSZ := Lib.hid (fun (h : chkD P D = 0) => printD_size hk h)
  unfold maxLen at hm hms hm3 hm1
  unfold plnV at HPI HCK
  unfold plnV dgmV
  unfold dgmV at HCK
  clear hok hr hS hR h3
  by_cases hE : chkD P D = 0
  rotate_left
  · rw [if_neg hE]
    generalize chkD P D = E at HCK hE ⊢
    have tE : (E != 0) = true := bneT hE
    clear hE HOKS HSZ
    go_enter Tryz.func19, Tryz.ntmps19
    go_wp2_with (first | (go_at_call 14; (with_reducible refine (HCK.out _ g0).mono ?_); rintro e w1 ⟨rfl, g1⟩; obtain ⟨zb, p0, p1, p2, p3, p4, p5, p6, p7, p8⟩ := HB.out _ g1; obtain ⟨zd, d0, d1, d2⟩ := HDX.out _ g1; have G1 := g0.trans g1) | fail)
    go_ret2
    exact ⟨rfl, G1⟩
  obtain ⟨x1, x2, x3, x4, x5, x6⟩ := HOKS.out hE
  have hsz := HSZ.out hE
  have HX2 := Lib.hid x2
  have HX5 := Lib.hid x5
  have hpl := check_plain x3
  obtain ⟨hs4, hmay, -⟩ := plain_ok hpl
  have HMY := Lib.hid hmay
  have hpsz := printS_size hmay
  have HCP : Hid (∀ w', Calls Tryz.prog 48 #[.int .i64 D.beg] w' fun e w'' => e = .returned (.string (clkT D.beg)) ∧ Gr w' w'') := fun w' => by
    have := refPrint_any D.beg w'
    rw [Int.emod_eq_of_lt x4.1 (by omega)] at this
    exact this
  have HS0 := Lib.hid (fun k => preS_size hmay hs4 k)
  have HSN := Lib.hid (fun (k : Nat) (hk : k < D.st.length) => preS_next hk)
  have HSD := Lib.hid (fun (k : Nat) (hk : D.st.length ≤ k) => preS_done (P := P) hk)
  have HP0 : Hid (unl (preS D 0) = unl [jnW [bDay, clkT D.beg]]) := rfl
  have HKR := Lib.hid (fun (k : Nat) => preR_pre (P := P) (D := D) k)
  have HKL := Lib.hid (fun (k j : Nat) (hk : k < D.runs.length) => preL_pre (P := P) (D := D) hk j)
  have HDN := Lib.hid (fun (k : Nat) (h : D.runs.length ≤ k) => preR_done (P := P) (D := D) h)
  have hcs := clkT_size D.beg
  have HNS := Lib.hid (fine_names hk).2.2.1
  have HNE := Lib.hid (fine_names hk).2.2.2
  have HSTK := Lib.hid x3
  have HCKP := Lib.hid hk
  rw [if_pos hE, hE]
  rw [hE] at HCK
  obtain ⟨Z, hZ⟩ : ∃ Z, Z = printD P D := ⟨_, rfl⟩
  rw [← hZ] at hsz HKR HKL ⊢
  have HZ := Lib.hid hZ
  have g1z : (⟨#[10]⟩ : ByteArray).size = 1 := rfl
  have tE : ((0 : Int) != 0) = false := rfl
  clear hE HOKS HSZ x1 x2 x3 x5 x6 hmay hpl hZ hk
  clear hpsz
  generalize hcc : clkT D.beg = cbeg at HCP HP0 hcs
  clear hcc
  go_enter Tryz.func19, Tryz.ntmps19
  go_wp2_with (first | (go_at_call 14; (with_reducible refine (HCK.out _ g0).mono ?_); rintro e w1 ⟨rfl, g1⟩; obtain ⟨zb, p0, p1, p2, p3, p4, p5, p6, p7, p8⟩ := HB.out _ g1; obtain ⟨zd, d0, d1, d2⟩ := HDX.out _ g1; have G1 := g0.trans g1) | (go_at_call 48; (with_reducible refine (HCP.out _).mono ?_); rintro e w3 ⟨rfl, g3⟩; obtain ⟨xd, f0, f1, f2⟩ := HDX.out _ (g1.trans g3); have G3 := G1.trans g3) | fail)
  clear HCK HCP d0 d1 d2 f0 f1 f2 p0 p1 p2 p3 p4 p5 p6 p7 p8
  go_loopw [7, 28] (fun x y wr => ∃ k : Nat, x = .string (unl (preS D k)) ∧ y = .int .i64 k ∧ k ≤ D.st.length ∧ Gr ((w.alloc (.cells #[.slice a1 P.es.length c1, .slice a2 P.js.length c2, .slice a3 P.ss.length c3, .slice a4 P.ls.length c4, .int .i64 P.top, .int .i64 P.brake, .int .i64 P.margin, .int .i64 P.throw, .bool P.hard] 27)).alloc (.cells #[.int .i64 D.beg, .slice s1 D.st.length k1, .slice s2 D.runs.length k2] 31)) wr) (fun _ y _ => D.st.length - (intOf y).toNat)
  case atStart => exact ⟨0, by rw [HP0.out, ← day_text2], rfl, Nat.zero_le _, g1.trans g3⟩
  case round =>
    clear HP0 hcs zb zd xd
    obtain ⟨k, rfl, rfl, hk, g⟩ := hrel
    have gw := g0.trans g
    have hS0 := HS0.out k
    by_cases hlt : k < D.st.length
    · have hk1 : (k : Int) < (D.st.length : Int) := by omega
      obtain ⟨bb, o, hs, z, y0, y1, y2, y3, y4⟩ := (HST.out.gr gw).at k hlt
      subst hs
      have hmk := HMY.out _ (List.getElem_mem hlt)
      have hls := lineS_size hmk
      have HLN := Lib.hid (fun (w' : World) => refLine_any D.st[k].nm D.st[k].l D.st[k].t D.st[k].a D.st[k].b w' hmk)
      have HN := Lib.hid (HSN.out k hlt)
      have es : D.st[k] = ⟨D.st[k].nm, D.st[k].l, D.st[k].t, D.st[k].a, D.st[k].b⟩ := rfl
      rw [← es] at HLN
      clear es hmk
      generalize lineS D.st[k] = d at HLN HN hls
      generalize hU : unl (preS D k) = U at hS0 ⊢
      have HU := Lib.hid hU
      generalize hL0 : D.st[k] = s at y0 y1 y2 y3 y4 HLN
      clear hL0 hU
      obtain ⟨nm, l, t, a', b⟩ := s
      dsimp only at y0 y1 y2 y3 y4 HLN
      have q2 : ¬ 9223372036854775807 < U.size + (d.size + 1) := by omega
      go_wp2_with (first | (go_at_call 49; (with_reducible refine (HLN.out _).mono ?_); rintro e w5 ⟨rfl, g5⟩) | fail)
      go_roundw
      case rel => exact ⟨k + 1, by rw [HN.out, unl_snoc, HU.out], by go_num, hlt, (g.alloc _).trans g5⟩
      case measure => simp [intOf]; omega
    have hk1 : ¬ (k : Int) < (D.st.length : Int) := by omega
    have HP1 : Hid (unl (preS D k) = unl (preR P D 0)) := by show _ = _; rw [HSD.out k (by omega)]
    obtain ⟨zd, d0, d1, d2⟩ := HDX.out _ g
    generalize unl (preS D k) = U0 at hS0 HP1 ⊢
    have gS := g
    go_wp2_with fail
    clear d0 d1 d2 zd g gw hk hk1 hlt hS0
    go_loopw [7, 40] (fun x y wr => ∃ k : Nat, x = .string (unl (preR P D k)) ∧ y = .int .i64 k ∧ k ≤ D.runs.length ∧ Gr ((w.alloc (.cells #[.slice a1 P.es.length c1, .slice a2 P.js.length c2, .slice a3 P.ss.length c3, .slice a4 P.ls.length c4, .int .i64 P.top, .int .i64 P.brake, .int .i64 P.margin, .int .i64 P.throw, .bool P.hard] 27)).alloc (.cells #[.int .i64 D.beg, .slice s1 D.st.length k1, .slice s2 D.runs.length k2] 31)) wr) (fun _ y _ => D.runs.length - (intOf y).toNat)
    case atStart => exact ⟨0, by rw [HP1.out], rfl, Nat.zero_le _, gS⟩
    case round =>
      clear HP1 gS
      obtain ⟨k, rfl, rfl, hk, g⟩ := hrel
      have gw := g0.trans g
      have hS1 := HKR.out k
      by_cases hlt : k < D.runs.length
      · have hk1 : (k : Int) < (D.runs.length : Int) := by omega
        obtain ⟨bb, o, la, lc, hs, z, y0, y1, y2, y3, y4, hl⟩ := (HRN.out.gr gw).at k hlt
        subst hs
        obtain ⟨zd, d0, d1, d2⟩ := HDX.out _ g
        obtain ⟨zb, p0, p1, p2, p3, p4, p5, p6, p7, p8⟩ := HB.out _ g
        have hrun := HX5.out _ (List.getElem_mem hlt)
        obtain ⟨n1, n2, n3, n4, n5⟩ := run_parts hrun
        have HLP := Lib.hid (legs_parts (Int.le_refl 0) n5)
        have HLG := Lib.hid hl
        have hlm := HX2.out _ (List.getElem_mem hlt)
        have hS2 := Lib.hid (fun j => HKL.out k j hlt)
        have HPS := Lib.hid (preL_start P D k D.runs[k])
        have HPN := Lib.hid (fun (j : Nat) (hj : j < D.runs[k].legs.length) => preL_next (P := P) (D := D) (k := k) hj)
        have HPD := Lib.hid (fun (j : Nat) (hj : D.runs[k].legs.length ≤ j) => preL_done (P := P) hlt hj)
        have hnm := nm_size n1
        obtain ⟨i, hi⟩ := Int.eq_ofNat_of_zero_le n2.1
        obtain ⟨q, hq⟩ := Int.eq_ofNat_of_zero_le n3.1
        have hi2 : i < D.st.length := by omega
        have hq2 : q < P.ss.length := by omega
        have hwr : wordsR P D D.runs[k] = [bTrain, D.runs[k].nm, D.st[i].nm, P.ss[q].n, dgs D.runs[k].lf] := by
          unfold wordsR
          rw [hi, hq, Int.toNat_natCast, Int.toNat_natCast, getD_at _ _ hi2, getD_at _ _ hq2]
        have HWR := Lib.hid hwr
        have hsn := nm_size (mayS_parts (HMY.out _ (List.getElem_mem hi2))).1
        have hgn := nm_size (HNS.out _ (List.getElem_mem hq2))
        have hdg := dgs4_size (n := D.runs[k].lf) n4.1 (by omega)
        have HDGk := Lib.hid (HDG.out D.runs[k].lf n4.1 (by omega))
        obtain ⟨b5, o5, hs5, z5, u0, -⟩ := (HST.out.gr gw).at i hi2
        obtain ⟨b6, o6, hs6, z6, v0, -⟩ := (HSG.out.gr gw).at q hq2
        subst hs5 hs6
        have i1 : (i : Int) < (D.st.length : Int) := by omega
        have i2 : (q : Int) < (P.ss.length : Int) := by omega
        have i3 : (0 : Int) ≤ (i : Int) := by omega
        have i4 : (0 : Int) ≤ (q : Int) := by omega
        rw [hi] at y1
        rw [hq] at y2
        clear hl n1 n2 n3 n5 hi hq hwr hrun
        generalize hr0 : D.runs[k] = r at y0 y1 y2 y3 y4 HLG HLP hlm hS2 HPS HPN HPD HWR hnm hdg HDGk n4
        obtain ⟨nm, st, fr, lf, lg⟩ := r
        have HR0 := Lib.hid hr0
        clear hr0
        dsimp only at y0 y1 y2 y3 y4 HLG HLP hlm HPN HPD HWR hnm hdg HDGk n4
        generalize D.st[i].nm = sn at u0 HWR hsn
        generalize P.ss[q].n = gn at v0 HWR hgn
        generalize dgs lf = dg at HDGk HWR hdg
        generalize hU : unl (preR P D k) = U at hS1 ⊢
        have HU := Lib.hid hU
        have gA : Gr wr (wr.alloc (.cells #[.string nm, .int .i64 (i : Int), .int .i64 (q : Int), .int .i64 lf, .slice la lg.length lc] 51)) := (Gr.refl _).alloc _
        clear hU
        have zr : wr.heap.size < (wr.alloc (.cells #[.string nm, .int .i64 (i : Int), .int .i64 (q : Int), .int .i64 lf, .slice la lg.length lc] 51)).heap.size := by simp
        have t0 : (wr.alloc (.cells #[.string nm, .int .i64 (i : Int), .int .i64 (q : Int), .int .i64 lf, .slice la lg.length lc] 51)).cell? ⟨wr.heap.size, 0, none⟩ = some (.string nm) := by rw [World.cell?_alloc_mark]; rfl
        have t1 : (wr.alloc (.cells #[.string nm, .int .i64 (i : Int), .int .i64 (q : Int), .int .i64 lf, .slice la lg.length lc] 51)).cell? ⟨wr.heap.size, 1, none⟩ = some (.int .i64 (i : Int)) := by rw [World.cell?_alloc_mark]; rfl
        have t2 : (wr.alloc (.cells #[.string nm, .int .i64 (i : Int), .int .i64 (q : Int), .int .i64 lf, .slice la lg.length lc] 51)).cell? ⟨wr.heap.size, 2, none⟩ = some (.int .i64 (q : Int)) := by rw [World.cell?_alloc_mark]; rfl
        have t3 : (wr.alloc (.cells #[.string nm, .int .i64 (i : Int), .int .i64 (q : Int), .int .i64 lf, .slice la lg.length lc] 51)).cell? ⟨wr.heap.size, 3, none⟩ = some (.int .i64 lf) := by rw [World.cell?_alloc_mark]; rfl
        have t4 : (wr.alloc (.cells #[.string nm, .int .i64 (i : Int), .int .i64 (q : Int), .int .i64 lf, .slice la lg.length lc] 51)).cell? ⟨wr.heap.size, 4, none⟩ = some (.slice la lg.length lc) := by rw [World.cell?_alloc_mark]; rfl
        go_upto_region 13 with fail
        have zb5 := Nat.lt_of_lt_of_le zb gA.size
        have zd5 := Nat.lt_of_lt_of_le zd gA.size
        have z55 := Nat.lt_of_lt_of_le z5 gA.size
        have z66 := Nat.lt_of_lt_of_le z6 gA.size
        replace u0 := (gA.cell _ _ z5).trans u0
        replace v0 := (gA.cell _ _ z6).trans v0
        replace d1 := (gA.cell _ _ zd).trans d1
        replace p2 := (gA.cell _ _ zb).trans p2
        have gw5 := gw.trans gA
        have g5 := g.trans gA
        clear y0 y1 y2 y3 y4 p0 p1 p3 p4 p5 p6 p7 p8 d0 d2
        generalize wr.alloc (.cells #[.string nm, .int .i64 (i : Int), .int .i64 (q : Int), .int .i64 lf, .slice la lg.length lc] 51) = w5 at *
        have hc1 := fun (i : GrW w5) (o : Nat) => GrW.cell zr i o
        have hc2 := fun (i : GrW w5) (o : Nat) => GrW.cell zb5 i o
        have hc3 := fun (i : GrW w5) (o : Nat) => GrW.cell zd5 i o
        have hc4 := fun (i : GrW w5) (o : Nat) => GrW.cell z55 i o
        have hc5 := fun (i : GrW w5) (o : Nat) => GrW.cell z66 i o
        (refine wp_region_gr (by kernel_rfl) (by kernel_rfl) ?_; (repeat (go_big_quiet_step ((go_at_call 50; exact Calls.gr_of (HDGk.out _))))); refine wpQuiet_nil ?_; intro wz hz; obtain ⟨iz, hz⟩ := hz; obtain ⟨wn, gn⟩ := iz; dsimp only at hz; obtain rfl := hz.symm)
        clear hc1 hc2 hc3 hc4 hc5 u0 v0 d1 p2 zb zd z5 z6 z55 z66
        replace t4 := (gn.cell _ _ zr).trans t4
        have zrn := Nat.lt_of_lt_of_le zr gn.size
        have gwn := gw5.trans gn
        have g5n := g5.trans gn
        have gAn := gA.trans gn
        go_wp2_with fail
        clear t0 t1 t2 t3 t4
        go_loopw [7, 76] (fun x y wi => ∃ j : Nat, x = .string (unl (preL P D k j ⟨nm, st, fr, lf, lg⟩)) ∧ y = .int .i64 j ∧ j ≤ lg.length ∧ Gr wn wi) (fun _ y _ => lg.length - (intOf y).toNat)
        case atStart => exact ⟨0, by rw [HPS.out, unl_snoc, HU.out, HWR.out, ← train_text2], rfl, Nat.zero_le _, Gr.refl _⟩
        case round =>
          obtain ⟨j, rfl, rfl, hj, gi⟩ := hrel
          have hSj := hS2.out j
          have GW := gwn.trans gi
          obtain ⟨zd, d0, d1, d2⟩ := HDX.out _ (g5n.trans gi)
          obtain ⟨zb, p0, p1, p2, p3, p4, p5, p6, p7, p8⟩ := HB.out _ (g5n.trans gi)
          by_cases hlj : j < lg.length
          · have hj1 : (j : Int) < (lg.length : Int) := by omega
            obtain ⟨b3, o3, hs3, z3, y0, y1, y2, y3⟩ := (HLG.out.gr (gAn.trans gi)).at j hlj
            subst hs3
            have hlt2 := HLP.out _ (List.getElem_mem hlj)
            have HN1 := Lib.hid (HPN.out j hlj)
            have hws := wordsL_size (beg := D.beg) HCKP.out hlt2.1
            obtain ⟨m1, m2, m3, m4, m5⟩ := leg_to HCKP.out hlt2.1
            have hnn := nm_size m2
            have hat := hlt2.2
            have hlg : lg[j] = ⟨lg[j].turn, lg[j].at_, lg[j].en, lg[j].dst⟩ := rfl
            generalize hL5 : lg[j] = l at y0 y1 y2 y3 HN1 m1 m4 m5 hnn hat hws
            clear hL5 hlg hlt2 m2 m3
            obtain ⟨tn, at_, en, tt⟩ := l
            dsimp only at y0 y1 y2 y3 HN1 m1 m4 m5 hnn hat hws
            obtain ⟨x, rfl⟩ := Int.eq_ofNat_of_zero_le m4
            generalize hV : unl (preL P D k j ⟨nm, st, fr, lf, lg⟩) = V at hSj ⊢
            have HV := Lib.hid hV
            have tw : IntKind.i64.wrap (D.beg + at_) = D.beg + at_ := IntWalk.i64_in _ (by omega)
            have HCP2 := Lib.hid (fun w' => refPrint_any (D.beg + at_) w')
            have hck := clkT_size ((D.beg + at_) % 86400)
            clear hV m4
            have zb3 : w.heap.size < wr.heap.size + 1 := by have := (HDX.out _ g5n).1; omega
            cases tn
            · rcases m1 with rfl | rfl | rfl
              · rw [if_pos rfl] at m5
                have hx : x < P.ss.length := by omega
                obtain ⟨b7, o7, hs7, z7, v7, -⟩ := (HSG.out.gr (gwn.trans gi)).at x hx
                simp only [Option.some.injEq, Addr.mk.injEq, and_true] at hs7
                obtain ⟨rfl, rfl⟩ := hs7
                have hw : wordsL P D.beg ⟨false, at_, 1, x⟩ = [bGo, clkT ((D.beg + at_) % 86400), P.ss[x].n] := by
                  have e2 : nameTo P ⟨false, at_, 1, x⟩ = P.ss[x].n := by
                    show (P.ss.getD ((x : Int)).toNat default).n = _
                    rw [Int.toNat_natCast, getD_at _ _ hx]
                  unfold wordsL
                  rw [e2]; rfl
                have hn8 : P.ss[x].n.size ≤ 8 := nm_size (HNS.out _ (List.getElem_mem hx))
                rw [hw] at HN1
                clear hw hnn hws
                generalize P.ss[x].n = nn at v7 HN1 hn8
                generalize clkT ((D.beg + at_) % 86400) = cl at HCP2 HN1 hck
                have x0 : (0 : Int) ≤ (x : Int) := by omega
                have x1 : (x : Int) < (P.ss.length : Int) := by omega
                have gL : Gr wr (wr.alloc (.cells #[.bool false, .int .i64 at_, .int .i64 1, .int .i64 (x : Int)] 54)) := (Gr.refl _).alloc _
                have zL : wr.heap.size < (wr.alloc (.cells #[.bool false, .int .i64 at_, .int .i64 1, .int .i64 (x : Int)] 54)).heap.size := by simp
                have t1 : (wr.alloc (.cells #[.bool false, .int .i64 at_, .int .i64 1, .int .i64 (x : Int)] 54)).cell? ⟨wr.heap.size, 1, none⟩ = some (.int .i64 at_) := by rw [World.cell?_alloc_mark]; rfl
                have t2 : (wr.alloc (.cells #[.bool false, .int .i64 at_, .int .i64 1, .int .i64 (x : Int)] 54)).cell? ⟨wr.heap.size, 2, none⟩ = some (.int .i64 1) := by rw [World.cell?_alloc_mark]; rfl
                have t3 : (wr.alloc (.cells #[.bool false, .int .i64 at_, .int .i64 1, .int .i64 (x : Int)] 54)).cell? ⟨wr.heap.size, 3, none⟩ = some (.int .i64 (x : Int)) := by rw [World.cell?_alloc_mark]; rfl
                go_upto_region 19 with fail
                have zd6 := Nat.lt_of_lt_of_le zd gL.size
                have zb6 := Nat.lt_of_lt_of_le zb gL.size
                have z76 := Nat.lt_of_lt_of_le z7 gL.size
                replace d0 := (gL.cell _ _ zd).trans d0
                replace p0 := (gL.cell _ _ zb).trans p0
                replace p2 := (gL.cell _ _ zb).trans p2
                replace v7 := (gL.cell _ _ z7).trans v7
                have giL := gi.trans gL
                clear y0 y1 y2 y3 p1 p3 p4 p5 p6 p7 p8 d1 d2 z7 zd zb
                generalize wr.alloc (.cells #[.bool false, .int .i64 at_, .int .i64 1, .int .i64 (x : Int)] 54) = w6 at *
                have HX6 := Lib.hid (fun (w' : World) (g : Gr w6 w') => (⟨Nat.lt_of_lt_of_le zL g.size, (g.cell _ _ zL).trans t2, (g.cell _ _ zL).trans t3, Nat.lt_of_lt_of_le zb6 g.size, (g.cell _ _ zb6).trans p2, Nat.lt_of_lt_of_le z76 g.size, (g.cell _ _ z76).trans v7⟩ : wr.heap.size < w'.heap.size ∧ w'.cell? ⟨wr.heap.size, 2, none⟩ = some (.int .i64 1) ∧ w'.cell? ⟨wr.heap.size, 3, none⟩ = some (.int .i64 (x : Int)) ∧ w.heap.size < w'.heap.size ∧ w'.cell? ⟨w.heap.size, 2, none⟩ = _ ∧ _ < w'.heap.size ∧ w'.cell? _ = some (.string nn)))
                have q0 : ¬ 9223372036854775807 < V.size + 5 := by omega
                have qa : ¬ 9223372036854775807 < V.size + 3 := by omega
                have qb : ¬ 9223372036854775807 < V.size + 3 + cl.size := by omega
                have qc : ¬ 9223372036854775807 < V.size + 3 + cl.size + 1 := by omega
                go_cut [7] from 78 to 122 (fun s wc => s = .string (V ++ ⟨#[103, 111, 32]⟩ ++ cl ++ ⟨#[32]⟩) ∧ Gr w6 wc)
                case first =>
                  have HS := Lib.hid (fun (w' : World) (g : Gr w6 w') => (⟨g, Nat.lt_of_lt_of_le zL g.size, (g.cell _ _ zL).trans t1, (g.cell _ _ zL).trans t2, (g.cell _ _ zd6).trans d0⟩ : Gr w6 w' ∧ wr.heap.size < w'.heap.size ∧ w'.cell? ⟨wr.heap.size, 1, none⟩ = some (.int .i64 at_) ∧ w'.cell? ⟨wr.heap.size, 2, none⟩ = some (.int .i64 1) ∧ w'.cell? ⟨w.heap.size + 1, 0, none⟩ = some (.int .i64 D.beg)))
                  clear HX6 HN1 HV HPN HPD HCKP HDX HB HX5 HX2 HRN HST HSG HNS HKR HKL HDN HPI HZ HMY HLG HLP HU HPS HWR hS2 t3 p0 p2 v7 hck
                  refine wp_region_held_drew (S := fun w' => Gr w6 w' ∧ wr.heap.size < w'.heap.size ∧ w'.cell? ⟨wr.heap.size, 1, none⟩ = some (.int .i64 at_) ∧ w'.cell? ⟨wr.heap.size, 2, none⟩ = some (.int .i64 1) ∧ w'.cell? ⟨w.heap.size + 1, 0, none⟩ = some (.int .i64 D.beg)) (by kernel_rfl) (HS.out _ (Gr.refl _).drew) (fun hHeld => ?_)
                  (refine wpAnyH_take (i := 0) (v := ?_) rfl (by kernel_rfl) (by kernel_rfl) (by kernel_rfl) (fun _ _ _ h => h) (Or.inl ⟨by rfl, ?_⟩) (by assumption) ?_; rotate_left; (focus (intro w hSw; (try dsimp only at hSw); go_simp; try with_reducible rfl)); try simp only [Act.put, List.getElem_toArray, List.getElem_cons_zero, List.getElem_cons_succ, List.setIfInBounds_toArray, List.set_cons_zero, List.set_cons_succ])
                  (refine wpAnyH_take (i := 2) (v := ?_) rfl (by kernel_rfl) (by kernel_rfl) (by kernel_rfl) (fun _ _ _ h => h) (Or.inl ⟨by rfl, ?_⟩) (by assumption) ?_; rotate_left; (focus (intro w hSw; (try dsimp only at hSw); go_simp; try with_reducible rfl)); try simp only [Act.put, List.getElem_toArray, List.getElem_cons_zero, List.getElem_cons_succ, List.setIfInBounds_toArray, List.set_cons_zero, List.set_cons_succ])
                  (refine wpAnyH_take (i := 3) (v := ?_) rfl (by kernel_rfl) (by kernel_rfl) (by kernel_rfl) (fun _ _ _ h => h) (Or.inl ⟨by rfl, ?_⟩) (by assumption) ?_; rotate_left; (focus (intro w hSw; (try dsimp only at hSw); go_simp; try with_reducible rfl)); try simp only [Act.put, List.getElem_toArray, List.getElem_cons_zero, List.getElem_cons_succ, List.setIfInBounds_toArray, List.set_cons_zero, List.set_cons_succ])
                  (refine wpAnyH_take (i := 7) (v := ?_) rfl (by kernel_rfl) (by kernel_rfl) (by kernel_rfl) (fun _ _ _ h => h) (Or.inl ⟨by rfl, ?_⟩) (by assumption) ?_; rotate_left; (focus (intro w hSw; (try dsimp only at hSw); go_simp; try with_reducible rfl)); try simp only [Act.put, List.getElem_toArray, List.getElem_cons_zero, List.getElem_cons_succ, List.setIfInBounds_toArray, List.set_cons_zero, List.set_cons_succ])
                  (refine wpAnyH_take (i := 8) (v := ?_) rfl (by kernel_rfl) (by kernel_rfl) (by kernel_rfl) (fun _ _ _ h => h) (Or.inl ⟨by rfl, ?_⟩) (by assumption) ?_; rotate_left; (focus (intro w hSw; (try dsimp only at hSw); go_simp; try with_reducible rfl)); try simp only [Act.put, List.getElem_toArray, List.getElem_cons_zero, List.getElem_cons_succ, List.setIfInBounds_toArray, List.set_cons_zero, List.set_cons_succ])
                  (refine wpAnyH_take (i := 9) (v := ?_) rfl (by kernel_rfl) (by kernel_rfl) (by kernel_rfl) (fun _ _ _ h => h) (Or.inl ⟨by rfl, ?_⟩) (by assumption) ?_; rotate_left; (focus (intro w hSw; (try dsimp only at hSw); go_simp; try with_reducible rfl)); try simp only [Act.put, List.getElem_toArray, List.getElem_cons_zero, List.getElem_cons_succ, List.setIfInBounds_toArray, List.set_cons_zero, List.set_cons_succ])
                  (refine wpAnyH_take (i := 10) (v := ?_) rfl (by kernel_rfl) (by kernel_rfl) (by kernel_rfl) (fun _ _ _ h => h) (Or.inl ⟨by rfl, ?_⟩) (by assumption) ?_; rotate_left; (focus (intro w hSw; (try dsimp only at hSw); go_simp; try with_reducible rfl)); try simp only [Act.put, List.getElem_toArray, List.getElem_cons_zero, List.getElem_cons_succ, List.setIfInBounds_toArray, List.set_cons_zero, List.set_cons_succ])
                  (refine wpAnyH_take (i := 11) (v := ?_) rfl (by kernel_rfl) (by kernel_rfl) (by kernel_rfl) (fun _ _ _ h => h) (Or.inl ⟨by rfl, ?_⟩) (by assumption) ?_; rotate_left; (focus (intro w hSw; (try dsimp only at hSw); go_simp; try with_reducible rfl)); try simp only [Act.put, List.getElem_toArray, List.getElem_cons_zero, List.getElem_cons_succ, List.setIfInBounds_toArray, List.set_cons_zero, List.set_cons_succ])
                  refine wpAnyH_ready (rs := [1, 12]) (by kernel_rfl) (by simp) ?_
                  refine AllReadyH.cons rfl (fun K hK => ?_) (AllReadyH.cons rfl (fun K hK => ?_) AllReadyH.nil)
                  · go_simp
                    refine hK.out _ _ (HS.out _ ((Gr.refl _).alloc _).drew) (fun hHeld => ?_)
                    clear hK K
                    try simp only [Act.put, List.setIfInBounds_toArray, List.set_cons_zero, List.set_cons_succ]
                    refine wpAnyH_monoS (S2 := fun w' => (Gr w6 w' ∧ wr.heap.size < w'.heap.size ∧ w'.cell? ⟨wr.heap.size, 1, none⟩ = some (.int .i64 at_) ∧ w'.cell? ⟨wr.heap.size, 2, none⟩ = some (.int .i64 1) ∧ w'.cell? ⟨w.heap.size + 1, 0, none⟩ = some (.int .i64 D.beg)) ∧ w'.cell? ⟨w6.heap.size, 1, none⟩ = some (.string ⟨#[103, 111, 32]⟩)) (fun _ h => h.1) _ _ _ _ ?_
                    have hHeld2 : (Gr w6 ((w6.alloc (.cells #[.string ⟨#[]⟩, .string ⟨#[103, 111, 32]⟩, .string ⟨#[103, 97, 116, 101, 32]⟩, .string ⟨#[98, 117, 102, 102, 101, 114, 32]⟩] 9)).drew) ∧ wr.heap.size < ((w6.alloc (.cells #[.string ⟨#[]⟩, .string ⟨#[103, 111, 32]⟩, .string ⟨#[103, 97, 116, 101, 32]⟩, .string ⟨#[98, 117, 102, 102, 101, 114, 32]⟩] 9)).drew).heap.size ∧ ((w6.alloc (.cells #[.string ⟨#[]⟩, .string ⟨#[103, 111, 32]⟩, .string ⟨#[103, 97, 116, 101, 32]⟩, .string ⟨#[98, 117, 102, 102, 101, 114, 32]⟩] 9)).drew).cell? ⟨wr.heap.size, 1, none⟩ = some (.int .i64 at_) ∧ ((w6.alloc (.cells #[.string ⟨#[]⟩, .string ⟨#[103, 111, 32]⟩, .string ⟨#[103, 97, 116, 101, 32]⟩, .string ⟨#[98, 117, 102, 102, 101, 114, 32]⟩] 9)).drew).cell? ⟨wr.heap.size, 2, none⟩ = some (.int .i64 1) ∧ ((w6.alloc (.cells #[.string ⟨#[]⟩, .string ⟨#[103, 111, 32]⟩, .string ⟨#[103, 97, 116, 101, 32]⟩, .string ⟨#[98, 117, 102, 102, 101, 114, 32]⟩] 9)).drew).cell? ⟨w.heap.size + 1, 0, none⟩ = some (.int .i64 D.beg)) ∧ ((w6.alloc (.cells #[.string ⟨#[]⟩, .string ⟨#[103, 111, 32]⟩, .string ⟨#[103, 97, 116, 101, 32]⟩, .string ⟨#[98, 117, 102, 102, 101, 114, 32]⟩] 9)).drew).cell? ⟨w6.heap.size, 1, none⟩ = some (.string ⟨#[103, 111, 32]⟩) := ⟨hHeld, by simp⟩
                    clear hHeld
                    (refine wpAnyH_take (i := 4) (v := ?_) rfl (by kernel_rfl) (by kernel_rfl) (by kernel_rfl) (fun _ _ _ h => h) (Or.inl ⟨by rfl, ?_⟩) (by assumption) ?_; rotate_left; (focus (intro w hSw; (try dsimp only at hSw); go_simp; try with_reducible rfl)); try simp only [Act.put, List.getElem_toArray, List.getElem_cons_zero, List.getElem_cons_succ, List.setIfInBounds_toArray, List.set_cons_zero, List.set_cons_succ])
                    (refine wpAnyH_take (i := 5) (v := ?_) rfl (by kernel_rfl) (by kernel_rfl) (by kernel_rfl) (fun _ _ _ h => h) (Or.inl ⟨by rfl, ?_⟩) (by assumption) ?_; rotate_left; (focus (intro w hSw; (try dsimp only at hSw); go_simp; try with_reducible rfl)); try simp only [Act.put, List.getElem_toArray, List.getElem_cons_zero, List.getElem_cons_succ, List.setIfInBounds_toArray, List.set_cons_zero, List.set_cons_succ])
                    (refine wpAnyH_take (i := 6) (v := ?_) rfl (by kernel_rfl) (by kernel_rfl) (by kernel_rfl) (fun _ _ _ h => h) (Or.inl ⟨by rfl, ?_⟩) (by assumption) ?_; rotate_left; (focus (intro w hSw; (try dsimp only at hSw); go_simp; try with_reducible rfl)); try simp only [Act.put, List.getElem_toArray, List.getElem_cons_zero, List.getElem_cons_succ, List.setIfInBounds_toArray, List.set_cons_zero, List.set_cons_succ])
                    refine wpAnyH_ready (rs := [12]) (by kernel_rfl) (by simp) ?_
                    refine AllReadyH.cons rfl (fun K hK => ?_) AllReadyH.nil
                    go_simp
                    go_at_call 48
                    (with_reducible refine (HCP2.out _).mono ?_)
                    rintro e w9 ⟨rfl, h9⟩
                    try go_wp2_with fail
                    have G9 : Gr w6 w9 := ((Gr.refl _).alloc _).drew.trans h9
                    have n1 : w9.cell? ⟨w6.heap.size, 1, none⟩ = some (.string ⟨#[103, 111, 32]⟩) := by (refine (h9.cell _ _ ?_).trans ?_ <;> simp)
                    refine hK.out _ _ ⟨HS.out _ G9, n1⟩ (fun hHeld => ?_)
                    clear hK K hHeld2
                    try simp only [Act.put, List.setIfInBounds_toArray, List.set_cons_zero, List.set_cons_succ]
                    (refine wpAnyH_take (i := 13) (v := ?_) rfl (by kernel_rfl) (by kernel_rfl) (by kernel_rfl) (fun _ _ _ h => h) (Or.inl ⟨by rfl, ?_⟩) (by assumption) ?_; rotate_left; (focus (intro w hSw; (try dsimp only at hSw); go_simp; try with_reducible rfl)); try simp only [Act.put, List.getElem_toArray, List.getElem_cons_zero, List.getElem_cons_succ, List.setIfInBounds_toArray, List.set_cons_zero, List.set_cons_succ])
                    (refine wpAnyH_take (i := 14) (v := ?_) rfl (by kernel_rfl) (by kernel_rfl) (by kernel_rfl) (fun _ _ _ h => h) (Or.inl ⟨by rfl, ?_⟩) (by assumption) ?_; rotate_left; (focus (intro w hSw; (try dsimp only at hSw); go_simp; try with_reducible rfl)); try simp only [Act.put, List.getElem_toArray, List.getElem_cons_zero, List.getElem_cons_succ, List.setIfInBounds_toArray, List.set_cons_zero, List.set_cons_succ])
                    (refine wpAnyH_take (i := 15) (v := ?_) rfl (by kernel_rfl) (by kernel_rfl) (by kernel_rfl) (fun _ _ _ h => h) (Or.inl ⟨by rfl, ?_⟩) (by assumption) ?_; rotate_left; (focus (intro w hSw; (try dsimp only at hSw); go_simp; try with_reducible rfl)); try simp only [Act.put, List.getElem_toArray, List.getElem_cons_zero, List.getElem_cons_succ, List.setIfInBounds_toArray, List.set_cons_zero, List.set_cons_succ])
                    refine wpAnyH_done (by kernel_rfl) ?_ _
                    clear hHeld
                    go_wp2_with fail
                    go_meet
                    case rel => exact ⟨rfl, G9⟩
                  · go_simp
                    go_at_call 48
                    (with_reducible refine (HCP2.out _).mono ?_)
                    rintro e w9 ⟨rfl, h9⟩
                    try go_wp2_with fail
                    have G9 : Gr w6 w9 := (Gr.refl _).drew.trans h9
                    refine hK.out _ _ (HS.out _ G9) (fun hHeld2 => ?_)
                    clear hK K hHeld
                    try simp only [Act.put, List.setIfInBounds_toArray, List.set_cons_zero, List.set_cons_succ]
                    refine wpAnyH_ready (rs := [1]) (by kernel_rfl) (by simp) ?_
                    refine AllReadyH.cons rfl (fun K hK => ?_) AllReadyH.nil
                    go_simp
                    refine hK.out _ _ (HS.out _ (G9.alloc _)) (fun hHeld => ?_)
                    clear hK K hHeld2
                    try simp only [Act.put, List.setIfInBounds_toArray, List.set_cons_zero, List.set_cons_succ]
                    refine wpAnyH_monoS (S2 := fun w' => (Gr w6 w' ∧ wr.heap.size < w'.heap.size ∧ w'.cell? ⟨wr.heap.size, 1, none⟩ = some (.int .i64 at_) ∧ w'.cell? ⟨wr.heap.size, 2, none⟩ = some (.int .i64 1) ∧ w'.cell? ⟨w.heap.size + 1, 0, none⟩ = some (.int .i64 D.beg)) ∧ w'.cell? ⟨w9.heap.size, 1, none⟩ = some (.string ⟨#[103, 111, 32]⟩)) (fun _ h => h.1) _ _ _ _ ?_
                    have hHeld2 : (Gr w6 (w9.alloc (.cells #[.string ⟨#[]⟩, .string ⟨#[103, 111, 32]⟩, .string ⟨#[103, 97, 116, 101, 32]⟩, .string ⟨#[98, 117, 102, 102, 101, 114, 32]⟩] 9)) ∧ wr.heap.size < (w9.alloc (.cells #[.string ⟨#[]⟩, .string ⟨#[103, 111, 32]⟩, .string ⟨#[103, 97, 116, 101, 32]⟩, .string ⟨#[98, 117, 102, 102, 101, 114, 32]⟩] 9)).heap.size ∧ (w9.alloc (.cells #[.string ⟨#[]⟩, .string ⟨#[103, 111, 32]⟩, .string ⟨#[103, 97, 116, 101, 32]⟩, .string ⟨#[98, 117, 102, 102, 101, 114, 32]⟩] 9)).cell? ⟨wr.heap.size, 1, none⟩ = some (.int .i64 at_) ∧ (w9.alloc (.cells #[.string ⟨#[]⟩, .string ⟨#[103, 111, 32]⟩, .string ⟨#[103, 97, 116, 101, 32]⟩, .string ⟨#[98, 117, 102, 102, 101, 114, 32]⟩] 9)).cell? ⟨wr.heap.size, 2, none⟩ = some (.int .i64 1) ∧ (w9.alloc (.cells #[.string ⟨#[]⟩, .string ⟨#[103, 111, 32]⟩, .string ⟨#[103, 97, 116, 101, 32]⟩, .string ⟨#[98, 117, 102, 102, 101, 114, 32]⟩] 9)).cell? ⟨w.heap.size + 1, 0, none⟩ = some (.int .i64 D.beg)) ∧ (w9.alloc (.cells #[.string ⟨#[]⟩, .string ⟨#[103, 111, 32]⟩, .string ⟨#[103, 97, 116, 101, 32]⟩, .string ⟨#[98, 117, 102, 102, 101, 114, 32]⟩] 9)).cell? ⟨w9.heap.size, 1, none⟩ = some (.string ⟨#[103, 111, 32]⟩) := ⟨hHeld, by simp⟩
                    clear hHeld
                    (refine wpAnyH_take (i := 4) (v := ?_) rfl (by kernel_rfl) (by kernel_rfl) (by kernel_rfl) (fun _ _ _ h => h) (Or.inl ⟨by rfl, ?_⟩) (by assumption) ?_; rotate_left; (focus (intro w hSw; (try dsimp only at hSw); go_simp; try with_reducible rfl)); try simp only [Act.put, List.getElem_toArray, List.getElem_cons_zero, List.getElem_cons_succ, List.setIfInBounds_toArray, List.set_cons_zero, List.set_cons_succ])
                    (refine wpAnyH_take (i := 5) (v := ?_) rfl (by kernel_rfl) (by kernel_rfl) (by kernel_rfl) (fun _ _ _ h => h) (Or.inl ⟨by rfl, ?_⟩) (by assumption) ?_; rotate_left; (focus (intro w hSw; (try dsimp only at hSw); go_simp; try with_reducible rfl)); try simp only [Act.put, List.getElem_toArray, List.getElem_cons_zero, List.getElem_cons_succ, List.setIfInBounds_toArray, List.set_cons_zero, List.set_cons_succ])
                    (refine wpAnyH_take (i := 6) (v := ?_) rfl (by kernel_rfl) (by kernel_rfl) (by kernel_rfl) (fun _ _ _ h => h) (Or.inl ⟨by rfl, ?_⟩) (by assumption) ?_; rotate_left; (focus (intro w hSw; (try dsimp only at hSw); go_simp; try with_reducible rfl)); try simp only [Act.put, List.getElem_toArray, List.getElem_cons_zero, List.getElem_cons_succ, List.setIfInBounds_toArray, List.set_cons_zero, List.set_cons_succ])
                    (refine wpAnyH_take (i := 13) (v := ?_) rfl (by kernel_rfl) (by kernel_rfl) (by kernel_rfl) (fun _ _ _ h => h) (Or.inl ⟨by rfl, ?_⟩) (by assumption) ?_; rotate_left; (focus (intro w hSw; (try dsimp only at hSw); go_simp; try with_reducible rfl)); try simp only [Act.put, List.getElem_toArray, List.getElem_cons_zero, List.getElem_cons_succ, List.setIfInBounds_toArray, List.set_cons_zero, List.set_cons_succ])
                    (refine wpAnyH_take (i := 14) (v := ?_) rfl (by kernel_rfl) (by kernel_rfl) (by kernel_rfl) (fun _ _ _ h => h) (Or.inl ⟨by rfl, ?_⟩) (by assumption) ?_; rotate_left; (focus (intro w hSw; (try dsimp only at hSw); go_simp; try with_reducible rfl)); try simp only [Act.put, List.getElem_toArray, List.getElem_cons_zero, List.getElem_cons_succ, List.setIfInBounds_toArray, List.set_cons_zero, List.set_cons_succ])
                    (refine wpAnyH_take (i := 15) (v := ?_) rfl (by kernel_rfl) (by kernel_rfl) (by kernel_rfl) (fun _ _ _ h => h) (Or.inl ⟨by rfl, ?_⟩) (by assumption) ?_; rotate_left; (focus (intro w hSw; (try dsimp only at hSw); go_simp; try with_reducible rfl)); try simp only [Act.put, List.getElem_toArray, List.getElem_cons_zero, List.getElem_cons_succ, List.setIfInBounds_toArray, List.set_cons_zero, List.set_cons_succ])
                    refine wpAnyH_done (by kernel_rfl) ?_ _
                    clear hHeld2
                    go_wp2_with fail
                    go_meet
                    case rel => exact ⟨rfl, G9.alloc _⟩
                case rest =>
                  obtain ⟨rfl, gz⟩ := hcut
                  obtain ⟨zl, c2', c3', zb, p2', z7, v7'⟩ := HX6.out _ gz
                  have giz := giL.trans gz
                  have GZ := (gwn.trans gi).trans (gL.trans gz)
                  have qd : ¬ 9223372036854775807 < V.size + 3 + cl.size + 1 + nn.size := by omega
                  have qe : ¬ 9223372036854775807 < V.size + 3 + cl.size + 1 + nn.size + 1 := by omega
                  clear HX6 t1 t2 t3 d0 p0 p2 v7
                  go_wp2_with fail
                  go_roundw
                  case rel => exact ⟨j + 1, by rw [HN1.out, unl_snoc, HV.out, ← leg_textGo], by go_num, hlj, giz⟩
                  case measure => simp [intOf]; omega
              · rw [if_neg (by decide)] at m5
                have hx : x < P.es.length := by omega
                obtain ⟨b7, o7, hs7, z7, v7, -⟩ := (HEL.out.gr (gwn.trans gi)).at x hx
                subst hs7
                have hw : wordsL P D.beg ⟨false, at_, 2, x⟩ = [bGate, clkT ((D.beg + at_) % 86400), P.es[x].n] := by
                  have e2 : nameTo P ⟨false, at_, 2, x⟩ = P.es[x].n := by
                    show (P.es.getD ((x : Int)).toNat default).n = _
                    rw [Int.toNat_natCast, getD_at _ _ hx]
                  unfold wordsL
                  rw [e2]; rfl
                have hn8 : P.es[x].n.size ≤ 8 := nm_size (HNE.out _ (List.getElem_mem hx))
                rw [hw] at HN1
                clear hw hnn hws
                generalize P.es[x].n = nn at v7 HN1 hn8
                generalize clkT ((D.beg + at_) % 86400) = cl at HCP2 HN1 hck
                have x0 : (0 : Int) ≤ (x : Int) := by omega
                have x1 : (x : Int) < (P.es.length : Int) := by omega
                have gL : Gr wr (wr.alloc (.cells #[.bool false, .int .i64 at_, .int .i64 2, .int .i64 (x : Int)] 54)) := (Gr.refl _).alloc _
                have zL : wr.heap.size < (wr.alloc (.cells #[.bool false, .int .i64 at_, .int .i64 2, .int .i64 (x : Int)] 54)).heap.size := by simp
                have t1 : (wr.alloc (.cells #[.bool false, .int .i64 at_, .int .i64 2, .int .i64 (x : Int)] 54)).cell? ⟨wr.heap.size, 1, none⟩ = some (.int .i64 at_) := by rw [World.cell?_alloc_mark]; rfl
                have t2 : (wr.alloc (.cells #[.bool false, .int .i64 at_, .int .i64 2, .int .i64 (x : Int)] 54)).cell? ⟨wr.heap.size, 2, none⟩ = some (.int .i64 2) := by rw [World.cell?_alloc_mark]; rfl
                have t3 : (wr.alloc (.cells #[.bool false, .int .i64 at_, .int .i64 2, .int .i64 (x : Int)] 54)).cell? ⟨wr.heap.size, 3, none⟩ = some (.int .i64 (x : Int)) := by rw [World.cell?_alloc_mark]; rfl
                go_upto_region 19 with fail
                have zd6 := Nat.lt_of_lt_of_le zd gL.size
                have zb6 := Nat.lt_of_lt_of_le zb gL.size
                have z76 := Nat.lt_of_lt_of_le z7 gL.size
                replace d0 := (gL.cell _ _ zd).trans d0
                replace p0 := (gL.cell _ _ zb).trans p0
                replace p2 := (gL.cell _ _ zb).trans p2
                replace v7 := (gL.cell _ _ z7).trans v7
                have giL := gi.trans gL
                clear y0 y1 y2 y3 p1 p3 p4 p5 p6 p7 p8 d1 d2 z7 zd zb
                generalize wr.alloc (.cells #[.bool false, .int .i64 at_, .int .i64 2, .int .i64 (x : Int)] 54) = w6 at *
                have HX6 := Lib.hid (fun (w' : World) (g : Gr w6 w') => (⟨Nat.lt_of_lt_of_le zL g.size, (g.cell _ _ zL).trans t2, (g.cell _ _ zL).trans t3, Nat.lt_of_lt_of_le zb6 g.size, (g.cell _ _ zb6).trans p0, Nat.lt_of_lt_of_le z76 g.size, (g.cell _ _ z76).trans v7⟩ : wr.heap.size < w'.heap.size ∧ w'.cell? ⟨wr.heap.size, 2, none⟩ = some (.int .i64 2) ∧ w'.cell? ⟨wr.heap.size, 3, none⟩ = some (.int .i64 (x : Int)) ∧ w.heap.size < w'.heap.size ∧ w'.cell? ⟨w.heap.size, 0, none⟩ = _ ∧ _ < w'.heap.size ∧ w'.cell? _ = some (.string nn)))
                have q0 : ¬ 9223372036854775807 < V.size + 5 := by omega
                have qa : ¬ 9223372036854775807 < V.size + 5 := by omega
                have qb : ¬ 9223372036854775807 < V.size + 5 + cl.size := by omega
                have qc : ¬ 9223372036854775807 < V.size + 5 + cl.size + 1 := by omega
                go_cut [7] from 78 to 122 (fun s wc => s = .string (V ++ ⟨#[103, 97, 116, 101, 32]⟩ ++ cl ++ ⟨#[32]⟩) ∧ Gr w6 wc)
                case first =>
                  have HS := Lib.hid (fun (w' : World) (g : Gr w6 w') => (⟨g, Nat.lt_of_lt_of_le zL g.size, (g.cell _ _ zL).trans t1, (g.cell _ _ zL).trans t2, (g.cell _ _ zd6).trans d0⟩ : Gr w6 w' ∧ wr.heap.size < w'.heap.size ∧ w'.cell? ⟨wr.heap.size, 1, none⟩ = some (.int .i64 at_) ∧ w'.cell? ⟨wr.heap.size, 2, none⟩ = some (.int .i64 2) ∧ w'.cell? ⟨w.heap.size + 1, 0, none⟩ = some (.int .i64 D.beg)))
                  clear HX6 HN1 HV HPN HPD HCKP HDX HB HX5 HX2 HRN HST HSG HNS HKR HKL HDN HPI HZ HMY HLG HLP HU HPS HWR hS2 t3 p0 p2 v7 hck
                  refine wp_region_held_drew (S := fun w' => Gr w6 w' ∧ wr.heap.size < w'.heap.size ∧ w'.cell? ⟨wr.heap.size, 1, none⟩ = some (.int .i64 at_) ∧ w'.cell? ⟨wr.heap.size, 2, none⟩ = some (.int .i64 2) ∧ w'.cell? ⟨w.heap.size + 1, 0, none⟩ = some (.int .i64 D.beg)) (by kernel_rfl) (HS.out _ (Gr.refl _).drew) (fun hHeld => ?_)
                  (refine wpAnyH_take (i := 0) (v := ?_) rfl (by kernel_rfl) (by kernel_rfl) (by kernel_rfl) (fun _ _ _ h => h) (Or.inl ⟨by rfl, ?_⟩) (by assumption) ?_; rotate_left; (focus (intro w hSw; (try dsimp only at hSw); go_simp; try with_reducible rfl)); try simp only [Act.put, List.getElem_toArray, List.getElem_cons_zero, List.getElem_cons_succ, List.setIfInBounds_toArray, List.set_cons_zero, List.set_cons_succ])
                  (refine wpAnyH_take (i := 2) (v := ?_) rfl (by kernel_rfl) (by kernel_rfl) (by kernel_rfl) (fun _ _ _ h => h) (Or.inl ⟨by rfl, ?_⟩) (by assumption) ?_; rotate_left; (focus (intro w hSw; (try dsimp only at hSw); go_simp; try with_reducible rfl)); try simp only [Act.put, List.getElem_toArray, List.getElem_cons_zero, List.getElem_cons_succ, List.setIfInBounds_toArray, List.set_cons_zero, List.set_cons_succ])
                  (refine wpAnyH_take (i := 3) (v := ?_) rfl (by kernel_rfl) (by kernel_rfl) (by kernel_rfl) (fun _ _ _ h => h) (Or.inl ⟨by rfl, ?_⟩) (by assumption) ?_; rotate_left; (focus (intro w hSw; (try dsimp only at hSw); go_simp; try with_reducible rfl)); try simp only [Act.put, List.getElem_toArray, List.getElem_cons_zero, List.getElem_cons_succ, List.setIfInBounds_toArray, List.set_cons_zero, List.set_cons_succ])
                  (refine wpAnyH_take (i := 7) (v := ?_) rfl (by kernel_rfl) (by kernel_rfl) (by kernel_rfl) (fun _ _ _ h => h) (Or.inl ⟨by rfl, ?_⟩) (by assumption) ?_; rotate_left; (focus (intro w hSw; (try dsimp only at hSw); go_simp; try with_reducible rfl)); try simp only [Act.put, List.getElem_toArray, List.getElem_cons_zero, List.getElem_cons_succ, List.setIfInBounds_toArray, List.set_cons_zero, List.set_cons_succ])
                  (refine wpAnyH_take (i := 8) (v := ?_) rfl (by kernel_rfl) (by kernel_rfl) (by kernel_rfl) (fun _ _ _ h => h) (Or.inl ⟨by rfl, ?_⟩) (by assumption) ?_; rotate_left; (focus (intro w hSw; (try dsimp only at hSw); go_simp; try with_reducible rfl)); try simp only [Act.put, List.getElem_toArray, List.getElem_cons_zero, List.getElem_cons_succ, List.setIfInBounds_toArray, List.set_cons_zero, List.set_cons_succ])
                  (refine wpAnyH_take (i := 9) (v := ?_) rfl (by kernel_rfl) (by kernel_rfl) (by kernel_rfl) (fun _ _ _ h => h) (Or.inl ⟨by rfl, ?_⟩) (by assumption) ?_; rotate_left; (focus (intro w hSw; (try dsimp only at hSw); go_simp; try with_reducible rfl)); try simp only [Act.put, List.getElem_toArray, List.getElem_cons_zero, List.getElem_cons_succ, List.setIfInBounds_toArray, List.set_cons_zero, List.set_cons_succ])
                  (refine wpAnyH_take (i := 10) (v := ?_) rfl (by kernel_rfl) (by kernel_rfl) (by kernel_rfl) (fun _ _ _ h => h) (Or.inl ⟨by rfl, ?_⟩) (by assumption) ?_; rotate_left; (focus (intro w hSw; (try dsimp only at hSw); go_simp; try with_reducible rfl)); try simp only [Act.put, List.getElem_toArray, List.getElem_cons_zero, List.getElem_cons_succ, List.setIfInBounds_toArray, List.set_cons_zero, List.set_cons_succ])
                  (refine wpAnyH_take (i := 11) (v := ?_) rfl (by kernel_rfl) (by kernel_rfl) (by kernel_rfl) (fun _ _ _ h => h) (Or.inl ⟨by rfl, ?_⟩) (by assumption) ?_; rotate_left; (focus (intro w hSw; (try dsimp only at hSw); go_simp; try with_reducible rfl)); try simp only [Act.put, List.getElem_toArray, List.getElem_cons_zero, List.getElem_cons_succ, List.setIfInBounds_toArray, List.set_cons_zero, List.set_cons_succ])
                  refine wpAnyH_ready (rs := [1, 12]) (by kernel_rfl) (by simp) ?_
                  refine AllReadyH.cons rfl (fun K hK => ?_) (AllReadyH.cons rfl (fun K hK => ?_) AllReadyH.nil)
                  · go_simp
                    refine hK.out _ _ (HS.out _ ((Gr.refl _).alloc _).drew) (fun hHeld => ?_)
                    clear hK K
                    try simp only [Act.put, List.setIfInBounds_toArray, List.set_cons_zero, List.set_cons_succ]
                    refine wpAnyH_monoS (S2 := fun w' => (Gr w6 w' ∧ wr.heap.size < w'.heap.size ∧ w'.cell? ⟨wr.heap.size, 1, none⟩ = some (.int .i64 at_) ∧ w'.cell? ⟨wr.heap.size, 2, none⟩ = some (.int .i64 2) ∧ w'.cell? ⟨w.heap.size + 1, 0, none⟩ = some (.int .i64 D.beg)) ∧ w'.cell? ⟨w6.heap.size, 2, none⟩ = some (.string ⟨#[103, 97, 116, 101, 32]⟩)) (fun _ h => h.1) _ _ _ _ ?_
                    have hHeld2 : (Gr w6 ((w6.alloc (.cells #[.string ⟨#[]⟩, .string ⟨#[103, 111, 32]⟩, .string ⟨#[103, 97, 116, 101, 32]⟩, .string ⟨#[98, 117, 102, 102, 101, 114, 32]⟩] 9)).drew) ∧ wr.heap.size < ((w6.alloc (.cells #[.string ⟨#[]⟩, .string ⟨#[103, 111, 32]⟩, .string ⟨#[103, 97, 116, 101, 32]⟩, .string ⟨#[98, 117, 102, 102, 101, 114, 32]⟩] 9)).drew).heap.size ∧ ((w6.alloc (.cells #[.string ⟨#[]⟩, .string ⟨#[103, 111, 32]⟩, .string ⟨#[103, 97, 116, 101, 32]⟩, .string ⟨#[98, 117, 102, 102, 101, 114, 32]⟩] 9)).drew).cell? ⟨wr.heap.size, 1, none⟩ = some (.int .i64 at_) ∧ ((w6.alloc (.cells #[.string ⟨#[]⟩, .string ⟨#[103, 111, 32]⟩, .string ⟨#[103, 97, 116, 101, 32]⟩, .string ⟨#[98, 117, 102, 102, 101, 114, 32]⟩] 9)).drew).cell? ⟨wr.heap.size, 2, none⟩ = some (.int .i64 2) ∧ ((w6.alloc (.cells #[.string ⟨#[]⟩, .string ⟨#[103, 111, 32]⟩, .string ⟨#[103, 97, 116, 101, 32]⟩, .string ⟨#[98, 117, 102, 102, 101, 114, 32]⟩] 9)).drew).cell? ⟨w.heap.size + 1, 0, none⟩ = some (.int .i64 D.beg)) ∧ ((w6.alloc (.cells #[.string ⟨#[]⟩, .string ⟨#[103, 111, 32]⟩, .string ⟨#[103, 97, 116, 101, 32]⟩, .string ⟨#[98, 117, 102, 102, 101, 114, 32]⟩] 9)).drew).cell? ⟨w6.heap.size, 2, none⟩ = some (.string ⟨#[103, 97, 116, 101, 32]⟩) := ⟨hHeld, by simp⟩
                    clear hHeld
                    (refine wpAnyH_take (i := 4) (v := ?_) rfl (by kernel_rfl) (by kernel_rfl) (by kernel_rfl) (fun _ _ _ h => h) (Or.inl ⟨by rfl, ?_⟩) (by assumption) ?_; rotate_left; (focus (intro w hSw; (try dsimp only at hSw); go_simp; try with_reducible rfl)); try simp only [Act.put, List.getElem_toArray, List.getElem_cons_zero, List.getElem_cons_succ, List.setIfInBounds_toArray, List.set_cons_zero, List.set_cons_succ])
                    (refine wpAnyH_take (i := 5) (v := ?_) rfl (by kernel_rfl) (by kernel_rfl) (by kernel_rfl) (fun _ _ _ h => h) (Or.inl ⟨by rfl, ?_⟩) (by assumption) ?_; rotate_left; (focus (intro w hSw; (try dsimp only at hSw); go_simp; try with_reducible rfl)); try simp only [Act.put, List.getElem_toArray, List.getElem_cons_zero, List.getElem_cons_succ, List.setIfInBounds_toArray, List.set_cons_zero, List.set_cons_succ])
                    (refine wpAnyH_take (i := 6) (v := ?_) rfl (by kernel_rfl) (by kernel_rfl) (by kernel_rfl) (fun _ _ _ h => h) (Or.inl ⟨by rfl, ?_⟩) (by assumption) ?_; rotate_left; (focus (intro w hSw; (try dsimp only at hSw); go_simp; try with_reducible rfl)); try simp only [Act.put, List.getElem_toArray, List.getElem_cons_zero, List.getElem_cons_succ, List.setIfInBounds_toArray, List.set_cons_zero, List.set_cons_succ])
                    refine wpAnyH_ready (rs := [12]) (by kernel_rfl) (by simp) ?_
                    refine AllReadyH.cons rfl (fun K hK => ?_) AllReadyH.nil
                    go_simp
                    go_at_call 48
                    (with_reducible refine (HCP2.out _).mono ?_)
                    rintro e w9 ⟨rfl, h9⟩
                    try go_wp2_with fail
                    have G9 : Gr w6 w9 := ((Gr.refl _).alloc _).drew.trans h9
                    have n1 : w9.cell? ⟨w6.heap.size, 2, none⟩ = some (.string ⟨#[103, 97, 116, 101, 32]⟩) := by (refine (h9.cell _ _ ?_).trans ?_ <;> simp)
                    refine hK.out _ _ ⟨HS.out _ G9, n1⟩ (fun hHeld => ?_)
                    clear hK K hHeld2
                    try simp only [Act.put, List.setIfInBounds_toArray, List.set_cons_zero, List.set_cons_succ]
                    (refine wpAnyH_take (i := 13) (v := ?_) rfl (by kernel_rfl) (by kernel_rfl) (by kernel_rfl) (fun _ _ _ h => h) (Or.inl ⟨by rfl, ?_⟩) (by assumption) ?_; rotate_left; (focus (intro w hSw; (try dsimp only at hSw); go_simp; try with_reducible rfl)); try simp only [Act.put, List.getElem_toArray, List.getElem_cons_zero, List.getElem_cons_succ, List.setIfInBounds_toArray, List.set_cons_zero, List.set_cons_succ])
                    (refine wpAnyH_take (i := 14) (v := ?_) rfl (by kernel_rfl) (by kernel_rfl) (by kernel_rfl) (fun _ _ _ h => h) (Or.inl ⟨by rfl, ?_⟩) (by assumption) ?_; rotate_left; (focus (intro w hSw; (try dsimp only at hSw); go_simp; try with_reducible rfl)); try simp only [Act.put, List.getElem_toArray, List.getElem_cons_zero, List.getElem_cons_succ, List.setIfInBounds_toArray, List.set_cons_zero, List.set_cons_succ])
                    (refine wpAnyH_take (i := 15) (v := ?_) rfl (by kernel_rfl) (by kernel_rfl) (by kernel_rfl) (fun _ _ _ h => h) (Or.inl ⟨by rfl, ?_⟩) (by assumption) ?_; rotate_left; (focus (intro w hSw; (try dsimp only at hSw); go_simp; try with_reducible rfl)); try simp only [Act.put, List.getElem_toArray, List.getElem_cons_zero, List.getElem_cons_succ, List.setIfInBounds_toArray, List.set_cons_zero, List.set_cons_succ])
                    refine wpAnyH_done (by kernel_rfl) ?_ _
                    clear hHeld
                    go_wp2_with fail
                    go_meet
                    case rel => exact ⟨rfl, G9⟩
                  · go_simp
                    go_at_call 48
                    (with_reducible refine (HCP2.out _).mono ?_)
                    rintro e w9 ⟨rfl, h9⟩
                    try go_wp2_with fail
                    have G9 : Gr w6 w9 := (Gr.refl _).drew.trans h9
                    refine hK.out _ _ (HS.out _ G9) (fun hHeld2 => ?_)
                    clear hK K hHeld
                    try simp only [Act.put, List.setIfInBounds_toArray, List.set_cons_zero, List.set_cons_succ]
                    refine wpAnyH_ready (rs := [1]) (by kernel_rfl) (by simp) ?_
                    refine AllReadyH.cons rfl (fun K hK => ?_) AllReadyH.nil
                    go_simp
                    refine hK.out _ _ (HS.out _ (G9.alloc _)) (fun hHeld => ?_)
                    clear hK K hHeld2
                    try simp only [Act.put, List.setIfInBounds_toArray, List.set_cons_zero, List.set_cons_succ]
                    refine wpAnyH_monoS (S2 := fun w' => (Gr w6 w' ∧ wr.heap.size < w'.heap.size ∧ w'.cell? ⟨wr.heap.size, 1, none⟩ = some (.int .i64 at_) ∧ w'.cell? ⟨wr.heap.size, 2, none⟩ = some (.int .i64 2) ∧ w'.cell? ⟨w.heap.size + 1, 0, none⟩ = some (.int .i64 D.beg)) ∧ w'.cell? ⟨w9.heap.size, 2, none⟩ = some (.string ⟨#[103, 97, 116, 101, 32]⟩)) (fun _ h => h.1) _ _ _ _ ?_
                    have hHeld2 : (Gr w6 (w9.alloc (.cells #[.string ⟨#[]⟩, .string ⟨#[103, 111, 32]⟩, .string ⟨#[103, 97, 116, 101, 32]⟩, .string ⟨#[98, 117, 102, 102, 101, 114, 32]⟩] 9)) ∧ wr.heap.size < (w9.alloc (.cells #[.string ⟨#[]⟩, .string ⟨#[103, 111, 32]⟩, .string ⟨#[103, 97, 116, 101, 32]⟩, .string ⟨#[98, 117, 102, 102, 101, 114, 32]⟩] 9)).heap.size ∧ (w9.alloc (.cells #[.string ⟨#[]⟩, .string ⟨#[103, 111, 32]⟩, .string ⟨#[103, 97, 116, 101, 32]⟩, .string ⟨#[98, 117, 102, 102, 101, 114, 32]⟩] 9)).cell? ⟨wr.heap.size, 1, none⟩ = some (.int .i64 at_) ∧ (w9.alloc (.cells #[.string ⟨#[]⟩, .string ⟨#[103, 111, 32]⟩, .string ⟨#[103, 97, 116, 101, 32]⟩, .string ⟨#[98, 117, 102, 102, 101, 114, 32]⟩] 9)).cell? ⟨wr.heap.size, 2, none⟩ = some (.int .i64 2) ∧ (w9.alloc (.cells #[.string ⟨#[]⟩, .string ⟨#[103, 111, 32]⟩, .string ⟨#[103, 97, 116, 101, 32]⟩, .string ⟨#[98, 117, 102, 102, 101, 114, 32]⟩] 9)).cell? ⟨w.heap.size + 1, 0, none⟩ = some (.int .i64 D.beg)) ∧ (w9.alloc (.cells #[.string ⟨#[]⟩, .string ⟨#[103, 111, 32]⟩, .string ⟨#[103, 97, 116, 101, 32]⟩, .string ⟨#[98, 117, 102, 102, 101, 114, 32]⟩] 9)).cell? ⟨w9.heap.size, 2, none⟩ = some (.string ⟨#[103, 97, 116, 101, 32]⟩) := ⟨hHeld, by simp⟩
                    clear hHeld
                    (refine wpAnyH_take (i := 4) (v := ?_) rfl (by kernel_rfl) (by kernel_rfl) (by kernel_rfl) (fun _ _ _ h => h) (Or.inl ⟨by rfl, ?_⟩) (by assumption) ?_; rotate_left; (focus (intro w hSw; (try dsimp only at hSw); go_simp; try with_reducible rfl)); try simp only [Act.put, List.getElem_toArray, List.getElem_cons_zero, List.getElem_cons_succ, List.setIfInBounds_toArray, List.set_cons_zero, List.set_cons_succ])
                    (refine wpAnyH_take (i := 5) (v := ?_) rfl (by kernel_rfl) (by kernel_rfl) (by kernel_rfl) (fun _ _ _ h => h) (Or.inl ⟨by rfl, ?_⟩) (by assumption) ?_; rotate_left; (focus (intro w hSw; (try dsimp only at hSw); go_simp; try with_reducible rfl)); try simp only [Act.put, List.getElem_toArray, List.getElem_cons_zero, List.getElem_cons_succ, List.setIfInBounds_toArray, List.set_cons_zero, List.set_cons_succ])
                    (refine wpAnyH_take (i := 6) (v := ?_) rfl (by kernel_rfl) (by kernel_rfl) (by kernel_rfl) (fun _ _ _ h => h) (Or.inl ⟨by rfl, ?_⟩) (by assumption) ?_; rotate_left; (focus (intro w hSw; (try dsimp only at hSw); go_simp; try with_reducible rfl)); try simp only [Act.put, List.getElem_toArray, List.getElem_cons_zero, List.getElem_cons_succ, List.setIfInBounds_toArray, List.set_cons_zero, List.set_cons_succ])
                    (refine wpAnyH_take (i := 13) (v := ?_) rfl (by kernel_rfl) (by kernel_rfl) (by kernel_rfl) (fun _ _ _ h => h) (Or.inl ⟨by rfl, ?_⟩) (by assumption) ?_; rotate_left; (focus (intro w hSw; (try dsimp only at hSw); go_simp; try with_reducible rfl)); try simp only [Act.put, List.getElem_toArray, List.getElem_cons_zero, List.getElem_cons_succ, List.setIfInBounds_toArray, List.set_cons_zero, List.set_cons_succ])
                    (refine wpAnyH_take (i := 14) (v := ?_) rfl (by kernel_rfl) (by kernel_rfl) (by kernel_rfl) (fun _ _ _ h => h) (Or.inl ⟨by rfl, ?_⟩) (by assumption) ?_; rotate_left; (focus (intro w hSw; (try dsimp only at hSw); go_simp; try with_reducible rfl)); try simp only [Act.put, List.getElem_toArray, List.getElem_cons_zero, List.getElem_cons_succ, List.setIfInBounds_toArray, List.set_cons_zero, List.set_cons_succ])
                    (refine wpAnyH_take (i := 15) (v := ?_) rfl (by kernel_rfl) (by kernel_rfl) (by kernel_rfl) (fun _ _ _ h => h) (Or.inl ⟨by rfl, ?_⟩) (by assumption) ?_; rotate_left; (focus (intro w hSw; (try dsimp only at hSw); go_simp; try with_reducible rfl)); try simp only [Act.put, List.getElem_toArray, List.getElem_cons_zero, List.getElem_cons_succ, List.setIfInBounds_toArray, List.set_cons_zero, List.set_cons_succ])
                    refine wpAnyH_done (by kernel_rfl) ?_ _
                    clear hHeld2
                    go_wp2_with fail
                    go_meet
                    case rel => exact ⟨rfl, G9.alloc _⟩
                case rest =>
                  obtain ⟨rfl, gz⟩ := hcut
                  obtain ⟨zl, c2', c3', zb, p2', z7, v7'⟩ := HX6.out _ gz
                  have giz := giL.trans gz
                  have GZ := (gwn.trans gi).trans (gL.trans gz)
                  have qd : ¬ 9223372036854775807 < V.size + 5 + cl.size + 1 + nn.size := by omega
                  have qe : ¬ 9223372036854775807 < V.size + 5 + cl.size + 1 + nn.size + 1 := by omega
                  clear HX6 t1 t2 t3 d0 p0 p2 v7
                  go_wp2_with fail
                  go_roundw
                  case rel => exact ⟨j + 1, by rw [HN1.out, unl_snoc, HV.out, ← leg_textGate], by go_num, hlj, giz⟩
                  case measure => simp [intOf]; omega
              · rw [if_neg (by decide)] at m5
                have hx : x < P.es.length := by omega
                obtain ⟨b7, o7, hs7, z7, v7, -⟩ := (HEL.out.gr (gwn.trans gi)).at x hx
                subst hs7
                have hw : wordsL P D.beg ⟨false, at_, 3, x⟩ = [bBuffer, clkT ((D.beg + at_) % 86400), P.es[x].n] := by
                  have e2 : nameTo P ⟨false, at_, 3, x⟩ = P.es[x].n := by
                    show (P.es.getD ((x : Int)).toNat default).n = _
                    rw [Int.toNat_natCast, getD_at _ _ hx]
                  unfold wordsL
                  rw [e2]; rfl
                have hn8 : P.es[x].n.size ≤ 8 := nm_size (HNE.out _ (List.getElem_mem hx))
                rw [hw] at HN1
                clear hw hnn hws
                generalize P.es[x].n = nn at v7 HN1 hn8
                generalize clkT ((D.beg + at_) % 86400) = cl at HCP2 HN1 hck
                have x0 : (0 : Int) ≤ (x : Int) := by omega
                have x1 : (x : Int) < (P.es.length : Int) := by omega
                have gL : Gr wr (wr.alloc (.cells #[.bool false, .int .i64 at_, .int .i64 3, .int .i64 (x : Int)] 54)) := (Gr.refl _).alloc _
                have zL : wr.heap.size < (wr.alloc (.cells #[.bool false, .int .i64 at_, .int .i64 3, .int .i64 (x : Int)] 54)).heap.size := by simp
                have t1 : (wr.alloc (.cells #[.bool false, .int .i64 at_, .int .i64 3, .int .i64 (x : Int)] 54)).cell? ⟨wr.heap.size, 1, none⟩ = some (.int .i64 at_) := by rw [World.cell?_alloc_mark]; rfl
                have t2 : (wr.alloc (.cells #[.bool false, .int .i64 at_, .int .i64 3, .int .i64 (x : Int)] 54)).cell? ⟨wr.heap.size, 2, none⟩ = some (.int .i64 3) := by rw [World.cell?_alloc_mark]; rfl
                have t3 : (wr.alloc (.cells #[.bool false, .int .i64 at_, .int .i64 3, .int .i64 (x : Int)] 54)).cell? ⟨wr.heap.size, 3, none⟩ = some (.int .i64 (x : Int)) := by rw [World.cell?_alloc_mark]; rfl
                go_upto_region 19 with fail
                have zd6 := Nat.lt_of_lt_of_le zd gL.size
                have zb6 := Nat.lt_of_lt_of_le zb gL.size
                have z76 := Nat.lt_of_lt_of_le z7 gL.size
                replace d0 := (gL.cell _ _ zd).trans d0
                replace p0 := (gL.cell _ _ zb).trans p0
                replace p2 := (gL.cell _ _ zb).trans p2
                replace v7 := (gL.cell _ _ z7).trans v7
                have giL := gi.trans gL
                clear y0 y1 y2 y3 p1 p3 p4 p5 p6 p7 p8 d1 d2 z7 zd zb
                generalize wr.alloc (.cells #[.bool false, .int .i64 at_, .int .i64 3, .int .i64 (x : Int)] 54) = w6 at *
                have HX6 := Lib.hid (fun (w' : World) (g : Gr w6 w') => (⟨Nat.lt_of_lt_of_le zL g.size, (g.cell _ _ zL).trans t2, (g.cell _ _ zL).trans t3, Nat.lt_of_lt_of_le zb6 g.size, (g.cell _ _ zb6).trans p0, Nat.lt_of_lt_of_le z76 g.size, (g.cell _ _ z76).trans v7⟩ : wr.heap.size < w'.heap.size ∧ w'.cell? ⟨wr.heap.size, 2, none⟩ = some (.int .i64 3) ∧ w'.cell? ⟨wr.heap.size, 3, none⟩ = some (.int .i64 (x : Int)) ∧ w.heap.size < w'.heap.size ∧ w'.cell? ⟨w.heap.size, 0, none⟩ = _ ∧ _ < w'.heap.size ∧ w'.cell? _ = some (.string nn)))
                have q0 : ¬ 9223372036854775807 < V.size + 5 := by omega
                have qa : ¬ 9223372036854775807 < V.size + 7 := by omega
                have qb : ¬ 9223372036854775807 < V.size + 7 + cl.size := by omega
                have qc : ¬ 9223372036854775807 < V.size + 7 + cl.size + 1 := by omega
                go_cut [7] from 78 to 122 (fun s wc => s = .string (V ++ ⟨#[98, 117, 102, 102, 101, 114, 32]⟩ ++ cl ++ ⟨#[32]⟩) ∧ Gr w6 wc)
                case first =>
                  have HS := Lib.hid (fun (w' : World) (g : Gr w6 w') => (⟨g, Nat.lt_of_lt_of_le zL g.size, (g.cell _ _ zL).trans t1, (g.cell _ _ zL).trans t2, (g.cell _ _ zd6).trans d0⟩ : Gr w6 w' ∧ wr.heap.size < w'.heap.size ∧ w'.cell? ⟨wr.heap.size, 1, none⟩ = some (.int .i64 at_) ∧ w'.cell? ⟨wr.heap.size, 2, none⟩ = some (.int .i64 3) ∧ w'.cell? ⟨w.heap.size + 1, 0, none⟩ = some (.int .i64 D.beg)))
                  clear HX6 HN1 HV HPN HPD HCKP HDX HB HX5 HX2 HRN HST HSG HNS HKR HKL HDN HPI HZ HMY HLG HLP HU HPS HWR hS2 t3 p0 p2 v7 hck
                  refine wp_region_held_drew (S := fun w' => Gr w6 w' ∧ wr.heap.size < w'.heap.size ∧ w'.cell? ⟨wr.heap.size, 1, none⟩ = some (.int .i64 at_) ∧ w'.cell? ⟨wr.heap.size, 2, none⟩ = some (.int .i64 3) ∧ w'.cell? ⟨w.heap.size + 1, 0, none⟩ = some (.int .i64 D.beg)) (by kernel_rfl) (HS.out _ (Gr.refl _).drew) (fun hHeld => ?_)
                  (refine wpAnyH_take (i := 0) (v := ?_) rfl (by kernel_rfl) (by kernel_rfl) (by kernel_rfl) (fun _ _ _ h => h) (Or.inl ⟨by rfl, ?_⟩) (by assumption) ?_; rotate_left; (focus (intro w hSw; (try dsimp only at hSw); go_simp; try with_reducible rfl)); try simp only [Act.put, List.getElem_toArray, List.getElem_cons_zero, List.getElem_cons_succ, List.setIfInBounds_toArray, List.set_cons_zero, List.set_cons_succ])
                  (refine wpAnyH_take (i := 2) (v := ?_) rfl (by kernel_rfl) (by kernel_rfl) (by kernel_rfl) (fun _ _ _ h => h) (Or.inl ⟨by rfl, ?_⟩) (by assumption) ?_; rotate_left; (focus (intro w hSw; (try dsimp only at hSw); go_simp; try with_reducible rfl)); try simp only [Act.put, List.getElem_toArray, List.getElem_cons_zero, List.getElem_cons_succ, List.setIfInBounds_toArray, List.set_cons_zero, List.set_cons_succ])
                  (refine wpAnyH_take (i := 3) (v := ?_) rfl (by kernel_rfl) (by kernel_rfl) (by kernel_rfl) (fun _ _ _ h => h) (Or.inl ⟨by rfl, ?_⟩) (by assumption) ?_; rotate_left; (focus (intro w hSw; (try dsimp only at hSw); go_simp; try with_reducible rfl)); try simp only [Act.put, List.getElem_toArray, List.getElem_cons_zero, List.getElem_cons_succ, List.setIfInBounds_toArray, List.set_cons_zero, List.set_cons_succ])
                  (refine wpAnyH_take (i := 7) (v := ?_) rfl (by kernel_rfl) (by kernel_rfl) (by kernel_rfl) (fun _ _ _ h => h) (Or.inl ⟨by rfl, ?_⟩) (by assumption) ?_; rotate_left; (focus (intro w hSw; (try dsimp only at hSw); go_simp; try with_reducible rfl)); try simp only [Act.put, List.getElem_toArray, List.getElem_cons_zero, List.getElem_cons_succ, List.setIfInBounds_toArray, List.set_cons_zero, List.set_cons_succ])
                  (refine wpAnyH_take (i := 8) (v := ?_) rfl (by kernel_rfl) (by kernel_rfl) (by kernel_rfl) (fun _ _ _ h => h) (Or.inl ⟨by rfl, ?_⟩) (by assumption) ?_; rotate_left; (focus (intro w hSw; (try dsimp only at hSw); go_simp; try with_reducible rfl)); try simp only [Act.put, List.getElem_toArray, List.getElem_cons_zero, List.getElem_cons_succ, List.setIfInBounds_toArray, List.set_cons_zero, List.set_cons_succ])
                  (refine wpAnyH_take (i := 9) (v := ?_) rfl (by kernel_rfl) (by kernel_rfl) (by kernel_rfl) (fun _ _ _ h => h) (Or.inl ⟨by rfl, ?_⟩) (by assumption) ?_; rotate_left; (focus (intro w hSw; (try dsimp only at hSw); go_simp; try with_reducible rfl)); try simp only [Act.put, List.getElem_toArray, List.getElem_cons_zero, List.getElem_cons_succ, List.setIfInBounds_toArray, List.set_cons_zero, List.set_cons_succ])
                  (refine wpAnyH_take (i := 10) (v := ?_) rfl (by kernel_rfl) (by kernel_rfl) (by kernel_rfl) (fun _ _ _ h => h) (Or.inl ⟨by rfl, ?_⟩) (by assumption) ?_; rotate_left; (focus (intro w hSw; (try dsimp only at hSw); go_simp; try with_reducible rfl)); try simp only [Act.put, List.getElem_toArray, List.getElem_cons_zero, List.getElem_cons_succ, List.setIfInBounds_toArray, List.set_cons_zero, List.set_cons_succ])
                  (refine wpAnyH_take (i := 11) (v := ?_) rfl (by kernel_rfl) (by kernel_rfl) (by kernel_rfl) (fun _ _ _ h => h) (Or.inl ⟨by rfl, ?_⟩) (by assumption) ?_; rotate_left; (focus (intro w hSw; (try dsimp only at hSw); go_simp; try with_reducible rfl)); try simp only [Act.put, List.getElem_toArray, List.getElem_cons_zero, List.getElem_cons_succ, List.setIfInBounds_toArray, List.set_cons_zero, List.set_cons_succ])
                  refine wpAnyH_ready (rs := [1, 12]) (by kernel_rfl) (by simp) ?_
                  refine AllReadyH.cons rfl (fun K hK => ?_) (AllReadyH.cons rfl (fun K hK => ?_) AllReadyH.nil)
                  · go_simp
                    refine hK.out _ _ (HS.out _ ((Gr.refl _).alloc _).drew) (fun hHeld => ?_)
                    clear hK K
                    try simp only [Act.put, List.setIfInBounds_toArray, List.set_cons_zero, List.set_cons_succ]
                    refine wpAnyH_monoS (S2 := fun w' => (Gr w6 w' ∧ wr.heap.size < w'.heap.size ∧ w'.cell? ⟨wr.heap.size, 1, none⟩ = some (.int .i64 at_) ∧ w'.cell? ⟨wr.heap.size, 2, none⟩ = some (.int .i64 3) ∧ w'.cell? ⟨w.heap.size + 1, 0, none⟩ = some (.int .i64 D.beg)) ∧ w'.cell? ⟨w6.heap.size, 3, none⟩ = some (.string ⟨#[98, 117, 102, 102, 101, 114, 32]⟩)) (fun _ h => h.1) _ _ _ _ ?_
                    have hHeld2 : (Gr w6 ((w6.alloc (.cells #[.string ⟨#[]⟩, .string ⟨#[103, 111, 32]⟩, .string ⟨#[103, 97, 116, 101, 32]⟩, .string ⟨#[98, 117, 102, 102, 101, 114, 32]⟩] 9)).drew) ∧ wr.heap.size < ((w6.alloc (.cells #[.string ⟨#[]⟩, .string ⟨#[103, 111, 32]⟩, .string ⟨#[103, 97, 116, 101, 32]⟩, .string ⟨#[98, 117, 102, 102, 101, 114, 32]⟩] 9)).drew).heap.size ∧ ((w6.alloc (.cells #[.string ⟨#[]⟩, .string ⟨#[103, 111, 32]⟩, .string ⟨#[103, 97, 116, 101, 32]⟩, .string ⟨#[98, 117, 102, 102, 101, 114, 32]⟩] 9)).drew).cell? ⟨wr.heap.size, 1, none⟩ = some (.int .i64 at_) ∧ ((w6.alloc (.cells #[.string ⟨#[]⟩, .string ⟨#[103, 111, 32]⟩, .string ⟨#[103, 97, 116, 101, 32]⟩, .string ⟨#[98, 117, 102, 102, 101, 114, 32]⟩] 9)).drew).cell? ⟨wr.heap.size, 2, none⟩ = some (.int .i64 3) ∧ ((w6.alloc (.cells #[.string ⟨#[]⟩, .string ⟨#[103, 111, 32]⟩, .string ⟨#[103, 97, 116, 101, 32]⟩, .string ⟨#[98, 117, 102, 102, 101, 114, 32]⟩] 9)).drew).cell? ⟨w.heap.size + 1, 0, none⟩ = some (.int .i64 D.beg)) ∧ ((w6.alloc (.cells #[.string ⟨#[]⟩, .string ⟨#[103, 111, 32]⟩, .string ⟨#[103, 97, 116, 101, 32]⟩, .string ⟨#[98, 117, 102, 102, 101, 114, 32]⟩] 9)).drew).cell? ⟨w6.heap.size, 3, none⟩ = some (.string ⟨#[98, 117, 102, 102, 101, 114, 32]⟩) := ⟨hHeld, by simp⟩
                    clear hHeld
                    (refine wpAnyH_take (i := 4) (v := ?_) rfl (by kernel_rfl) (by kernel_rfl) (by kernel_rfl) (fun _ _ _ h => h) (Or.inl ⟨by rfl, ?_⟩) (by assumption) ?_; rotate_left; (focus (intro w hSw; (try dsimp only at hSw); go_simp; try with_reducible rfl)); try simp only [Act.put, List.getElem_toArray, List.getElem_cons_zero, List.getElem_cons_succ, List.setIfInBounds_toArray, List.set_cons_zero, List.set_cons_succ])
                    (refine wpAnyH_take (i := 5) (v := ?_) rfl (by kernel_rfl) (by kernel_rfl) (by kernel_rfl) (fun _ _ _ h => h) (Or.inl ⟨by rfl, ?_⟩) (by assumption) ?_; rotate_left; (focus (intro w hSw; (try dsimp only at hSw); go_simp; try with_reducible rfl)); try simp only [Act.put, List.getElem_toArray, List.getElem_cons_zero, List.getElem_cons_succ, List.setIfInBounds_toArray, List.set_cons_zero, List.set_cons_succ])
                    (refine wpAnyH_take (i := 6) (v := ?_) rfl (by kernel_rfl) (by kernel_rfl) (by kernel_rfl) (fun _ _ _ h => h) (Or.inl ⟨by rfl, ?_⟩) (by assumption) ?_; rotate_left; (focus (intro w hSw; (try dsimp only at hSw); go_simp; try with_reducible rfl)); try simp only [Act.put, List.getElem_toArray, List.getElem_cons_zero, List.getElem_cons_succ, List.setIfInBounds_toArray, List.set_cons_zero, List.set_cons_succ])
                    refine wpAnyH_ready (rs := [12]) (by kernel_rfl) (by simp) ?_
                    refine AllReadyH.cons rfl (fun K hK => ?_) AllReadyH.nil
                    go_simp
                    go_at_call 48
                    (with_reducible refine (HCP2.out _).mono ?_)
                    rintro e w9 ⟨rfl, h9⟩
                    try go_wp2_with fail
                    have G9 : Gr w6 w9 := ((Gr.refl _).alloc _).drew.trans h9
                    have n1 : w9.cell? ⟨w6.heap.size, 3, none⟩ = some (.string ⟨#[98, 117, 102, 102, 101, 114, 32]⟩) := by (refine (h9.cell _ _ ?_).trans ?_ <;> simp)
                    refine hK.out _ _ ⟨HS.out _ G9, n1⟩ (fun hHeld => ?_)
                    clear hK K hHeld2
                    try simp only [Act.put, List.setIfInBounds_toArray, List.set_cons_zero, List.set_cons_succ]
                    (refine wpAnyH_take (i := 13) (v := ?_) rfl (by kernel_rfl) (by kernel_rfl) (by kernel_rfl) (fun _ _ _ h => h) (Or.inl ⟨by rfl, ?_⟩) (by assumption) ?_; rotate_left; (focus (intro w hSw; (try dsimp only at hSw); go_simp; try with_reducible rfl)); try simp only [Act.put, List.getElem_toArray, List.getElem_cons_zero, List.getElem_cons_succ, List.setIfInBounds_toArray, List.set_cons_zero, List.set_cons_succ])
                    (refine wpAnyH_take (i := 14) (v := ?_) rfl (by kernel_rfl) (by kernel_rfl) (by kernel_rfl) (fun _ _ _ h => h) (Or.inl ⟨by rfl, ?_⟩) (by assumption) ?_; rotate_left; (focus (intro w hSw; (try dsimp only at hSw); go_simp; try with_reducible rfl)); try simp only [Act.put, List.getElem_toArray, List.getElem_cons_zero, List.getElem_cons_succ, List.setIfInBounds_toArray, List.set_cons_zero, List.set_cons_succ])
                    (refine wpAnyH_take (i := 15) (v := ?_) rfl (by kernel_rfl) (by kernel_rfl) (by kernel_rfl) (fun _ _ _ h => h) (Or.inl ⟨by rfl, ?_⟩) (by assumption) ?_; rotate_left; (focus (intro w hSw; (try dsimp only at hSw); go_simp; try with_reducible rfl)); try simp only [Act.put, List.getElem_toArray, List.getElem_cons_zero, List.getElem_cons_succ, List.setIfInBounds_toArray, List.set_cons_zero, List.set_cons_succ])
                    refine wpAnyH_done (by kernel_rfl) ?_ _
                    clear hHeld
                    go_wp2_with fail
                    go_meet
                    case rel => exact ⟨rfl, G9⟩
                  · go_simp
                    go_at_call 48
                    (with_reducible refine (HCP2.out _).mono ?_)
                    rintro e w9 ⟨rfl, h9⟩
                    try go_wp2_with fail
                    have G9 : Gr w6 w9 := (Gr.refl _).drew.trans h9
                    refine hK.out _ _ (HS.out _ G9) (fun hHeld2 => ?_)
                    clear hK K hHeld
                    try simp only [Act.put, List.setIfInBounds_toArray, List.set_cons_zero, List.set_cons_succ]
                    refine wpAnyH_ready (rs := [1]) (by kernel_rfl) (by simp) ?_
                    refine AllReadyH.cons rfl (fun K hK => ?_) AllReadyH.nil
                    go_simp
                    refine hK.out _ _ (HS.out _ (G9.alloc _)) (fun hHeld => ?_)
                    clear hK K hHeld2
                    try simp only [Act.put, List.setIfInBounds_toArray, List.set_cons_zero, List.set_cons_succ]
                    refine wpAnyH_monoS (S2 := fun w' => (Gr w6 w' ∧ wr.heap.size < w'.heap.size ∧ w'.cell? ⟨wr.heap.size, 1, none⟩ = some (.int .i64 at_) ∧ w'.cell? ⟨wr.heap.size, 2, none⟩ = some (.int .i64 3) ∧ w'.cell? ⟨w.heap.size + 1, 0, none⟩ = some (.int .i64 D.beg)) ∧ w'.cell? ⟨w9.heap.size, 3, none⟩ = some (.string ⟨#[98, 117, 102, 102, 101, 114, 32]⟩)) (fun _ h => h.1) _ _ _ _ ?_
                    have hHeld2 : (Gr w6 (w9.alloc (.cells #[.string ⟨#[]⟩, .string ⟨#[103, 111, 32]⟩, .string ⟨#[103, 97, 116, 101, 32]⟩, .string ⟨#[98, 117, 102, 102, 101, 114, 32]⟩] 9)) ∧ wr.heap.size < (w9.alloc (.cells #[.string ⟨#[]⟩, .string ⟨#[103, 111, 32]⟩, .string ⟨#[103, 97, 116, 101, 32]⟩, .string ⟨#[98, 117, 102, 102, 101, 114, 32]⟩] 9)).heap.size ∧ (w9.alloc (.cells #[.string ⟨#[]⟩, .string ⟨#[103, 111, 32]⟩, .string ⟨#[103, 97, 116, 101, 32]⟩, .string ⟨#[98, 117, 102, 102, 101, 114, 32]⟩] 9)).cell? ⟨wr.heap.size, 1, none⟩ = some (.int .i64 at_) ∧ (w9.alloc (.cells #[.string ⟨#[]⟩, .string ⟨#[103, 111, 32]⟩, .string ⟨#[103, 97, 116, 101, 32]⟩, .string ⟨#[98, 117, 102, 102, 101, 114, 32]⟩] 9)).cell? ⟨wr.heap.size, 2, none⟩ = some (.int .i64 3) ∧ (w9.alloc (.cells #[.string ⟨#[]⟩, .string ⟨#[103, 111, 32]⟩, .string ⟨#[103, 97, 116, 101, 32]⟩, .string ⟨#[98, 117, 102, 102, 101, 114, 32]⟩] 9)).cell? ⟨w.heap.size + 1, 0, none⟩ = some (.int .i64 D.beg)) ∧ (w9.alloc (.cells #[.string ⟨#[]⟩, .string ⟨#[103, 111, 32]⟩, .string ⟨#[103, 97, 116, 101, 32]⟩, .string ⟨#[98, 117, 102, 102, 101, 114, 32]⟩] 9)).cell? ⟨w9.heap.size, 3, none⟩ = some (.string ⟨#[98, 117, 102, 102, 101, 114, 32]⟩) := ⟨hHeld, by simp⟩
                    clear hHeld
                    (refine wpAnyH_take (i := 4) (v := ?_) rfl (by kernel_rfl) (by kernel_rfl) (by kernel_rfl) (fun _ _ _ h => h) (Or.inl ⟨by rfl, ?_⟩) (by assumption) ?_; rotate_left; (focus (intro w hSw; (try dsimp only at hSw); go_simp; try with_reducible rfl)); try simp only [Act.put, List.getElem_toArray, List.getElem_cons_zero, List.getElem_cons_succ, List.setIfInBounds_toArray, List.set_cons_zero, List.set_cons_succ])
                    (refine wpAnyH_take (i := 5) (v := ?_) rfl (by kernel_rfl) (by kernel_rfl) (by kernel_rfl) (fun _ _ _ h => h) (Or.inl ⟨by rfl, ?_⟩) (by assumption) ?_; rotate_left; (focus (intro w hSw; (try dsimp only at hSw); go_simp; try with_reducible rfl)); try simp only [Act.put, List.getElem_toArray, List.getElem_cons_zero, List.getElem_cons_succ, List.setIfInBounds_toArray, List.set_cons_zero, List.set_cons_succ])
                    (refine wpAnyH_take (i := 6) (v := ?_) rfl (by kernel_rfl) (by kernel_rfl) (by kernel_rfl) (fun _ _ _ h => h) (Or.inl ⟨by rfl, ?_⟩) (by assumption) ?_; rotate_left; (focus (intro w hSw; (try dsimp only at hSw); go_simp; try with_reducible rfl)); try simp only [Act.put, List.getElem_toArray, List.getElem_cons_zero, List.getElem_cons_succ, List.setIfInBounds_toArray, List.set_cons_zero, List.set_cons_succ])
                    (refine wpAnyH_take (i := 13) (v := ?_) rfl (by kernel_rfl) (by kernel_rfl) (by kernel_rfl) (fun _ _ _ h => h) (Or.inl ⟨by rfl, ?_⟩) (by assumption) ?_; rotate_left; (focus (intro w hSw; (try dsimp only at hSw); go_simp; try with_reducible rfl)); try simp only [Act.put, List.getElem_toArray, List.getElem_cons_zero, List.getElem_cons_succ, List.setIfInBounds_toArray, List.set_cons_zero, List.set_cons_succ])
                    (refine wpAnyH_take (i := 14) (v := ?_) rfl (by kernel_rfl) (by kernel_rfl) (by kernel_rfl) (fun _ _ _ h => h) (Or.inl ⟨by rfl, ?_⟩) (by assumption) ?_; rotate_left; (focus (intro w hSw; (try dsimp only at hSw); go_simp; try with_reducible rfl)); try simp only [Act.put, List.getElem_toArray, List.getElem_cons_zero, List.getElem_cons_succ, List.setIfInBounds_toArray, List.set_cons_zero, List.set_cons_succ])
                    (refine wpAnyH_take (i := 15) (v := ?_) rfl (by kernel_rfl) (by kernel_rfl) (by kernel_rfl) (fun _ _ _ h => h) (Or.inl ⟨by rfl, ?_⟩) (by assumption) ?_; rotate_left; (focus (intro w hSw; (try dsimp only at hSw); go_simp; try with_reducible rfl)); try simp only [Act.put, List.getElem_toArray, List.getElem_cons_zero, List.getElem_cons_succ, List.setIfInBounds_toArray, List.set_cons_zero, List.set_cons_succ])
                    refine wpAnyH_done (by kernel_rfl) ?_ _
                    clear hHeld2
                    go_wp2_with fail
                    go_meet
                    case rel => exact ⟨rfl, G9.alloc _⟩
                case rest =>
                  obtain ⟨rfl, gz⟩ := hcut
                  obtain ⟨zl, c2', c3', zb, p2', z7, v7'⟩ := HX6.out _ gz
                  have giz := giL.trans gz
                  have GZ := (gwn.trans gi).trans (gL.trans gz)
                  have qd : ¬ 9223372036854775807 < V.size + 7 + cl.size + 1 + nn.size := by omega
                  have qe : ¬ 9223372036854775807 < V.size + 7 + cl.size + 1 + nn.size + 1 := by omega
                  clear HX6 t1 t2 t3 d0 p0 p2 v7
                  go_wp2_with fail
                  go_roundw
                  case rel => exact ⟨j + 1, by rw [HN1.out, unl_snoc, HV.out, ← leg_textBuf], by go_num, hlj, giz⟩
                  case measure => simp [intOf]; omega
            · rcases m1 with rfl | rfl | rfl
              · rw [if_pos rfl] at m5
                have hx : x < P.ss.length := by omega
                obtain ⟨b7, o7, hs7, z7, v7, -⟩ := (HSG.out.gr (gwn.trans gi)).at x hx
                simp only [Option.some.injEq, Addr.mk.injEq, and_true] at hs7
                obtain ⟨rfl, rfl⟩ := hs7
                have hw : wordsL P D.beg ⟨true, at_, 1, x⟩ = [bTurn, bGo, clkT ((D.beg + at_) % 86400), P.ss[x].n] := by
                  have e2 : nameTo P ⟨true, at_, 1, x⟩ = P.ss[x].n := by
                    show (P.ss.getD ((x : Int)).toNat default).n = _
                    rw [Int.toNat_natCast, getD_at _ _ hx]
                  unfold wordsL
                  rw [e2]; rfl
                have hn8 : P.ss[x].n.size ≤ 8 := nm_size (HNS.out _ (List.getElem_mem hx))
                rw [hw] at HN1
                clear hw hnn hws
                generalize P.ss[x].n = nn at v7 HN1 hn8
                generalize clkT ((D.beg + at_) % 86400) = cl at HCP2 HN1 hck
                have x0 : (0 : Int) ≤ (x : Int) := by omega
                have x1 : (x : Int) < (P.ss.length : Int) := by omega
                have gL : Gr wr (wr.alloc (.cells #[.bool true, .int .i64 at_, .int .i64 1, .int .i64 (x : Int)] 54)) := (Gr.refl _).alloc _
                have zL : wr.heap.size < (wr.alloc (.cells #[.bool true, .int .i64 at_, .int .i64 1, .int .i64 (x : Int)] 54)).heap.size := by simp
                have t1 : (wr.alloc (.cells #[.bool true, .int .i64 at_, .int .i64 1, .int .i64 (x : Int)] 54)).cell? ⟨wr.heap.size, 1, none⟩ = some (.int .i64 at_) := by rw [World.cell?_alloc_mark]; rfl
                have t2 : (wr.alloc (.cells #[.bool true, .int .i64 at_, .int .i64 1, .int .i64 (x : Int)] 54)).cell? ⟨wr.heap.size, 2, none⟩ = some (.int .i64 1) := by rw [World.cell?_alloc_mark]; rfl
                have t3 : (wr.alloc (.cells #[.bool true, .int .i64 at_, .int .i64 1, .int .i64 (x : Int)] 54)).cell? ⟨wr.heap.size, 3, none⟩ = some (.int .i64 (x : Int)) := by rw [World.cell?_alloc_mark]; rfl
                go_upto_region 19 with fail
                have zd6 := Nat.lt_of_lt_of_le zd gL.size
                have zb6 := Nat.lt_of_lt_of_le zb gL.size
                have z76 := Nat.lt_of_lt_of_le z7 gL.size
                replace d0 := (gL.cell _ _ zd).trans d0
                replace p0 := (gL.cell _ _ zb).trans p0
                replace p2 := (gL.cell _ _ zb).trans p2
                replace v7 := (gL.cell _ _ z7).trans v7
                have giL := gi.trans gL
                clear y0 y1 y2 y3 p1 p3 p4 p5 p6 p7 p8 d1 d2 z7 zd zb
                generalize wr.alloc (.cells #[.bool true, .int .i64 at_, .int .i64 1, .int .i64 (x : Int)] 54) = w6 at *
                have HX6 := Lib.hid (fun (w' : World) (g : Gr w6 w') => (⟨Nat.lt_of_lt_of_le zL g.size, (g.cell _ _ zL).trans t2, (g.cell _ _ zL).trans t3, Nat.lt_of_lt_of_le zb6 g.size, (g.cell _ _ zb6).trans p2, Nat.lt_of_lt_of_le z76 g.size, (g.cell _ _ z76).trans v7⟩ : wr.heap.size < w'.heap.size ∧ w'.cell? ⟨wr.heap.size, 2, none⟩ = some (.int .i64 1) ∧ w'.cell? ⟨wr.heap.size, 3, none⟩ = some (.int .i64 (x : Int)) ∧ w.heap.size < w'.heap.size ∧ w'.cell? ⟨w.heap.size, 2, none⟩ = _ ∧ _ < w'.heap.size ∧ w'.cell? _ = some (.string nn)))
                have q0 : ¬ 9223372036854775807 < V.size + 5 := by omega
                have qa : ¬ 9223372036854775807 < V.size + 5 + 3 := by omega
                have qb : ¬ 9223372036854775807 < V.size + 5 + 3 + cl.size := by omega
                have qc : ¬ 9223372036854775807 < V.size + 5 + 3 + cl.size + 1 := by omega
                go_cut [7] from 78 to 122 (fun s wc => s = .string (V ++ ⟨#[116, 117, 114, 110, 32]⟩ ++ ⟨#[103, 111, 32]⟩ ++ cl ++ ⟨#[32]⟩) ∧ Gr w6 wc)
                case first =>
                  have HS := Lib.hid (fun (w' : World) (g : Gr w6 w') => (⟨g, Nat.lt_of_lt_of_le zL g.size, (g.cell _ _ zL).trans t1, (g.cell _ _ zL).trans t2, (g.cell _ _ zd6).trans d0⟩ : Gr w6 w' ∧ wr.heap.size < w'.heap.size ∧ w'.cell? ⟨wr.heap.size, 1, none⟩ = some (.int .i64 at_) ∧ w'.cell? ⟨wr.heap.size, 2, none⟩ = some (.int .i64 1) ∧ w'.cell? ⟨w.heap.size + 1, 0, none⟩ = some (.int .i64 D.beg)))
                  clear HX6 HN1 HV HPN HPD HCKP HDX HB HX5 HX2 HRN HST HSG HNS HKR HKL HDN HPI HZ HMY HLG HLP HU HPS HWR hS2 t3 p0 p2 v7 hck
                  refine wp_region_held_drew (S := fun w' => Gr w6 w' ∧ wr.heap.size < w'.heap.size ∧ w'.cell? ⟨wr.heap.size, 1, none⟩ = some (.int .i64 at_) ∧ w'.cell? ⟨wr.heap.size, 2, none⟩ = some (.int .i64 1) ∧ w'.cell? ⟨w.heap.size + 1, 0, none⟩ = some (.int .i64 D.beg)) (by kernel_rfl) (HS.out _ (Gr.refl _).drew) (fun hHeld => ?_)
                  (refine wpAnyH_take (i := 0) (v := ?_) rfl (by kernel_rfl) (by kernel_rfl) (by kernel_rfl) (fun _ _ _ h => h) (Or.inl ⟨by rfl, ?_⟩) (by assumption) ?_; rotate_left; (focus (intro w hSw; (try dsimp only at hSw); go_simp; try with_reducible rfl)); try simp only [Act.put, List.getElem_toArray, List.getElem_cons_zero, List.getElem_cons_succ, List.setIfInBounds_toArray, List.set_cons_zero, List.set_cons_succ])
                  (refine wpAnyH_take (i := 2) (v := ?_) rfl (by kernel_rfl) (by kernel_rfl) (by kernel_rfl) (fun _ _ _ h => h) (Or.inl ⟨by rfl, ?_⟩) (by assumption) ?_; rotate_left; (focus (intro w hSw; (try dsimp only at hSw); go_simp; try with_reducible rfl)); try simp only [Act.put, List.getElem_toArray, List.getElem_cons_zero, List.getElem_cons_succ, List.setIfInBounds_toArray, List.set_cons_zero, List.set_cons_succ])
                  (refine wpAnyH_take (i := 3) (v := ?_) rfl (by kernel_rfl) (by kernel_rfl) (by kernel_rfl) (fun _ _ _ h => h) (Or.inl ⟨by rfl, ?_⟩) (by assumption) ?_; rotate_left; (focus (intro w hSw; (try dsimp only at hSw); go_simp; try with_reducible rfl)); try simp only [Act.put, List.getElem_toArray, List.getElem_cons_zero, List.getElem_cons_succ, List.setIfInBounds_toArray, List.set_cons_zero, List.set_cons_succ])
                  (refine wpAnyH_take (i := 7) (v := ?_) rfl (by kernel_rfl) (by kernel_rfl) (by kernel_rfl) (fun _ _ _ h => h) (Or.inl ⟨by rfl, ?_⟩) (by assumption) ?_; rotate_left; (focus (intro w hSw; (try dsimp only at hSw); go_simp; try with_reducible rfl)); try simp only [Act.put, List.getElem_toArray, List.getElem_cons_zero, List.getElem_cons_succ, List.setIfInBounds_toArray, List.set_cons_zero, List.set_cons_succ])
                  (refine wpAnyH_take (i := 8) (v := ?_) rfl (by kernel_rfl) (by kernel_rfl) (by kernel_rfl) (fun _ _ _ h => h) (Or.inl ⟨by rfl, ?_⟩) (by assumption) ?_; rotate_left; (focus (intro w hSw; (try dsimp only at hSw); go_simp; try with_reducible rfl)); try simp only [Act.put, List.getElem_toArray, List.getElem_cons_zero, List.getElem_cons_succ, List.setIfInBounds_toArray, List.set_cons_zero, List.set_cons_succ])
                  (refine wpAnyH_take (i := 9) (v := ?_) rfl (by kernel_rfl) (by kernel_rfl) (by kernel_rfl) (fun _ _ _ h => h) (Or.inl ⟨by rfl, ?_⟩) (by assumption) ?_; rotate_left; (focus (intro w hSw; (try dsimp only at hSw); go_simp; try with_reducible rfl)); try simp only [Act.put, List.getElem_toArray, List.getElem_cons_zero, List.getElem_cons_succ, List.setIfInBounds_toArray, List.set_cons_zero, List.set_cons_succ])
                  (refine wpAnyH_take (i := 10) (v := ?_) rfl (by kernel_rfl) (by kernel_rfl) (by kernel_rfl) (fun _ _ _ h => h) (Or.inl ⟨by rfl, ?_⟩) (by assumption) ?_; rotate_left; (focus (intro w hSw; (try dsimp only at hSw); go_simp; try with_reducible rfl)); try simp only [Act.put, List.getElem_toArray, List.getElem_cons_zero, List.getElem_cons_succ, List.setIfInBounds_toArray, List.set_cons_zero, List.set_cons_succ])
                  (refine wpAnyH_take (i := 11) (v := ?_) rfl (by kernel_rfl) (by kernel_rfl) (by kernel_rfl) (fun _ _ _ h => h) (Or.inl ⟨by rfl, ?_⟩) (by assumption) ?_; rotate_left; (focus (intro w hSw; (try dsimp only at hSw); go_simp; try with_reducible rfl)); try simp only [Act.put, List.getElem_toArray, List.getElem_cons_zero, List.getElem_cons_succ, List.setIfInBounds_toArray, List.set_cons_zero, List.set_cons_succ])
                  refine wpAnyH_ready (rs := [1, 12]) (by kernel_rfl) (by simp) ?_
                  refine AllReadyH.cons rfl (fun K hK => ?_) (AllReadyH.cons rfl (fun K hK => ?_) AllReadyH.nil)
                  · go_simp
                    refine hK.out _ _ (HS.out _ ((Gr.refl _).alloc _).drew) (fun hHeld => ?_)
                    clear hK K
                    try simp only [Act.put, List.setIfInBounds_toArray, List.set_cons_zero, List.set_cons_succ]
                    refine wpAnyH_monoS (S2 := fun w' => (Gr w6 w' ∧ wr.heap.size < w'.heap.size ∧ w'.cell? ⟨wr.heap.size, 1, none⟩ = some (.int .i64 at_) ∧ w'.cell? ⟨wr.heap.size, 2, none⟩ = some (.int .i64 1) ∧ w'.cell? ⟨w.heap.size + 1, 0, none⟩ = some (.int .i64 D.beg)) ∧ w'.cell? ⟨w6.heap.size, 1, none⟩ = some (.string ⟨#[103, 111, 32]⟩)) (fun _ h => h.1) _ _ _ _ ?_
                    have hHeld2 : (Gr w6 ((w6.alloc (.cells #[.string ⟨#[]⟩, .string ⟨#[103, 111, 32]⟩, .string ⟨#[103, 97, 116, 101, 32]⟩, .string ⟨#[98, 117, 102, 102, 101, 114, 32]⟩] 9)).drew) ∧ wr.heap.size < ((w6.alloc (.cells #[.string ⟨#[]⟩, .string ⟨#[103, 111, 32]⟩, .string ⟨#[103, 97, 116, 101, 32]⟩, .string ⟨#[98, 117, 102, 102, 101, 114, 32]⟩] 9)).drew).heap.size ∧ ((w6.alloc (.cells #[.string ⟨#[]⟩, .string ⟨#[103, 111, 32]⟩, .string ⟨#[103, 97, 116, 101, 32]⟩, .string ⟨#[98, 117, 102, 102, 101, 114, 32]⟩] 9)).drew).cell? ⟨wr.heap.size, 1, none⟩ = some (.int .i64 at_) ∧ ((w6.alloc (.cells #[.string ⟨#[]⟩, .string ⟨#[103, 111, 32]⟩, .string ⟨#[103, 97, 116, 101, 32]⟩, .string ⟨#[98, 117, 102, 102, 101, 114, 32]⟩] 9)).drew).cell? ⟨wr.heap.size, 2, none⟩ = some (.int .i64 1) ∧ ((w6.alloc (.cells #[.string ⟨#[]⟩, .string ⟨#[103, 111, 32]⟩, .string ⟨#[103, 97, 116, 101, 32]⟩, .string ⟨#[98, 117, 102, 102, 101, 114, 32]⟩] 9)).drew).cell? ⟨w.heap.size + 1, 0, none⟩ = some (.int .i64 D.beg)) ∧ ((w6.alloc (.cells #[.string ⟨#[]⟩, .string ⟨#[103, 111, 32]⟩, .string ⟨#[103, 97, 116, 101, 32]⟩, .string ⟨#[98, 117, 102, 102, 101, 114, 32]⟩] 9)).drew).cell? ⟨w6.heap.size, 1, none⟩ = some (.string ⟨#[103, 111, 32]⟩) := ⟨hHeld, by simp⟩
                    clear hHeld
                    (refine wpAnyH_take (i := 4) (v := ?_) rfl (by kernel_rfl) (by kernel_rfl) (by kernel_rfl) (fun _ _ _ h => h) (Or.inl ⟨by rfl, ?_⟩) (by assumption) ?_; rotate_left; (focus (intro w hSw; (try dsimp only at hSw); go_simp; try with_reducible rfl)); try simp only [Act.put, List.getElem_toArray, List.getElem_cons_zero, List.getElem_cons_succ, List.setIfInBounds_toArray, List.set_cons_zero, List.set_cons_succ])
                    (refine wpAnyH_take (i := 5) (v := ?_) rfl (by kernel_rfl) (by kernel_rfl) (by kernel_rfl) (fun _ _ _ h => h) (Or.inl ⟨by rfl, ?_⟩) (by assumption) ?_; rotate_left; (focus (intro w hSw; (try dsimp only at hSw); go_simp; try with_reducible rfl)); try simp only [Act.put, List.getElem_toArray, List.getElem_cons_zero, List.getElem_cons_succ, List.setIfInBounds_toArray, List.set_cons_zero, List.set_cons_succ])
                    (refine wpAnyH_take (i := 6) (v := ?_) rfl (by kernel_rfl) (by kernel_rfl) (by kernel_rfl) (fun _ _ _ h => h) (Or.inl ⟨by rfl, ?_⟩) (by assumption) ?_; rotate_left; (focus (intro w hSw; (try dsimp only at hSw); go_simp; try with_reducible rfl)); try simp only [Act.put, List.getElem_toArray, List.getElem_cons_zero, List.getElem_cons_succ, List.setIfInBounds_toArray, List.set_cons_zero, List.set_cons_succ])
                    refine wpAnyH_ready (rs := [12]) (by kernel_rfl) (by simp) ?_
                    refine AllReadyH.cons rfl (fun K hK => ?_) AllReadyH.nil
                    go_simp
                    go_at_call 48
                    (with_reducible refine (HCP2.out _).mono ?_)
                    rintro e w9 ⟨rfl, h9⟩
                    try go_wp2_with fail
                    have G9 : Gr w6 w9 := ((Gr.refl _).alloc _).drew.trans h9
                    have n1 : w9.cell? ⟨w6.heap.size, 1, none⟩ = some (.string ⟨#[103, 111, 32]⟩) := by (refine (h9.cell _ _ ?_).trans ?_ <;> simp)
                    refine hK.out _ _ ⟨HS.out _ G9, n1⟩ (fun hHeld => ?_)
                    clear hK K hHeld2
                    try simp only [Act.put, List.setIfInBounds_toArray, List.set_cons_zero, List.set_cons_succ]
                    (refine wpAnyH_take (i := 13) (v := ?_) rfl (by kernel_rfl) (by kernel_rfl) (by kernel_rfl) (fun _ _ _ h => h) (Or.inl ⟨by rfl, ?_⟩) (by assumption) ?_; rotate_left; (focus (intro w hSw; (try dsimp only at hSw); go_simp; try with_reducible rfl)); try simp only [Act.put, List.getElem_toArray, List.getElem_cons_zero, List.getElem_cons_succ, List.setIfInBounds_toArray, List.set_cons_zero, List.set_cons_succ])
                    (refine wpAnyH_take (i := 14) (v := ?_) rfl (by kernel_rfl) (by kernel_rfl) (by kernel_rfl) (fun _ _ _ h => h) (Or.inl ⟨by rfl, ?_⟩) (by assumption) ?_; rotate_left; (focus (intro w hSw; (try dsimp only at hSw); go_simp; try with_reducible rfl)); try simp only [Act.put, List.getElem_toArray, List.getElem_cons_zero, List.getElem_cons_succ, List.setIfInBounds_toArray, List.set_cons_zero, List.set_cons_succ])
                    (refine wpAnyH_take (i := 15) (v := ?_) rfl (by kernel_rfl) (by kernel_rfl) (by kernel_rfl) (fun _ _ _ h => h) (Or.inl ⟨by rfl, ?_⟩) (by assumption) ?_; rotate_left; (focus (intro w hSw; (try dsimp only at hSw); go_simp; try with_reducible rfl)); try simp only [Act.put, List.getElem_toArray, List.getElem_cons_zero, List.getElem_cons_succ, List.setIfInBounds_toArray, List.set_cons_zero, List.set_cons_succ])
                    refine wpAnyH_done (by kernel_rfl) ?_ _
                    clear hHeld
                    go_wp2_with fail
                    go_meet
                    case rel => exact ⟨rfl, G9⟩
                  · go_simp
                    go_at_call 48
                    (with_reducible refine (HCP2.out _).mono ?_)
                    rintro e w9 ⟨rfl, h9⟩
                    try go_wp2_with fail
                    have G9 : Gr w6 w9 := (Gr.refl _).drew.trans h9
                    refine hK.out _ _ (HS.out _ G9) (fun hHeld2 => ?_)
                    clear hK K hHeld
                    try simp only [Act.put, List.setIfInBounds_toArray, List.set_cons_zero, List.set_cons_succ]
                    refine wpAnyH_ready (rs := [1]) (by kernel_rfl) (by simp) ?_
                    refine AllReadyH.cons rfl (fun K hK => ?_) AllReadyH.nil
                    go_simp
                    refine hK.out _ _ (HS.out _ (G9.alloc _)) (fun hHeld => ?_)
                    clear hK K hHeld2
                    try simp only [Act.put, List.setIfInBounds_toArray, List.set_cons_zero, List.set_cons_succ]
                    refine wpAnyH_monoS (S2 := fun w' => (Gr w6 w' ∧ wr.heap.size < w'.heap.size ∧ w'.cell? ⟨wr.heap.size, 1, none⟩ = some (.int .i64 at_) ∧ w'.cell? ⟨wr.heap.size, 2, none⟩ = some (.int .i64 1) ∧ w'.cell? ⟨w.heap.size + 1, 0, none⟩ = some (.int .i64 D.beg)) ∧ w'.cell? ⟨w9.heap.size, 1, none⟩ = some (.string ⟨#[103, 111, 32]⟩)) (fun _ h => h.1) _ _ _ _ ?_
                    have hHeld2 : (Gr w6 (w9.alloc (.cells #[.string ⟨#[]⟩, .string ⟨#[103, 111, 32]⟩, .string ⟨#[103, 97, 116, 101, 32]⟩, .string ⟨#[98, 117, 102, 102, 101, 114, 32]⟩] 9)) ∧ wr.heap.size < (w9.alloc (.cells #[.string ⟨#[]⟩, .string ⟨#[103, 111, 32]⟩, .string ⟨#[103, 97, 116, 101, 32]⟩, .string ⟨#[98, 117, 102, 102, 101, 114, 32]⟩] 9)).heap.size ∧ (w9.alloc (.cells #[.string ⟨#[]⟩, .string ⟨#[103, 111, 32]⟩, .string ⟨#[103, 97, 116, 101, 32]⟩, .string ⟨#[98, 117, 102, 102, 101, 114, 32]⟩] 9)).cell? ⟨wr.heap.size, 1, none⟩ = some (.int .i64 at_) ∧ (w9.alloc (.cells #[.string ⟨#[]⟩, .string ⟨#[103, 111, 32]⟩, .string ⟨#[103, 97, 116, 101, 32]⟩, .string ⟨#[98, 117, 102, 102, 101, 114, 32]⟩] 9)).cell? ⟨wr.heap.size, 2, none⟩ = some (.int .i64 1) ∧ (w9.alloc (.cells #[.string ⟨#[]⟩, .string ⟨#[103, 111, 32]⟩, .string ⟨#[103, 97, 116, 101, 32]⟩, .string ⟨#[98, 117, 102, 102, 101, 114, 32]⟩] 9)).cell? ⟨w.heap.size + 1, 0, none⟩ = some (.int .i64 D.beg)) ∧ (w9.alloc (.cells #[.string ⟨#[]⟩, .string ⟨#[103, 111, 32]⟩, .string ⟨#[103, 97, 116, 101, 32]⟩, .string ⟨#[98, 117, 102, 102, 101, 114, 32]⟩] 9)).cell? ⟨w9.heap.size, 1, none⟩ = some (.string ⟨#[103, 111, 32]⟩) := ⟨hHeld, by simp⟩
                    clear hHeld
                    (refine wpAnyH_take (i := 4) (v := ?_) rfl (by kernel_rfl) (by kernel_rfl) (by kernel_rfl) (fun _ _ _ h => h) (Or.inl ⟨by rfl, ?_⟩) (by assumption) ?_; rotate_left; (focus (intro w hSw; (try dsimp only at hSw); go_simp; try with_reducible rfl)); try simp only [Act.put, List.getElem_toArray, List.getElem_cons_zero, List.getElem_cons_succ, List.setIfInBounds_toArray, List.set_cons_zero, List.set_cons_succ])
                    (refine wpAnyH_take (i := 5) (v := ?_) rfl (by kernel_rfl) (by kernel_rfl) (by kernel_rfl) (fun _ _ _ h => h) (Or.inl ⟨by rfl, ?_⟩) (by assumption) ?_; rotate_left; (focus (intro w hSw; (try dsimp only at hSw); go_simp; try with_reducible rfl)); try simp only [Act.put, List.getElem_toArray, List.getElem_cons_zero, List.getElem_cons_succ, List.setIfInBounds_toArray, List.set_cons_zero, List.set_cons_succ])
                    (refine wpAnyH_take (i := 6) (v := ?_) rfl (by kernel_rfl) (by kernel_rfl) (by kernel_rfl) (fun _ _ _ h => h) (Or.inl ⟨by rfl, ?_⟩) (by assumption) ?_; rotate_left; (focus (intro w hSw; (try dsimp only at hSw); go_simp; try with_reducible rfl)); try simp only [Act.put, List.getElem_toArray, List.getElem_cons_zero, List.getElem_cons_succ, List.setIfInBounds_toArray, List.set_cons_zero, List.set_cons_succ])
                    (refine wpAnyH_take (i := 13) (v := ?_) rfl (by kernel_rfl) (by kernel_rfl) (by kernel_rfl) (fun _ _ _ h => h) (Or.inl ⟨by rfl, ?_⟩) (by assumption) ?_; rotate_left; (focus (intro w hSw; (try dsimp only at hSw); go_simp; try with_reducible rfl)); try simp only [Act.put, List.getElem_toArray, List.getElem_cons_zero, List.getElem_cons_succ, List.setIfInBounds_toArray, List.set_cons_zero, List.set_cons_succ])
                    (refine wpAnyH_take (i := 14) (v := ?_) rfl (by kernel_rfl) (by kernel_rfl) (by kernel_rfl) (fun _ _ _ h => h) (Or.inl ⟨by rfl, ?_⟩) (by assumption) ?_; rotate_left; (focus (intro w hSw; (try dsimp only at hSw); go_simp; try with_reducible rfl)); try simp only [Act.put, List.getElem_toArray, List.getElem_cons_zero, List.getElem_cons_succ, List.setIfInBounds_toArray, List.set_cons_zero, List.set_cons_succ])
                    (refine wpAnyH_take (i := 15) (v := ?_) rfl (by kernel_rfl) (by kernel_rfl) (by kernel_rfl) (fun _ _ _ h => h) (Or.inl ⟨by rfl, ?_⟩) (by assumption) ?_; rotate_left; (focus (intro w hSw; (try dsimp only at hSw); go_simp; try with_reducible rfl)); try simp only [Act.put, List.getElem_toArray, List.getElem_cons_zero, List.getElem_cons_succ, List.setIfInBounds_toArray, List.set_cons_zero, List.set_cons_succ])
                    refine wpAnyH_done (by kernel_rfl) ?_ _
                    clear hHeld2
                    go_wp2_with fail
                    go_meet
                    case rel => exact ⟨rfl, G9.alloc _⟩
                case rest =>
                  obtain ⟨rfl, gz⟩ := hcut
                  obtain ⟨zl, c2', c3', zb, p2', z7, v7'⟩ := HX6.out _ gz
                  have giz := giL.trans gz
                  have GZ := (gwn.trans gi).trans (gL.trans gz)
                  have qd : ¬ 9223372036854775807 < V.size + 5 + 3 + cl.size + 1 + nn.size := by omega
                  have qe : ¬ 9223372036854775807 < V.size + 5 + 3 + cl.size + 1 + nn.size + 1 := by omega
                  clear HX6 t1 t2 t3 d0 p0 p2 v7
                  go_wp2_with fail
                  go_roundw
                  case rel => exact ⟨j + 1, by rw [HN1.out, unl_snoc, HV.out, ← leg_textGoT], by go_num, hlj, giz⟩
                  case measure => simp [intOf]; omega
              · rw [if_neg (by decide)] at m5
                have hx : x < P.es.length := by omega
                obtain ⟨b7, o7, hs7, z7, v7, -⟩ := (HEL.out.gr (gwn.trans gi)).at x hx
                subst hs7
                have hw : wordsL P D.beg ⟨true, at_, 2, x⟩ = [bTurn, bGate, clkT ((D.beg + at_) % 86400), P.es[x].n] := by
                  have e2 : nameTo P ⟨true, at_, 2, x⟩ = P.es[x].n := by
                    show (P.es.getD ((x : Int)).toNat default).n = _
                    rw [Int.toNat_natCast, getD_at _ _ hx]
                  unfold wordsL
                  rw [e2]; rfl
                have hn8 : P.es[x].n.size ≤ 8 := nm_size (HNE.out _ (List.getElem_mem hx))
                rw [hw] at HN1
                clear hw hnn hws
                generalize P.es[x].n = nn at v7 HN1 hn8
                generalize clkT ((D.beg + at_) % 86400) = cl at HCP2 HN1 hck
                have x0 : (0 : Int) ≤ (x : Int) := by omega
                have x1 : (x : Int) < (P.es.length : Int) := by omega
                have gL : Gr wr (wr.alloc (.cells #[.bool true, .int .i64 at_, .int .i64 2, .int .i64 (x : Int)] 54)) := (Gr.refl _).alloc _
                have zL : wr.heap.size < (wr.alloc (.cells #[.bool true, .int .i64 at_, .int .i64 2, .int .i64 (x : Int)] 54)).heap.size := by simp
                have t1 : (wr.alloc (.cells #[.bool true, .int .i64 at_, .int .i64 2, .int .i64 (x : Int)] 54)).cell? ⟨wr.heap.size, 1, none⟩ = some (.int .i64 at_) := by rw [World.cell?_alloc_mark]; rfl
                have t2 : (wr.alloc (.cells #[.bool true, .int .i64 at_, .int .i64 2, .int .i64 (x : Int)] 54)).cell? ⟨wr.heap.size, 2, none⟩ = some (.int .i64 2) := by rw [World.cell?_alloc_mark]; rfl
                have t3 : (wr.alloc (.cells #[.bool true, .int .i64 at_, .int .i64 2, .int .i64 (x : Int)] 54)).cell? ⟨wr.heap.size, 3, none⟩ = some (.int .i64 (x : Int)) := by rw [World.cell?_alloc_mark]; rfl
                go_upto_region 19 with fail
                have zd6 := Nat.lt_of_lt_of_le zd gL.size
                have zb6 := Nat.lt_of_lt_of_le zb gL.size
                have z76 := Nat.lt_of_lt_of_le z7 gL.size
                replace d0 := (gL.cell _ _ zd).trans d0
                replace p0 := (gL.cell _ _ zb).trans p0
                replace p2 := (gL.cell _ _ zb).trans p2
                replace v7 := (gL.cell _ _ z7).trans v7
                have giL := gi.trans gL
                clear y0 y1 y2 y3 p1 p3 p4 p5 p6 p7 p8 d1 d2 z7 zd zb
                generalize wr.alloc (.cells #[.bool true, .int .i64 at_, .int .i64 2, .int .i64 (x : Int)] 54) = w6 at *
                have HX6 := Lib.hid (fun (w' : World) (g : Gr w6 w') => (⟨Nat.lt_of_lt_of_le zL g.size, (g.cell _ _ zL).trans t2, (g.cell _ _ zL).trans t3, Nat.lt_of_lt_of_le zb6 g.size, (g.cell _ _ zb6).trans p0, Nat.lt_of_lt_of_le z76 g.size, (g.cell _ _ z76).trans v7⟩ : wr.heap.size < w'.heap.size ∧ w'.cell? ⟨wr.heap.size, 2, none⟩ = some (.int .i64 2) ∧ w'.cell? ⟨wr.heap.size, 3, none⟩ = some (.int .i64 (x : Int)) ∧ w.heap.size < w'.heap.size ∧ w'.cell? ⟨w.heap.size, 0, none⟩ = _ ∧ _ < w'.heap.size ∧ w'.cell? _ = some (.string nn)))
                have q0 : ¬ 9223372036854775807 < V.size + 5 := by omega
                have qa : ¬ 9223372036854775807 < V.size + 5 + 5 := by omega
                have qb : ¬ 9223372036854775807 < V.size + 5 + 5 + cl.size := by omega
                have qc : ¬ 9223372036854775807 < V.size + 5 + 5 + cl.size + 1 := by omega
                go_cut [7] from 78 to 122 (fun s wc => s = .string (V ++ ⟨#[116, 117, 114, 110, 32]⟩ ++ ⟨#[103, 97, 116, 101, 32]⟩ ++ cl ++ ⟨#[32]⟩) ∧ Gr w6 wc)
                case first =>
                  have HS := Lib.hid (fun (w' : World) (g : Gr w6 w') => (⟨g, Nat.lt_of_lt_of_le zL g.size, (g.cell _ _ zL).trans t1, (g.cell _ _ zL).trans t2, (g.cell _ _ zd6).trans d0⟩ : Gr w6 w' ∧ wr.heap.size < w'.heap.size ∧ w'.cell? ⟨wr.heap.size, 1, none⟩ = some (.int .i64 at_) ∧ w'.cell? ⟨wr.heap.size, 2, none⟩ = some (.int .i64 2) ∧ w'.cell? ⟨w.heap.size + 1, 0, none⟩ = some (.int .i64 D.beg)))
                  clear HX6 HN1 HV HPN HPD HCKP HDX HB HX5 HX2 HRN HST HSG HNS HKR HKL HDN HPI HZ HMY HLG HLP HU HPS HWR hS2 t3 p0 p2 v7 hck
                  refine wp_region_held_drew (S := fun w' => Gr w6 w' ∧ wr.heap.size < w'.heap.size ∧ w'.cell? ⟨wr.heap.size, 1, none⟩ = some (.int .i64 at_) ∧ w'.cell? ⟨wr.heap.size, 2, none⟩ = some (.int .i64 2) ∧ w'.cell? ⟨w.heap.size + 1, 0, none⟩ = some (.int .i64 D.beg)) (by kernel_rfl) (HS.out _ (Gr.refl _).drew) (fun hHeld => ?_)
                  (refine wpAnyH_take (i := 0) (v := ?_) rfl (by kernel_rfl) (by kernel_rfl) (by kernel_rfl) (fun _ _ _ h => h) (Or.inl ⟨by rfl, ?_⟩) (by assumption) ?_; rotate_left; (focus (intro w hSw; (try dsimp only at hSw); go_simp; try with_reducible rfl)); try simp only [Act.put, List.getElem_toArray, List.getElem_cons_zero, List.getElem_cons_succ, List.setIfInBounds_toArray, List.set_cons_zero, List.set_cons_succ])
                  (refine wpAnyH_take (i := 2) (v := ?_) rfl (by kernel_rfl) (by kernel_rfl) (by kernel_rfl) (fun _ _ _ h => h) (Or.inl ⟨by rfl, ?_⟩) (by assumption) ?_; rotate_left; (focus (intro w hSw; (try dsimp only at hSw); go_simp; try with_reducible rfl)); try simp only [Act.put, List.getElem_toArray, List.getElem_cons_zero, List.getElem_cons_succ, List.setIfInBounds_toArray, List.set_cons_zero, List.set_cons_succ])
                  (refine wpAnyH_take (i := 3) (v := ?_) rfl (by kernel_rfl) (by kernel_rfl) (by kernel_rfl) (fun _ _ _ h => h) (Or.inl ⟨by rfl, ?_⟩) (by assumption) ?_; rotate_left; (focus (intro w hSw; (try dsimp only at hSw); go_simp; try with_reducible rfl)); try simp only [Act.put, List.getElem_toArray, List.getElem_cons_zero, List.getElem_cons_succ, List.setIfInBounds_toArray, List.set_cons_zero, List.set_cons_succ])
                  (refine wpAnyH_take (i := 7) (v := ?_) rfl (by kernel_rfl) (by kernel_rfl) (by kernel_rfl) (fun _ _ _ h => h) (Or.inl ⟨by rfl, ?_⟩) (by assumption) ?_; rotate_left; (focus (intro w hSw; (try dsimp only at hSw); go_simp; try with_reducible rfl)); try simp only [Act.put, List.getElem_toArray, List.getElem_cons_zero, List.getElem_cons_succ, List.setIfInBounds_toArray, List.set_cons_zero, List.set_cons_succ])
                  (refine wpAnyH_take (i := 8) (v := ?_) rfl (by kernel_rfl) (by kernel_rfl) (by kernel_rfl) (fun _ _ _ h => h) (Or.inl ⟨by rfl, ?_⟩) (by assumption) ?_; rotate_left; (focus (intro w hSw; (try dsimp only at hSw); go_simp; try with_reducible rfl)); try simp only [Act.put, List.getElem_toArray, List.getElem_cons_zero, List.getElem_cons_succ, List.setIfInBounds_toArray, List.set_cons_zero, List.set_cons_succ])
                  (refine wpAnyH_take (i := 9) (v := ?_) rfl (by kernel_rfl) (by kernel_rfl) (by kernel_rfl) (fun _ _ _ h => h) (Or.inl ⟨by rfl, ?_⟩) (by assumption) ?_; rotate_left; (focus (intro w hSw; (try dsimp only at hSw); go_simp; try with_reducible rfl)); try simp only [Act.put, List.getElem_toArray, List.getElem_cons_zero, List.getElem_cons_succ, List.setIfInBounds_toArray, List.set_cons_zero, List.set_cons_succ])
                  (refine wpAnyH_take (i := 10) (v := ?_) rfl (by kernel_rfl) (by kernel_rfl) (by kernel_rfl) (fun _ _ _ h => h) (Or.inl ⟨by rfl, ?_⟩) (by assumption) ?_; rotate_left; (focus (intro w hSw; (try dsimp only at hSw); go_simp; try with_reducible rfl)); try simp only [Act.put, List.getElem_toArray, List.getElem_cons_zero, List.getElem_cons_succ, List.setIfInBounds_toArray, List.set_cons_zero, List.set_cons_succ])
                  (refine wpAnyH_take (i := 11) (v := ?_) rfl (by kernel_rfl) (by kernel_rfl) (by kernel_rfl) (fun _ _ _ h => h) (Or.inl ⟨by rfl, ?_⟩) (by assumption) ?_; rotate_left; (focus (intro w hSw; (try dsimp only at hSw); go_simp; try with_reducible rfl)); try simp only [Act.put, List.getElem_toArray, List.getElem_cons_zero, List.getElem_cons_succ, List.setIfInBounds_toArray, List.set_cons_zero, List.set_cons_succ])
                  refine wpAnyH_ready (rs := [1, 12]) (by kernel_rfl) (by simp) ?_
                  refine AllReadyH.cons rfl (fun K hK => ?_) (AllReadyH.cons rfl (fun K hK => ?_) AllReadyH.nil)
                  · go_simp
                    refine hK.out _ _ (HS.out _ ((Gr.refl _).alloc _).drew) (fun hHeld => ?_)
                    clear hK K
                    try simp only [Act.put, List.setIfInBounds_toArray, List.set_cons_zero, List.set_cons_succ]
                    refine wpAnyH_monoS (S2 := fun w' => (Gr w6 w' ∧ wr.heap.size < w'.heap.size ∧ w'.cell? ⟨wr.heap.size, 1, none⟩ = some (.int .i64 at_) ∧ w'.cell? ⟨wr.heap.size, 2, none⟩ = some (.int .i64 2) ∧ w'.cell? ⟨w.heap.size + 1, 0, none⟩ = some (.int .i64 D.beg)) ∧ w'.cell? ⟨w6.heap.size, 2, none⟩ = some (.string ⟨#[103, 97, 116, 101, 32]⟩)) (fun _ h => h.1) _ _ _ _ ?_
                    have hHeld2 : (Gr w6 ((w6.alloc (.cells #[.string ⟨#[]⟩, .string ⟨#[103, 111, 32]⟩, .string ⟨#[103, 97, 116, 101, 32]⟩, .string ⟨#[98, 117, 102, 102, 101, 114, 32]⟩] 9)).drew) ∧ wr.heap.size < ((w6.alloc (.cells #[.string ⟨#[]⟩, .string ⟨#[103, 111, 32]⟩, .string ⟨#[103, 97, 116, 101, 32]⟩, .string ⟨#[98, 117, 102, 102, 101, 114, 32]⟩] 9)).drew).heap.size ∧ ((w6.alloc (.cells #[.string ⟨#[]⟩, .string ⟨#[103, 111, 32]⟩, .string ⟨#[103, 97, 116, 101, 32]⟩, .string ⟨#[98, 117, 102, 102, 101, 114, 32]⟩] 9)).drew).cell? ⟨wr.heap.size, 1, none⟩ = some (.int .i64 at_) ∧ ((w6.alloc (.cells #[.string ⟨#[]⟩, .string ⟨#[103, 111, 32]⟩, .string ⟨#[103, 97, 116, 101, 32]⟩, .string ⟨#[98, 117, 102, 102, 101, 114, 32]⟩] 9)).drew).cell? ⟨wr.heap.size, 2, none⟩ = some (.int .i64 2) ∧ ((w6.alloc (.cells #[.string ⟨#[]⟩, .string ⟨#[103, 111, 32]⟩, .string ⟨#[103, 97, 116, 101, 32]⟩, .string ⟨#[98, 117, 102, 102, 101, 114, 32]⟩] 9)).drew).cell? ⟨w.heap.size + 1, 0, none⟩ = some (.int .i64 D.beg)) ∧ ((w6.alloc (.cells #[.string ⟨#[]⟩, .string ⟨#[103, 111, 32]⟩, .string ⟨#[103, 97, 116, 101, 32]⟩, .string ⟨#[98, 117, 102, 102, 101, 114, 32]⟩] 9)).drew).cell? ⟨w6.heap.size, 2, none⟩ = some (.string ⟨#[103, 97, 116, 101, 32]⟩) := ⟨hHeld, by simp⟩
                    clear hHeld
                    (refine wpAnyH_take (i := 4) (v := ?_) rfl (by kernel_rfl) (by kernel_rfl) (by kernel_rfl) (fun _ _ _ h => h) (Or.inl ⟨by rfl, ?_⟩) (by assumption) ?_; rotate_left; (focus (intro w hSw; (try dsimp only at hSw); go_simp; try with_reducible rfl)); try simp only [Act.put, List.getElem_toArray, List.getElem_cons_zero, List.getElem_cons_succ, List.setIfInBounds_toArray, List.set_cons_zero, List.set_cons_succ])
                    (refine wpAnyH_take (i := 5) (v := ?_) rfl (by kernel_rfl) (by kernel_rfl) (by kernel_rfl) (fun _ _ _ h => h) (Or.inl ⟨by rfl, ?_⟩) (by assumption) ?_; rotate_left; (focus (intro w hSw; (try dsimp only at hSw); go_simp; try with_reducible rfl)); try simp only [Act.put, List.getElem_toArray, List.getElem_cons_zero, List.getElem_cons_succ, List.setIfInBounds_toArray, List.set_cons_zero, List.set_cons_succ])
                    (refine wpAnyH_take (i := 6) (v := ?_) rfl (by kernel_rfl) (by kernel_rfl) (by kernel_rfl) (fun _ _ _ h => h) (Or.inl ⟨by rfl, ?_⟩) (by assumption) ?_; rotate_left; (focus (intro w hSw; (try dsimp only at hSw); go_simp; try with_reducible rfl)); try simp only [Act.put, List.getElem_toArray, List.getElem_cons_zero, List.getElem_cons_succ, List.setIfInBounds_toArray, List.set_cons_zero, List.set_cons_succ])
                    refine wpAnyH_ready (rs := [12]) (by kernel_rfl) (by simp) ?_
                    refine AllReadyH.cons rfl (fun K hK => ?_) AllReadyH.nil
                    go_simp
                    go_at_call 48
                    (with_reducible refine (HCP2.out _).mono ?_)
                    rintro e w9 ⟨rfl, h9⟩
                    try go_wp2_with fail
                    have G9 : Gr w6 w9 := ((Gr.refl _).alloc _).drew.trans h9
                    have n1 : w9.cell? ⟨w6.heap.size, 2, none⟩ = some (.string ⟨#[103, 97, 116, 101, 32]⟩) := by (refine (h9.cell _ _ ?_).trans ?_ <;> simp)
                    refine hK.out _ _ ⟨HS.out _ G9, n1⟩ (fun hHeld => ?_)
                    clear hK K hHeld2
                    try simp only [Act.put, List.setIfInBounds_toArray, List.set_cons_zero, List.set_cons_succ]
                    (refine wpAnyH_take (i := 13) (v := ?_) rfl (by kernel_rfl) (by kernel_rfl) (by kernel_rfl) (fun _ _ _ h => h) (Or.inl ⟨by rfl, ?_⟩) (by assumption) ?_; rotate_left; (focus (intro w hSw; (try dsimp only at hSw); go_simp; try with_reducible rfl)); try simp only [Act.put, List.getElem_toArray, List.getElem_cons_zero, List.getElem_cons_succ, List.setIfInBounds_toArray, List.set_cons_zero, List.set_cons_succ])
                    (refine wpAnyH_take (i := 14) (v := ?_) rfl (by kernel_rfl) (by kernel_rfl) (by kernel_rfl) (fun _ _ _ h => h) (Or.inl ⟨by rfl, ?_⟩) (by assumption) ?_; rotate_left; (focus (intro w hSw; (try dsimp only at hSw); go_simp; try with_reducible rfl)); try simp only [Act.put, List.getElem_toArray, List.getElem_cons_zero, List.getElem_cons_succ, List.setIfInBounds_toArray, List.set_cons_zero, List.set_cons_succ])
                    (refine wpAnyH_take (i := 15) (v := ?_) rfl (by kernel_rfl) (by kernel_rfl) (by kernel_rfl) (fun _ _ _ h => h) (Or.inl ⟨by rfl, ?_⟩) (by assumption) ?_; rotate_left; (focus (intro w hSw; (try dsimp only at hSw); go_simp; try with_reducible rfl)); try simp only [Act.put, List.getElem_toArray, List.getElem_cons_zero, List.getElem_cons_succ, List.setIfInBounds_toArray, List.set_cons_zero, List.set_cons_succ])
                    refine wpAnyH_done (by kernel_rfl) ?_ _
                    clear hHeld
                    go_wp2_with fail
                    go_meet
                    case rel => exact ⟨rfl, G9⟩
                  · go_simp
                    go_at_call 48
                    (with_reducible refine (HCP2.out _).mono ?_)
                    rintro e w9 ⟨rfl, h9⟩
                    try go_wp2_with fail
                    have G9 : Gr w6 w9 := (Gr.refl _).drew.trans h9
                    refine hK.out _ _ (HS.out _ G9) (fun hHeld2 => ?_)
                    clear hK K hHeld
                    try simp only [Act.put, List.setIfInBounds_toArray, List.set_cons_zero, List.set_cons_succ]
                    refine wpAnyH_ready (rs := [1]) (by kernel_rfl) (by simp) ?_
                    refine AllReadyH.cons rfl (fun K hK => ?_) AllReadyH.nil
                    go_simp
                    refine hK.out _ _ (HS.out _ (G9.alloc _)) (fun hHeld => ?_)
                    clear hK K hHeld2
                    try simp only [Act.put, List.setIfInBounds_toArray, List.set_cons_zero, List.set_cons_succ]
                    refine wpAnyH_monoS (S2 := fun w' => (Gr w6 w' ∧ wr.heap.size < w'.heap.size ∧ w'.cell? ⟨wr.heap.size, 1, none⟩ = some (.int .i64 at_) ∧ w'.cell? ⟨wr.heap.size, 2, none⟩ = some (.int .i64 2) ∧ w'.cell? ⟨w.heap.size + 1, 0, none⟩ = some (.int .i64 D.beg)) ∧ w'.cell? ⟨w9.heap.size, 2, none⟩ = some (.string ⟨#[103, 97, 116, 101, 32]⟩)) (fun _ h => h.1) _ _ _ _ ?_
                    have hHeld2 : (Gr w6 (w9.alloc (.cells #[.string ⟨#[]⟩, .string ⟨#[103, 111, 32]⟩, .string ⟨#[103, 97, 116, 101, 32]⟩, .string ⟨#[98, 117, 102, 102, 101, 114, 32]⟩] 9)) ∧ wr.heap.size < (w9.alloc (.cells #[.string ⟨#[]⟩, .string ⟨#[103, 111, 32]⟩, .string ⟨#[103, 97, 116, 101, 32]⟩, .string ⟨#[98, 117, 102, 102, 101, 114, 32]⟩] 9)).heap.size ∧ (w9.alloc (.cells #[.string ⟨#[]⟩, .string ⟨#[103, 111, 32]⟩, .string ⟨#[103, 97, 116, 101, 32]⟩, .string ⟨#[98, 117, 102, 102, 101, 114, 32]⟩] 9)).cell? ⟨wr.heap.size, 1, none⟩ = some (.int .i64 at_) ∧ (w9.alloc (.cells #[.string ⟨#[]⟩, .string ⟨#[103, 111, 32]⟩, .string ⟨#[103, 97, 116, 101, 32]⟩, .string ⟨#[98, 117, 102, 102, 101, 114, 32]⟩] 9)).cell? ⟨wr.heap.size, 2, none⟩ = some (.int .i64 2) ∧ (w9.alloc (.cells #[.string ⟨#[]⟩, .string ⟨#[103, 111, 32]⟩, .string ⟨#[103, 97, 116, 101, 32]⟩, .string ⟨#[98, 117, 102, 102, 101, 114, 32]⟩] 9)).cell? ⟨w.heap.size + 1, 0, none⟩ = some (.int .i64 D.beg)) ∧ (w9.alloc (.cells #[.string ⟨#[]⟩, .string ⟨#[103, 111, 32]⟩, .string ⟨#[103, 97, 116, 101, 32]⟩, .string ⟨#[98, 117, 102, 102, 101, 114, 32]⟩] 9)).cell? ⟨w9.heap.size, 2, none⟩ = some (.string ⟨#[103, 97, 116, 101, 32]⟩) := ⟨hHeld, by simp⟩
                    clear hHeld
                    (refine wpAnyH_take (i := 4) (v := ?_) rfl (by kernel_rfl) (by kernel_rfl) (by kernel_rfl) (fun _ _ _ h => h) (Or.inl ⟨by rfl, ?_⟩) (by assumption) ?_; rotate_left; (focus (intro w hSw; (try dsimp only at hSw); go_simp; try with_reducible rfl)); try simp only [Act.put, List.getElem_toArray, List.getElem_cons_zero, List.getElem_cons_succ, List.setIfInBounds_toArray, List.set_cons_zero, List.set_cons_succ])
                    (refine wpAnyH_take (i := 5) (v := ?_) rfl (by kernel_rfl) (by kernel_rfl) (by kernel_rfl) (fun _ _ _ h => h) (Or.inl ⟨by rfl, ?_⟩) (by assumption) ?_; rotate_left; (focus (intro w hSw; (try dsimp only at hSw); go_simp; try with_reducible rfl)); try simp only [Act.put, List.getElem_toArray, List.getElem_cons_zero, List.getElem_cons_succ, List.setIfInBounds_toArray, List.set_cons_zero, List.set_cons_succ])
                    (refine wpAnyH_take (i := 6) (v := ?_) rfl (by kernel_rfl) (by kernel_rfl) (by kernel_rfl) (fun _ _ _ h => h) (Or.inl ⟨by rfl, ?_⟩) (by assumption) ?_; rotate_left; (focus (intro w hSw; (try dsimp only at hSw); go_simp; try with_reducible rfl)); try simp only [Act.put, List.getElem_toArray, List.getElem_cons_zero, List.getElem_cons_succ, List.setIfInBounds_toArray, List.set_cons_zero, List.set_cons_succ])
                    (refine wpAnyH_take (i := 13) (v := ?_) rfl (by kernel_rfl) (by kernel_rfl) (by kernel_rfl) (fun _ _ _ h => h) (Or.inl ⟨by rfl, ?_⟩) (by assumption) ?_; rotate_left; (focus (intro w hSw; (try dsimp only at hSw); go_simp; try with_reducible rfl)); try simp only [Act.put, List.getElem_toArray, List.getElem_cons_zero, List.getElem_cons_succ, List.setIfInBounds_toArray, List.set_cons_zero, List.set_cons_succ])
                    (refine wpAnyH_take (i := 14) (v := ?_) rfl (by kernel_rfl) (by kernel_rfl) (by kernel_rfl) (fun _ _ _ h => h) (Or.inl ⟨by rfl, ?_⟩) (by assumption) ?_; rotate_left; (focus (intro w hSw; (try dsimp only at hSw); go_simp; try with_reducible rfl)); try simp only [Act.put, List.getElem_toArray, List.getElem_cons_zero, List.getElem_cons_succ, List.setIfInBounds_toArray, List.set_cons_zero, List.set_cons_succ])
                    (refine wpAnyH_take (i := 15) (v := ?_) rfl (by kernel_rfl) (by kernel_rfl) (by kernel_rfl) (fun _ _ _ h => h) (Or.inl ⟨by rfl, ?_⟩) (by assumption) ?_; rotate_left; (focus (intro w hSw; (try dsimp only at hSw); go_simp; try with_reducible rfl)); try simp only [Act.put, List.getElem_toArray, List.getElem_cons_zero, List.getElem_cons_succ, List.setIfInBounds_toArray, List.set_cons_zero, List.set_cons_succ])
                    refine wpAnyH_done (by kernel_rfl) ?_ _
                    clear hHeld2
                    go_wp2_with fail
                    go_meet
                    case rel => exact ⟨rfl, G9.alloc _⟩
                case rest =>
                  obtain ⟨rfl, gz⟩ := hcut
                  obtain ⟨zl, c2', c3', zb, p2', z7, v7'⟩ := HX6.out _ gz
                  have giz := giL.trans gz
                  have GZ := (gwn.trans gi).trans (gL.trans gz)
                  have qd : ¬ 9223372036854775807 < V.size + 5 + 5 + cl.size + 1 + nn.size := by omega
                  have qe : ¬ 9223372036854775807 < V.size + 5 + 5 + cl.size + 1 + nn.size + 1 := by omega
                  clear HX6 t1 t2 t3 d0 p0 p2 v7
                  go_wp2_with fail
                  go_roundw
                  case rel => exact ⟨j + 1, by rw [HN1.out, unl_snoc, HV.out, ← leg_textGateT], by go_num, hlj, giz⟩
                  case measure => simp [intOf]; omega
              · rw [if_neg (by decide)] at m5
                have hx : x < P.es.length := by omega
                obtain ⟨b7, o7, hs7, z7, v7, -⟩ := (HEL.out.gr (gwn.trans gi)).at x hx
                subst hs7
                have hw : wordsL P D.beg ⟨true, at_, 3, x⟩ = [bTurn, bBuffer, clkT ((D.beg + at_) % 86400), P.es[x].n] := by
                  have e2 : nameTo P ⟨true, at_, 3, x⟩ = P.es[x].n := by
                    show (P.es.getD ((x : Int)).toNat default).n = _
                    rw [Int.toNat_natCast, getD_at _ _ hx]
                  unfold wordsL
                  rw [e2]; rfl
                have hn8 : P.es[x].n.size ≤ 8 := nm_size (HNE.out _ (List.getElem_mem hx))
                rw [hw] at HN1
                clear hw hnn hws
                generalize P.es[x].n = nn at v7 HN1 hn8
                generalize clkT ((D.beg + at_) % 86400) = cl at HCP2 HN1 hck
                have x0 : (0 : Int) ≤ (x : Int) := by omega
                have x1 : (x : Int) < (P.es.length : Int) := by omega
                have gL : Gr wr (wr.alloc (.cells #[.bool true, .int .i64 at_, .int .i64 3, .int .i64 (x : Int)] 54)) := (Gr.refl _).alloc _
                have zL : wr.heap.size < (wr.alloc (.cells #[.bool true, .int .i64 at_, .int .i64 3, .int .i64 (x : Int)] 54)).heap.size := by simp
                have t1 : (wr.alloc (.cells #[.bool true, .int .i64 at_, .int .i64 3, .int .i64 (x : Int)] 54)).cell? ⟨wr.heap.size, 1, none⟩ = some (.int .i64 at_) := by rw [World.cell?_alloc_mark]; rfl
                have t2 : (wr.alloc (.cells #[.bool true, .int .i64 at_, .int .i64 3, .int .i64 (x : Int)] 54)).cell? ⟨wr.heap.size, 2, none⟩ = some (.int .i64 3) := by rw [World.cell?_alloc_mark]; rfl
                have t3 : (wr.alloc (.cells #[.bool true, .int .i64 at_, .int .i64 3, .int .i64 (x : Int)] 54)).cell? ⟨wr.heap.size, 3, none⟩ = some (.int .i64 (x : Int)) := by rw [World.cell?_alloc_mark]; rfl
                go_upto_region 19 with fail
                have zd6 := Nat.lt_of_lt_of_le zd gL.size
                have zb6 := Nat.lt_of_lt_of_le zb gL.size
                have z76 := Nat.lt_of_lt_of_le z7 gL.size
                replace d0 := (gL.cell _ _ zd).trans d0
                replace p0 := (gL.cell _ _ zb).trans p0
                replace p2 := (gL.cell _ _ zb).trans p2
                replace v7 := (gL.cell _ _ z7).trans v7
                have giL := gi.trans gL
                clear y0 y1 y2 y3 p1 p3 p4 p5 p6 p7 p8 d1 d2 z7 zd zb
                generalize wr.alloc (.cells #[.bool true, .int .i64 at_, .int .i64 3, .int .i64 (x : Int)] 54) = w6 at *
                have HX6 := Lib.hid (fun (w' : World) (g : Gr w6 w') => (⟨Nat.lt_of_lt_of_le zL g.size, (g.cell _ _ zL).trans t2, (g.cell _ _ zL).trans t3, Nat.lt_of_lt_of_le zb6 g.size, (g.cell _ _ zb6).trans p0, Nat.lt_of_lt_of_le z76 g.size, (g.cell _ _ z76).trans v7⟩ : wr.heap.size < w'.heap.size ∧ w'.cell? ⟨wr.heap.size, 2, none⟩ = some (.int .i64 3) ∧ w'.cell? ⟨wr.heap.size, 3, none⟩ = some (.int .i64 (x : Int)) ∧ w.heap.size < w'.heap.size ∧ w'.cell? ⟨w.heap.size, 0, none⟩ = _ ∧ _ < w'.heap.size ∧ w'.cell? _ = some (.string nn)))
                have q0 : ¬ 9223372036854775807 < V.size + 5 := by omega
                have qa : ¬ 9223372036854775807 < V.size + 5 + 7 := by omega
                have qb : ¬ 9223372036854775807 < V.size + 5 + 7 + cl.size := by omega
                have qc : ¬ 9223372036854775807 < V.size + 5 + 7 + cl.size + 1 := by omega
                go_cut [7] from 78 to 122 (fun s wc => s = .string (V ++ ⟨#[116, 117, 114, 110, 32]⟩ ++ ⟨#[98, 117, 102, 102, 101, 114, 32]⟩ ++ cl ++ ⟨#[32]⟩) ∧ Gr w6 wc)
                case first =>
                  have HS := Lib.hid (fun (w' : World) (g : Gr w6 w') => (⟨g, Nat.lt_of_lt_of_le zL g.size, (g.cell _ _ zL).trans t1, (g.cell _ _ zL).trans t2, (g.cell _ _ zd6).trans d0⟩ : Gr w6 w' ∧ wr.heap.size < w'.heap.size ∧ w'.cell? ⟨wr.heap.size, 1, none⟩ = some (.int .i64 at_) ∧ w'.cell? ⟨wr.heap.size, 2, none⟩ = some (.int .i64 3) ∧ w'.cell? ⟨w.heap.size + 1, 0, none⟩ = some (.int .i64 D.beg)))
                  clear HX6 HN1 HV HPN HPD HCKP HDX HB HX5 HX2 HRN HST HSG HNS HKR HKL HDN HPI HZ HMY HLG HLP HU HPS HWR hS2 t3 p0 p2 v7 hck
                  refine wp_region_held_drew (S := fun w' => Gr w6 w' ∧ wr.heap.size < w'.heap.size ∧ w'.cell? ⟨wr.heap.size, 1, none⟩ = some (.int .i64 at_) ∧ w'.cell? ⟨wr.heap.size, 2, none⟩ = some (.int .i64 3) ∧ w'.cell? ⟨w.heap.size + 1, 0, none⟩ = some (.int .i64 D.beg)) (by kernel_rfl) (HS.out _ (Gr.refl _).drew) (fun hHeld => ?_)
                  (refine wpAnyH_take (i := 0) (v := ?_) rfl (by kernel_rfl) (by kernel_rfl) (by kernel_rfl) (fun _ _ _ h => h) (Or.inl ⟨by rfl, ?_⟩) (by assumption) ?_; rotate_left; (focus (intro w hSw; (try dsimp only at hSw); go_simp; try with_reducible rfl)); try simp only [Act.put, List.getElem_toArray, List.getElem_cons_zero, List.getElem_cons_succ, List.setIfInBounds_toArray, List.set_cons_zero, List.set_cons_succ])
                  (refine wpAnyH_take (i := 2) (v := ?_) rfl (by kernel_rfl) (by kernel_rfl) (by kernel_rfl) (fun _ _ _ h => h) (Or.inl ⟨by rfl, ?_⟩) (by assumption) ?_; rotate_left; (focus (intro w hSw; (try dsimp only at hSw); go_simp; try with_reducible rfl)); try simp only [Act.put, List.getElem_toArray, List.getElem_cons_zero, List.getElem_cons_succ, List.setIfInBounds_toArray, List.set_cons_zero, List.set_cons_succ])
                  (refine wpAnyH_take (i := 3) (v := ?_) rfl (by kernel_rfl) (by kernel_rfl) (by kernel_rfl) (fun _ _ _ h => h) (Or.inl ⟨by rfl, ?_⟩) (by assumption) ?_; rotate_left; (focus (intro w hSw; (try dsimp only at hSw); go_simp; try with_reducible rfl)); try simp only [Act.put, List.getElem_toArray, List.getElem_cons_zero, List.getElem_cons_succ, List.setIfInBounds_toArray, List.set_cons_zero, List.set_cons_succ])
                  (refine wpAnyH_take (i := 7) (v := ?_) rfl (by kernel_rfl) (by kernel_rfl) (by kernel_rfl) (fun _ _ _ h => h) (Or.inl ⟨by rfl, ?_⟩) (by assumption) ?_; rotate_left; (focus (intro w hSw; (try dsimp only at hSw); go_simp; try with_reducible rfl)); try simp only [Act.put, List.getElem_toArray, List.getElem_cons_zero, List.getElem_cons_succ, List.setIfInBounds_toArray, List.set_cons_zero, List.set_cons_succ])
                  (refine wpAnyH_take (i := 8) (v := ?_) rfl (by kernel_rfl) (by kernel_rfl) (by kernel_rfl) (fun _ _ _ h => h) (Or.inl ⟨by rfl, ?_⟩) (by assumption) ?_; rotate_left; (focus (intro w hSw; (try dsimp only at hSw); go_simp; try with_reducible rfl)); try simp only [Act.put, List.getElem_toArray, List.getElem_cons_zero, List.getElem_cons_succ, List.setIfInBounds_toArray, List.set_cons_zero, List.set_cons_succ])
                  (refine wpAnyH_take (i := 9) (v := ?_) rfl (by kernel_rfl) (by kernel_rfl) (by kernel_rfl) (fun _ _ _ h => h) (Or.inl ⟨by rfl, ?_⟩) (by assumption) ?_; rotate_left; (focus (intro w hSw; (try dsimp only at hSw); go_simp; try with_reducible rfl)); try simp only [Act.put, List.getElem_toArray, List.getElem_cons_zero, List.getElem_cons_succ, List.setIfInBounds_toArray, List.set_cons_zero, List.set_cons_succ])
                  (refine wpAnyH_take (i := 10) (v := ?_) rfl (by kernel_rfl) (by kernel_rfl) (by kernel_rfl) (fun _ _ _ h => h) (Or.inl ⟨by rfl, ?_⟩) (by assumption) ?_; rotate_left; (focus (intro w hSw; (try dsimp only at hSw); go_simp; try with_reducible rfl)); try simp only [Act.put, List.getElem_toArray, List.getElem_cons_zero, List.getElem_cons_succ, List.setIfInBounds_toArray, List.set_cons_zero, List.set_cons_succ])
                  (refine wpAnyH_take (i := 11) (v := ?_) rfl (by kernel_rfl) (by kernel_rfl) (by kernel_rfl) (fun _ _ _ h => h) (Or.inl ⟨by rfl, ?_⟩) (by assumption) ?_; rotate_left; (focus (intro w hSw; (try dsimp only at hSw); go_simp; try with_reducible rfl)); try simp only [Act.put, List.getElem_toArray, List.getElem_cons_zero, List.getElem_cons_succ, List.setIfInBounds_toArray, List.set_cons_zero, List.set_cons_succ])
                  refine wpAnyH_ready (rs := [1, 12]) (by kernel_rfl) (by simp) ?_
                  refine AllReadyH.cons rfl (fun K hK => ?_) (AllReadyH.cons rfl (fun K hK => ?_) AllReadyH.nil)
                  · go_simp
                    refine hK.out _ _ (HS.out _ ((Gr.refl _).alloc _).drew) (fun hHeld => ?_)
                    clear hK K
                    try simp only [Act.put, List.setIfInBounds_toArray, List.set_cons_zero, List.set_cons_succ]
                    refine wpAnyH_monoS (S2 := fun w' => (Gr w6 w' ∧ wr.heap.size < w'.heap.size ∧ w'.cell? ⟨wr.heap.size, 1, none⟩ = some (.int .i64 at_) ∧ w'.cell? ⟨wr.heap.size, 2, none⟩ = some (.int .i64 3) ∧ w'.cell? ⟨w.heap.size + 1, 0, none⟩ = some (.int .i64 D.beg)) ∧ w'.cell? ⟨w6.heap.size, 3, none⟩ = some (.string ⟨#[98, 117, 102, 102, 101, 114, 32]⟩)) (fun _ h => h.1) _ _ _ _ ?_
                    have hHeld2 : (Gr w6 ((w6.alloc (.cells #[.string ⟨#[]⟩, .string ⟨#[103, 111, 32]⟩, .string ⟨#[103, 97, 116, 101, 32]⟩, .string ⟨#[98, 117, 102, 102, 101, 114, 32]⟩] 9)).drew) ∧ wr.heap.size < ((w6.alloc (.cells #[.string ⟨#[]⟩, .string ⟨#[103, 111, 32]⟩, .string ⟨#[103, 97, 116, 101, 32]⟩, .string ⟨#[98, 117, 102, 102, 101, 114, 32]⟩] 9)).drew).heap.size ∧ ((w6.alloc (.cells #[.string ⟨#[]⟩, .string ⟨#[103, 111, 32]⟩, .string ⟨#[103, 97, 116, 101, 32]⟩, .string ⟨#[98, 117, 102, 102, 101, 114, 32]⟩] 9)).drew).cell? ⟨wr.heap.size, 1, none⟩ = some (.int .i64 at_) ∧ ((w6.alloc (.cells #[.string ⟨#[]⟩, .string ⟨#[103, 111, 32]⟩, .string ⟨#[103, 97, 116, 101, 32]⟩, .string ⟨#[98, 117, 102, 102, 101, 114, 32]⟩] 9)).drew).cell? ⟨wr.heap.size, 2, none⟩ = some (.int .i64 3) ∧ ((w6.alloc (.cells #[.string ⟨#[]⟩, .string ⟨#[103, 111, 32]⟩, .string ⟨#[103, 97, 116, 101, 32]⟩, .string ⟨#[98, 117, 102, 102, 101, 114, 32]⟩] 9)).drew).cell? ⟨w.heap.size + 1, 0, none⟩ = some (.int .i64 D.beg)) ∧ ((w6.alloc (.cells #[.string ⟨#[]⟩, .string ⟨#[103, 111, 32]⟩, .string ⟨#[103, 97, 116, 101, 32]⟩, .string ⟨#[98, 117, 102, 102, 101, 114, 32]⟩] 9)).drew).cell? ⟨w6.heap.size, 3, none⟩ = some (.string ⟨#[98, 117, 102, 102, 101, 114, 32]⟩) := ⟨hHeld, by simp⟩
                    clear hHeld
                    (refine wpAnyH_take (i := 4) (v := ?_) rfl (by kernel_rfl) (by kernel_rfl) (by kernel_rfl) (fun _ _ _ h => h) (Or.inl ⟨by rfl, ?_⟩) (by assumption) ?_; rotate_left; (focus (intro w hSw; (try dsimp only at hSw); go_simp; try with_reducible rfl)); try simp only [Act.put, List.getElem_toArray, List.getElem_cons_zero, List.getElem_cons_succ, List.setIfInBounds_toArray, List.set_cons_zero, List.set_cons_succ])
                    (refine wpAnyH_take (i := 5) (v := ?_) rfl (by kernel_rfl) (by kernel_rfl) (by kernel_rfl) (fun _ _ _ h => h) (Or.inl ⟨by rfl, ?_⟩) (by assumption) ?_; rotate_left; (focus (intro w hSw; (try dsimp only at hSw); go_simp; try with_reducible rfl)); try simp only [Act.put, List.getElem_toArray, List.getElem_cons_zero, List.getElem_cons_succ, List.setIfInBounds_toArray, List.set_cons_zero, List.set_cons_succ])
                    (refine wpAnyH_take (i := 6) (v := ?_) rfl (by kernel_rfl) (by kernel_rfl) (by kernel_rfl) (fun _ _ _ h => h) (Or.inl ⟨by rfl, ?_⟩) (by assumption) ?_; rotate_left; (focus (intro w hSw; (try dsimp only at hSw); go_simp; try with_reducible rfl)); try simp only [Act.put, List.getElem_toArray, List.getElem_cons_zero, List.getElem_cons_succ, List.setIfInBounds_toArray, List.set_cons_zero, List.set_cons_succ])
                    refine wpAnyH_ready (rs := [12]) (by kernel_rfl) (by simp) ?_
                    refine AllReadyH.cons rfl (fun K hK => ?_) AllReadyH.nil
                    go_simp
                    go_at_call 48
                    (with_reducible refine (HCP2.out _).mono ?_)
                    rintro e w9 ⟨rfl, h9⟩
                    try go_wp2_with fail
                    have G9 : Gr w6 w9 := ((Gr.refl _).alloc _).drew.trans h9
                    have n1 : w9.cell? ⟨w6.heap.size, 3, none⟩ = some (.string ⟨#[98, 117, 102, 102, 101, 114, 32]⟩) := by (refine (h9.cell _ _ ?_).trans ?_ <;> simp)
                    refine hK.out _ _ ⟨HS.out _ G9, n1⟩ (fun hHeld => ?_)
                    clear hK K hHeld2
                    try simp only [Act.put, List.setIfInBounds_toArray, List.set_cons_zero, List.set_cons_succ]
                    (refine wpAnyH_take (i := 13) (v := ?_) rfl (by kernel_rfl) (by kernel_rfl) (by kernel_rfl) (fun _ _ _ h => h) (Or.inl ⟨by rfl, ?_⟩) (by assumption) ?_; rotate_left; (focus (intro w hSw; (try dsimp only at hSw); go_simp; try with_reducible rfl)); try simp only [Act.put, List.getElem_toArray, List.getElem_cons_zero, List.getElem_cons_succ, List.setIfInBounds_toArray, List.set_cons_zero, List.set_cons_succ])
                    (refine wpAnyH_take (i := 14) (v := ?_) rfl (by kernel_rfl) (by kernel_rfl) (by kernel_rfl) (fun _ _ _ h => h) (Or.inl ⟨by rfl, ?_⟩) (by assumption) ?_; rotate_left; (focus (intro w hSw; (try dsimp only at hSw); go_simp; try with_reducible rfl)); try simp only [Act.put, List.getElem_toArray, List.getElem_cons_zero, List.getElem_cons_succ, List.setIfInBounds_toArray, List.set_cons_zero, List.set_cons_succ])
                    (refine wpAnyH_take (i := 15) (v := ?_) rfl (by kernel_rfl) (by kernel_rfl) (by kernel_rfl) (fun _ _ _ h => h) (Or.inl ⟨by rfl, ?_⟩) (by assumption) ?_; rotate_left; (focus (intro w hSw; (try dsimp only at hSw); go_simp; try with_reducible rfl)); try simp only [Act.put, List.getElem_toArray, List.getElem_cons_zero, List.getElem_cons_succ, List.setIfInBounds_toArray, List.set_cons_zero, List.set_cons_succ])
                    refine wpAnyH_done (by kernel_rfl) ?_ _
                    clear hHeld
                    go_wp2_with fail
                    go_meet
                    case rel => exact ⟨rfl, G9⟩
                  · go_simp
                    go_at_call 48
                    (with_reducible refine (HCP2.out _).mono ?_)
                    rintro e w9 ⟨rfl, h9⟩
                    try go_wp2_with fail
                    have G9 : Gr w6 w9 := (Gr.refl _).drew.trans h9
                    refine hK.out _ _ (HS.out _ G9) (fun hHeld2 => ?_)
                    clear hK K hHeld
                    try simp only [Act.put, List.setIfInBounds_toArray, List.set_cons_zero, List.set_cons_succ]
                    refine wpAnyH_ready (rs := [1]) (by kernel_rfl) (by simp) ?_
                    refine AllReadyH.cons rfl (fun K hK => ?_) AllReadyH.nil
                    go_simp
                    refine hK.out _ _ (HS.out _ (G9.alloc _)) (fun hHeld => ?_)
                    clear hK K hHeld2
                    try simp only [Act.put, List.setIfInBounds_toArray, List.set_cons_zero, List.set_cons_succ]
                    refine wpAnyH_monoS (S2 := fun w' => (Gr w6 w' ∧ wr.heap.size < w'.heap.size ∧ w'.cell? ⟨wr.heap.size, 1, none⟩ = some (.int .i64 at_) ∧ w'.cell? ⟨wr.heap.size, 2, none⟩ = some (.int .i64 3) ∧ w'.cell? ⟨w.heap.size + 1, 0, none⟩ = some (.int .i64 D.beg)) ∧ w'.cell? ⟨w9.heap.size, 3, none⟩ = some (.string ⟨#[98, 117, 102, 102, 101, 114, 32]⟩)) (fun _ h => h.1) _ _ _ _ ?_
                    have hHeld2 : (Gr w6 (w9.alloc (.cells #[.string ⟨#[]⟩, .string ⟨#[103, 111, 32]⟩, .string ⟨#[103, 97, 116, 101, 32]⟩, .string ⟨#[98, 117, 102, 102, 101, 114, 32]⟩] 9)) ∧ wr.heap.size < (w9.alloc (.cells #[.string ⟨#[]⟩, .string ⟨#[103, 111, 32]⟩, .string ⟨#[103, 97, 116, 101, 32]⟩, .string ⟨#[98, 117, 102, 102, 101, 114, 32]⟩] 9)).heap.size ∧ (w9.alloc (.cells #[.string ⟨#[]⟩, .string ⟨#[103, 111, 32]⟩, .string ⟨#[103, 97, 116, 101, 32]⟩, .string ⟨#[98, 117, 102, 102, 101, 114, 32]⟩] 9)).cell? ⟨wr.heap.size, 1, none⟩ = some (.int .i64 at_) ∧ (w9.alloc (.cells #[.string ⟨#[]⟩, .string ⟨#[103, 111, 32]⟩, .string ⟨#[103, 97, 116, 101, 32]⟩, .string ⟨#[98, 117, 102, 102, 101, 114, 32]⟩] 9)).cell? ⟨wr.heap.size, 2, none⟩ = some (.int .i64 3) ∧ (w9.alloc (.cells #[.string ⟨#[]⟩, .string ⟨#[103, 111, 32]⟩, .string ⟨#[103, 97, 116, 101, 32]⟩, .string ⟨#[98, 117, 102, 102, 101, 114, 32]⟩] 9)).cell? ⟨w.heap.size + 1, 0, none⟩ = some (.int .i64 D.beg)) ∧ (w9.alloc (.cells #[.string ⟨#[]⟩, .string ⟨#[103, 111, 32]⟩, .string ⟨#[103, 97, 116, 101, 32]⟩, .string ⟨#[98, 117, 102, 102, 101, 114, 32]⟩] 9)).cell? ⟨w9.heap.size, 3, none⟩ = some (.string ⟨#[98, 117, 102, 102, 101, 114, 32]⟩) := ⟨hHeld, by simp⟩
                    clear hHeld
                    (refine wpAnyH_take (i := 4) (v := ?_) rfl (by kernel_rfl) (by kernel_rfl) (by kernel_rfl) (fun _ _ _ h => h) (Or.inl ⟨by rfl, ?_⟩) (by assumption) ?_; rotate_left; (focus (intro w hSw; (try dsimp only at hSw); go_simp; try with_reducible rfl)); try simp only [Act.put, List.getElem_toArray, List.getElem_cons_zero, List.getElem_cons_succ, List.setIfInBounds_toArray, List.set_cons_zero, List.set_cons_succ])
                    (refine wpAnyH_take (i := 5) (v := ?_) rfl (by kernel_rfl) (by kernel_rfl) (by kernel_rfl) (fun _ _ _ h => h) (Or.inl ⟨by rfl, ?_⟩) (by assumption) ?_; rotate_left; (focus (intro w hSw; (try dsimp only at hSw); go_simp; try with_reducible rfl)); try simp only [Act.put, List.getElem_toArray, List.getElem_cons_zero, List.getElem_cons_succ, List.setIfInBounds_toArray, List.set_cons_zero, List.set_cons_succ])
                    (refine wpAnyH_take (i := 6) (v := ?_) rfl (by kernel_rfl) (by kernel_rfl) (by kernel_rfl) (fun _ _ _ h => h) (Or.inl ⟨by rfl, ?_⟩) (by assumption) ?_; rotate_left; (focus (intro w hSw; (try dsimp only at hSw); go_simp; try with_reducible rfl)); try simp only [Act.put, List.getElem_toArray, List.getElem_cons_zero, List.getElem_cons_succ, List.setIfInBounds_toArray, List.set_cons_zero, List.set_cons_succ])
                    (refine wpAnyH_take (i := 13) (v := ?_) rfl (by kernel_rfl) (by kernel_rfl) (by kernel_rfl) (fun _ _ _ h => h) (Or.inl ⟨by rfl, ?_⟩) (by assumption) ?_; rotate_left; (focus (intro w hSw; (try dsimp only at hSw); go_simp; try with_reducible rfl)); try simp only [Act.put, List.getElem_toArray, List.getElem_cons_zero, List.getElem_cons_succ, List.setIfInBounds_toArray, List.set_cons_zero, List.set_cons_succ])
                    (refine wpAnyH_take (i := 14) (v := ?_) rfl (by kernel_rfl) (by kernel_rfl) (by kernel_rfl) (fun _ _ _ h => h) (Or.inl ⟨by rfl, ?_⟩) (by assumption) ?_; rotate_left; (focus (intro w hSw; (try dsimp only at hSw); go_simp; try with_reducible rfl)); try simp only [Act.put, List.getElem_toArray, List.getElem_cons_zero, List.getElem_cons_succ, List.setIfInBounds_toArray, List.set_cons_zero, List.set_cons_succ])
                    (refine wpAnyH_take (i := 15) (v := ?_) rfl (by kernel_rfl) (by kernel_rfl) (by kernel_rfl) (fun _ _ _ h => h) (Or.inl ⟨by rfl, ?_⟩) (by assumption) ?_; rotate_left; (focus (intro w hSw; (try dsimp only at hSw); go_simp; try with_reducible rfl)); try simp only [Act.put, List.getElem_toArray, List.getElem_cons_zero, List.getElem_cons_succ, List.setIfInBounds_toArray, List.set_cons_zero, List.set_cons_succ])
                    refine wpAnyH_done (by kernel_rfl) ?_ _
                    clear hHeld2
                    go_wp2_with fail
                    go_meet
                    case rel => exact ⟨rfl, G9.alloc _⟩
                case rest =>
                  obtain ⟨rfl, gz⟩ := hcut
                  obtain ⟨zl, c2', c3', zb, p2', z7, v7'⟩ := HX6.out _ gz
                  have giz := giL.trans gz
                  have GZ := (gwn.trans gi).trans (gL.trans gz)
                  have qd : ¬ 9223372036854775807 < V.size + 5 + 7 + cl.size + 1 + nn.size := by omega
                  have qe : ¬ 9223372036854775807 < V.size + 5 + 7 + cl.size + 1 + nn.size + 1 := by omega
                  clear HX6 t1 t2 t3 d0 p0 p2 v7
                  go_wp2_with fail
                  go_roundw
                  case rel => exact ⟨j + 1, by rw [HN1.out, unl_snoc, HV.out, ← leg_textBufT], by go_num, hlj, giz⟩
                  case measure => simp [intOf]; omega
          · have hj1 : ¬ (j : Int) < (lg.length : Int) := by omega
            have HN1 := Lib.hid (HPD.out j (by omega))
            go_wp2_with fail
            go_roundw
            case rel => exact ⟨k + 1, by rw [← HN1.out], by go_num, hlt, g5n.trans gi⟩
            case measure => simp [intOf]; omega
      · have hk1 : ¬ (k : Int) < (D.runs.length : Int) := by omega
        have HQ : Hid (unl (preR P D k) = Z) := by show _ = _; rw [HDN.out k (by omega), HZ.out]; rfl
        generalize unl (preR P D k) = U at hS1 HQ ⊢
        have q1 : ¬ (32768 : Int) < (U.size : Int) := by omega
        go_wp2_with fail
        go_ret2
        exact ⟨by rw [HQ.out]; rfl, gw⟩
  end Go.Proofs.YtgjnlgcdpbilfaaGreatDoor
