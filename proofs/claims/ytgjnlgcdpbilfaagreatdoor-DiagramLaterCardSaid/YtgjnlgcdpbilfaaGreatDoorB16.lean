/- StM: The reference's Line; stock.Print and the reference's.
StN: stock.Print and the reference's.
DgK: diagram.Print.
DgH: diagram.Same: of diagrams that are one, and of such whose runs are fewer; the reference's Same, of diagrams that are one.
DgI: The reference's Same of diagrams that are one; one, text, Few of the law.
DgB: diagram.Last and the reference's.
DgKn: The timetables' known. -/
import Derived.Test.YtgjnlgcdpbilfaaGreatDoorRows
import Derived.Test.YtgjnlgcdpbilfaaGreatDoorB8
import Derived.Test.YtgjnlgcdpbilfaaGreatDoorB7
import Derived.Test.YtgjnlgcdpbilfaaGreatDoorB15
import Derived.Test.YtgjnlgcdpbilfaaGreatDoorB13
import Derived.Test.YtgjnlgcdpbilfaaGreatDoorB12
import Derived.Test.YtgjnlgcdpbilfaaGreatDoorB2
import Derived.Test.YtgjnlgcdpbilfaaGreatDoorB14
import Derived.Test.YtgjnlgcdpbilfaaGreatDoorB11
import Derived.Deep.RegionHeld3
namespace Go.Proofs.YtgjnlgcdpbilfaaGreatDoor
open Go.ChangeShapes Go.WideShapes Go.ChangeAt Go.RowKit Go.Maps
set_option linter.unusedVariables false
set_option linter.unusedSimpArgs false
end Go.Proofs.YtgjnlgcdpbilfaaGreatDoor
namespace Go.Proofs.YtgjnlgcdpbilfaaGreatDoor
open Go.ChangeShapes Go.WideShapes Go.ChangeAt Go.RowKit Go.Maps
set_option linter.unusedVariables false
set_option linter.unusedSimpArgs false
set_option maxRecDepth 100000 in
set_option maxHeartbeats 1000000 in
theorem stPrint_any (v : Value) (L : List Stk) (w : World) (ht : Tabs w) (hL : IsStks w v L) (hok : ∀ s ∈ L, s.nm.size ≤ maxLen) :
    Calls Tryz.prog 44 #[v] w fun e w' => e = .returned (.tuple #[.string (if plainE L = 0 then printS L else ⟨#[]⟩), .int .i64 (plainE L)]) ∧ Gr w w' := by
  have HL := Lib.hid hL
  obtain ⟨a, c, rfl, hm, hc⟩ := hL.form
  unfold maxLen at hm
  have HW := Lib.hid (wrong_any _ L w hL hok)
  have HP := Lib.hid (fun (h : plainE L = 0) => plain_ok h)
  generalize plainE L = E at HW HP ⊢
  clear hL hok
  by_cases hE : E = 0
  · obtain ⟨hlen, hmay, -⟩ := HP.out hE
    have HM := Lib.hid hmay
    have HSZ := Lib.hid (fun (k : Nat) => printS_size (L := L.take k) (fun s hs => hmay s (List.mem_of_mem_take hs)))
    rw [if_pos hE]
    subst hE
    clear HP hmay
    go_enter Tryz.func44, Tryz.ntmps44
    go_wp2_with (first | (go_at_call 69; (with_reducible refine (HW.out).mono ?_); rintro e w2 ⟨rfl, g2⟩) | fail)
    go_loopw [5, 15] (fun x y wr => ∃ k : Nat, x = .string (printS (L.take k)) ∧ y = .int .i64 k ∧ k ≤ L.length ∧ Gr w wr) (fun _ y _ => L.length - (intOf y).toNat)
    case atStart => exact ⟨0, rfl, rfl, Nat.zero_le _, g2⟩
    case round =>
      obtain ⟨k, rfl, rfl, hk, g⟩ := hrel
      by_cases hlt : k < L.length
      · have hk1 : (k : Int) < (L.length : Int) := by omega
        obtain ⟨bb, o, hs, z, y0, y1, y2, y3, y4⟩ := (HL.out.gr g).at k hlt
        subst hs
        have hmk := HM.out _ (List.getElem_mem hlt)
        have hls := lineS_size hmk
        have HLN := Lib.hid (fun (w' : World) (gt : Gr w w') => stLine_any L[k].nm L[k].l L[k].t L[k].a L[k].b w' (ht.gr gt) hmk)
        have HN : Hid (printS (L.take (k + 1)) = printS (L.take k) ++ (lineS L[k] ++ ⟨#[10]⟩)) := by
          show _ = _
          rw [List.take_succ_eq_append_getElem hlt, printS_snoc]
          apply ByteArray.ext; simp [ByteArray.data_append]
        have hsz := HSZ.out k
        rw [List.length_take, Nat.min_eq_left hk] at hsz
        have es : L[k] = ⟨L[k].nm, L[k].l, L[k].t, L[k].a, L[k].b⟩ := rfl
        rw [← es] at HLN
        clear es hmk
        generalize printS (L.take k) = S1 at HN hsz ⊢
        generalize lineS L[k] = d at HLN HN hls
        generalize hL0 : L[k] = s at y0 y1 y2 y3 y4 HLN
        clear hL0
        obtain ⟨nm, l, t, a', b⟩ := s
        dsimp only at y0 y1 y2 y3 y4 HLN
        have hS : S1.size ≤ 200 := by omega
        have q1 : ¬ 9223372036854775807 < d.size + 1 := by omega
        have q2 : ¬ 9223372036854775807 < S1.size + (d.size + 1) := by omega
        go_wp2_with (first | (go_at_call 75; (with_reducible refine (HLN.out _ (g.alloc _)).mono ?_); rintro e w3 ⟨rfl, g3⟩) | fail)
        go_roundw
        case rel => exact ⟨k + 1, congrArg Value.string HN.out.symm, by go_num, hlt, (g.alloc _).trans g3⟩
        case measure => simp [intOf]; omega
      · have hk1 : ¬ (k : Int) < (L.length : Int) := by omega
        have HQ : Hid (printS (L.take k) = printS L) := by show _ = _; rw [List.take_of_length_le (by omega)]
        go_wp2_with fail
        go_ret2
        exact ⟨by rw [HQ.out]; rfl, g⟩
  · have tE : (E != 0) = true := bneT hE
    rw [if_neg hE]
    clear hE HP
    go_enter Tryz.func44, Tryz.ntmps44
    go_wp2_with (first | (go_at_call 69; (with_reducible refine (HW.out).mono ?_); rintro e w2 ⟨rfl, g2⟩) | fail)
    go_ret2
    exact ⟨rfl, g2⟩
end Go.Proofs.YtgjnlgcdpbilfaaGreatDoor
namespace Go.Proofs.YtgjnlgcdpbilfaaGreatDoor
open Go.ChangeShapes Go.WideShapes Go.ChangeAt Go.RowKit Go.Maps
set_option linter.unusedVariables false
set_option linter.unusedSimpArgs false
theorem train_text (nm sn gn dg : ByteArray) : (⟨#[116, 114, 97, 105, 110, 32]⟩ : ByteArray) ++ nm ++ ⟨#[32]⟩ ++ sn ++ ⟨#[32]⟩ ++ gn ++ ⟨#[32]⟩ ++ dg ++ ⟨#[10]⟩ = jnW [bTrain, nm, sn, gn, dg] ++ ⟨#[10]⟩ := by
  rw [jnW_cons, jnW_cons, jnW_cons, jnW_cons, jnW_one]
  apply ByteArray.ext
  simp [ByteArray.data_append, bTrain]
theorem day_text (ck k : ByteArray) : (⟨#[100, 97, 121, 32]⟩ : ByteArray) ++ ck ++ ⟨#[10]⟩ ++ k = (jnW [bDay, ck] ++ ⟨#[10]⟩) ++ k := by
  rw [jnW_cons, jnW_one]
  apply ByteArray.ext
  simp [ByteArray.data_append, bDay]
theorem preR_zero (P : Pln) (D : Dgm) : unl (preR P D 0) = (jnW [bDay, clkT D.beg] ++ ⟨#[10]⟩) ++ printS D.st := by
  rw [preR_start, printS_rows]; rfl
set_option maxRecDepth 100000 in
set_option maxHeartbeats 4000000 in
theorem dgPrint_any (pv v : Value) (P : Pln) (D : Dgm) (w : World) (ht : Tabs w) (hP : IsPln w pv P) (hk : chk P = 0) (hD : IsDgm w v D) (hok : ∀ s ∈ D.st, s.nm.size ≤ maxLen) (hr : ∀ r ∈ D.runs, r.nm.size ≤ maxLen) :
    Calls Tryz.prog 18 #[pv, v] w fun e w' => e = .returned (.tuple #[.string (if chkD P D = 0 then printD P D else ⟨#[]⟩), .int .i64 (chkD P D)]) ∧ Gr w w' := by
  have HCK := Lib.hid (fun (w' : World) (g : Gr w w') => dgCheck_any _ _ P D w' (hP.gr g) (hD.gr g) hok hr)
  have HPI := Lib.hid hP
  obtain ⟨a1, c1, a2, c2, a3, c3, a4, c4, rfl, -, -, h3, -⟩ := hP
  have hm3 := IsRow.len h3
  obtain ⟨s1, k1, s2, k2, rfl, hS, hR⟩ := hD
  have HST := Lib.hid hS
  have HRN := Lib.hid hR
  have HSG := Lib.hid h3
  have hm : D.runs.length ≤ maxLen := by obtain ⟨_, _, _, h, _⟩ := hR.form; exact h
  have hms : D.st.length ≤ maxLen := by obtain ⟨_, _, _, h, _⟩ := hS.form; exact h
  have HSP0 := Lib.hid (fun (w' : World) (g : Gr w w') => stPrint_any _ D.st w' (ht.gr g) (hS.gr g) hok)
  have g0 : Gr w ((w.alloc (.cells #[.slice a1 P.es.length c1, .slice a2 P.js.length c2, .slice a3 P.ss.length c3, .slice a4 P.ls.length c4, .int .i64 P.top, .int .i64 P.brake, .int .i64 P.margin, .int .i64 P.throw, .bool P.hard] 27)).alloc (.cells #[.int .i64 D.beg, .slice s1 D.st.length k1, .slice s2 D.runs.length k2] 31)) := ((Gr.refl _).alloc _).alloc _
  have HB := Lib.hid (fun (w' : World) (g : Gr ((w.alloc (.cells #[.slice a1 P.es.length c1, .slice a2 P.js.length c2, .slice a3 P.ss.length c3, .slice a4 P.ls.length c4, .int .i64 P.top, .int .i64 P.brake, .int .i64 P.margin, .int .i64 P.throw, .bool P.hard] 27)).alloc (.cells #[.int .i64 D.beg, .slice s1 D.st.length k1, .slice s2 D.runs.length k2] 31)) w') => (PBox.new w P (.slice a1 P.es.length c1) (.slice a2 P.js.length c2) (.slice a3 P.ss.length c3) (.slice a4 P.ls.length c4)).gr (((Gr.refl _).alloc _).trans g))
  have HDX : Hid (∀ w', Gr ((w.alloc (.cells #[.slice a1 P.es.length c1, .slice a2 P.js.length c2, .slice a3 P.ss.length c3, .slice a4 P.ls.length c4, .int .i64 P.top, .int .i64 P.brake, .int .i64 P.margin, .int .i64 P.throw, .bool P.hard] 27)).alloc (.cells #[.int .i64 D.beg, .slice s1 D.st.length k1, .slice s2 D.runs.length k2] 31)) w' → w.heap.size + 1 < w'.heap.size ∧ w'.cell? ⟨w.heap.size + 1, 0, none⟩ = some (.int .i64 D.beg) ∧ w'.cell? ⟨w.heap.size + 1, 1, none⟩ = some (.slice s1 D.st.length k1) ∧ w'.cell? ⟨w.heap.size + 1, 2, none⟩ = some (.slice s2 D.runs.length k2)) := fun w' g => by
    have hz : w.heap.size + 1 < (((w.alloc (.cells #[.slice a1 P.es.length c1, .slice a2 P.js.length c2, .slice a3 P.ss.length c3, .slice a4 P.ls.length c4, .int .i64 P.top, .int .i64 P.brake, .int .i64 P.margin, .int .i64 P.throw, .bool P.hard] 27)).alloc (.cells #[.int .i64 D.beg, .slice s1 D.st.length k1, .slice s2 D.runs.length k2] 31))).heap.size := by simp
    exact ⟨Nat.lt_of_lt_of_le hz g.size, (g.cell _ _ hz).trans (by go_simp), (g.cell _ _ hz).trans (by go_simp), (g.cell _ _ hz).trans (by go_simp)⟩
  have HDG := Lib.hid (fun (n : Int) (h0 : 0 ≤ n) (h1 : n ≤ 9999) (w' : World) (g : Gr w w') => digits_of ht h0 h1 w' g)
  have HOKS := Lib.hid (fun (h : chkD P D = 0) => chkD_ok h)
  have HSZ := Lib.hid (fun (h : chkD P D = 0) => printD_size hk h)
  unfold maxLen at hm hms hm3
  unfold plnV at HPI HCK
  unfold plnV dgmV
  unfold dgmV at HCK
  clear hok hr hS hR h3
  by_cases hE : chkD P D = 0
  rotate_left
  · rw [if_neg hE]
    generalize chkD P D = E at HCK hE ⊢
    have tE : (E != 0) = true := bneT hE
    clear hE HOKS HSZ
    go_enter Tryz.func18, Tryz.ntmps18
    go_wp2_with (first | (go_at_call 13; (with_reducible refine (HCK.out _ g0).mono ?_); rintro e w1 ⟨rfl, g1⟩; obtain ⟨zb, p0, p1, p2, p3, p4, p5, p6, p7, p8⟩ := HB.out _ g1; obtain ⟨zd, d0, d1, d2⟩ := HDX.out _ g1; have G1 := g0.trans g1) | fail)
    go_ret2
    exact ⟨rfl, G1⟩
  obtain ⟨x1, x2, x3, x4, x5, x6⟩ := HOKS.out hE
  have hsz := HSZ.out hE
  have HX2 := Lib.hid x2
  have HX5 := Lib.hid x5
  have hpl := check_plain x3
  obtain ⟨hs4, hmay, -⟩ := plain_ok hpl
  have HMY := Lib.hid hmay
  have hpsz := printS_size hmay
  have HSP : Hid (∀ w', Gr w w' → Calls Tryz.prog 44 #[.slice s1 D.st.length k1] w' fun e w'' => e = .returned (.tuple #[.string (printS D.st), .int .i64 0]) ∧ Gr w' w'') := fun w' g => by
    have := HSP0.out w' g
    rw [if_pos hpl, hpl] at this
    exact this
  have HCP : Hid (∀ w', Calls Tryz.prog 45 #[.int .i64 D.beg] w' fun e w'' => e = .returned (.string (clkT D.beg)) ∧ Gr w' w'') := fun w' => by
    have := print_any D.beg w'
    rw [Int.emod_eq_of_lt x4.1 (by omega)] at this
    exact this
  have HP0 := Lib.hid (preR_zero P D)
  have HKR := Lib.hid (fun (k : Nat) => preR_pre (P := P) (D := D) k)
  have HKL := Lib.hid (fun (k j : Nat) (hk : k < D.runs.length) => preL_pre (P := P) (D := D) hk j)
  have HDN := Lib.hid (fun (k : Nat) (h : D.runs.length ≤ k) => preR_done (P := P) (D := D) h)
  have hcs := clkT_size D.beg
  have HNS := Lib.hid (fine_names hk).2.2.1
  have HSTK := Lib.hid x3
  have HCKP := Lib.hid hk
  rw [if_pos hE, hE]
  rw [hE] at HCK
  obtain ⟨Z, hZ⟩ : ∃ Z, Z = printD P D := ⟨_, rfl⟩
  rw [← hZ] at hsz HKR HKL ⊢
  have HZ := Lib.hid hZ
  have g1z : (⟨#[10]⟩ : ByteArray).size = 1 := rfl
  have tE : ((0 : Int) != 0) = false := rfl
  clear hE HOKS HSZ HSP0 x1 x2 x3 x5 x6 hmay hpl hZ ht hk
  generalize hkk : printS D.st = kinds at HSP HP0 hpsz
  generalize hcc : clkT D.beg = cbeg at HCP HP0 hcs
  clear hkk hcc
  go_enter Tryz.func18, Tryz.ntmps18
  go_wp2_with (first | (go_at_call 13; (with_reducible refine (HCK.out _ g0).mono ?_); rintro e w1 ⟨rfl, g1⟩; obtain ⟨zb, p0, p1, p2, p3, p4, p5, p6, p7, p8⟩ := HB.out _ g1; obtain ⟨zd, d0, d1, d2⟩ := HDX.out _ g1; have G1 := g0.trans g1) | (go_at_call 44; (with_reducible refine (HSP.out _ G1).mono ?_); rintro e w2 ⟨rfl, g2⟩; obtain ⟨yb, q0, q1, q2, q3, q4, q5, q6, q7, q8⟩ := HB.out _ (g1.trans g2); obtain ⟨yd, e0, e1, e2⟩ := HDX.out _ (g1.trans g2); have G2 := G1.trans g2) | (go_at_call 45; (with_reducible refine (HCP.out _).mono ?_); rintro e w3 ⟨rfl, g3⟩; obtain ⟨xb, r0, r1, r2, r3, r4, r5, r6, r7, r8⟩ := HB.out _ ((g1.trans g2).trans g3); obtain ⟨xd, f0, f1, f2⟩ := HDX.out _ ((g1.trans g2).trans g3); have G3 := G2.trans g3) | fail)
  clear HCK HSP HCP d0 d1 d2 e0 e1 e2 f0 f1 f2 p0 p1 p2 p3 p4 p5 p6 p7 p8 q0 q1 q2 q3 q4 q5 q6 q7 q8 r0 r1 r2 r3 r4 r5 r6 r7 r8
  go_loopw [9, 36] (fun x y wr => ∃ k : Nat, x = .string (unl (preR P D k)) ∧ y = .int .i64 k ∧ k ≤ D.runs.length ∧ Gr ((w.alloc (.cells #[.slice a1 P.es.length c1, .slice a2 P.js.length c2, .slice a3 P.ss.length c3, .slice a4 P.ls.length c4, .int .i64 P.top, .int .i64 P.brake, .int .i64 P.margin, .int .i64 P.throw, .bool P.hard] 27)).alloc (.cells #[.int .i64 D.beg, .slice s1 D.st.length k1, .slice s2 D.runs.length k2] 31)) wr) (fun _ y _ => D.runs.length - (intOf y).toNat)
  case atStart => exact ⟨0, by rw [HP0.out, ← day_text], rfl, Nat.zero_le _, (g1.trans g2).trans g3⟩
  case round =>
    clear HP0 hcs hpsz zb zd yb yd xb xd
    obtain ⟨k, rfl, rfl, hk, g⟩ := hrel
    have gw := g0.trans g
    have hS1 := HKR.out k
    by_cases hlt : k < D.runs.length
    · have hk1 : (k : Int) < (D.runs.length : Int) := by omega
      obtain ⟨bb, o, la, lc, hs, z, y0, y1, y2, y3, y4, hl⟩ := (HRN.out.gr gw).at k hlt
      subst hs
      obtain ⟨zd, d0, d1, d2⟩ := HDX.out _ g
      obtain ⟨zb, p0, p1, p2, p3, p4, p5, p6, p7, p8⟩ := HB.out _ g
      have hrun := HX5.out _ (List.getElem_mem hlt)
      obtain ⟨n1, n2, n3, n4, n5⟩ := run_parts hrun
      have HLP := Lib.hid (legs_parts (Int.le_refl 0) n5)
      have HLG := Lib.hid hl
      have hlm := HX2.out _ (List.getElem_mem hlt)
      have hS2 := Lib.hid (fun j => HKL.out k j hlt)
      have HPS := Lib.hid (preL_start P D k D.runs[k])
      have HPN := Lib.hid (fun (j : Nat) (hj : j < D.runs[k].legs.length) => preL_next (P := P) (D := D) (k := k) hj)
      have HPD := Lib.hid (fun (j : Nat) (hj : D.runs[k].legs.length ≤ j) => preL_done (P := P) hlt hj)
      have hnm := nm_size n1
      obtain ⟨i, hi⟩ := Int.eq_ofNat_of_zero_le n2.1
      obtain ⟨q, hq⟩ := Int.eq_ofNat_of_zero_le n3.1
      have hi2 : i < D.st.length := by omega
      have hq2 : q < P.ss.length := by omega
      have hwr : wordsR P D D.runs[k] = [bTrain, D.runs[k].nm, D.st[i].nm, P.ss[q].n, dgs D.runs[k].lf] := by
        unfold wordsR
        rw [hi, hq, Int.toNat_natCast, Int.toNat_natCast, getD_at _ _ hi2, getD_at _ _ hq2]
      have HWR := Lib.hid hwr
      have hsn := nm_size (mayS_parts (HMY.out _ (List.getElem_mem hi2))).1
      have hgn := nm_size (HNS.out _ (List.getElem_mem hq2))
      have hdg := dgs4_size (n := D.runs[k].lf) n4.1 (by omega)
      have HDGk := Lib.hid (HDG.out D.runs[k].lf n4.1 (by omega))
      obtain ⟨b5, o5, hs5, z5, u0, -⟩ := (HST.out.gr gw).at i hi2
      obtain ⟨b6, o6, hs6, z6, v0, -⟩ := (HSG.out.gr gw).at q hq2
      subst hs5 hs6
      have i1 : (i : Int) < (D.st.length : Int) := by omega
      have i2 : (q : Int) < (P.ss.length : Int) := by omega
      have i3 : (0 : Int) ≤ (i : Int) := by omega
      have i4 : (0 : Int) ≤ (q : Int) := by omega
      rw [hi] at y1
      rw [hq] at y2
      clear hl n1 n2 n3 n5 hi hq hwr hrun
      generalize hr0 : D.runs[k] = r at y0 y1 y2 y3 y4 HLG HLP hlm hS2 HPS HPN HPD HWR hnm hdg HDGk n4
      obtain ⟨nm, st, fr, lf, lg⟩ := r
      have HR0 := Lib.hid hr0
      clear hr0
      dsimp only at y0 y1 y2 y3 y4 HLG HLP hlm HPN HPD HWR hnm hdg HDGk n4
      generalize D.st[i].nm = sn at u0 HWR hsn
      generalize P.ss[q].n = gn at v0 HWR hgn
      generalize dgs lf = dg at HDGk HWR hdg
      generalize hU : unl (preR P D k) = U at hS1 ⊢
      have HU := Lib.hid hU
      have gA : Gr wr (wr.alloc (.cells #[.string nm, .int .i64 (i : Int), .int .i64 (q : Int), .int .i64 lf, .slice la lg.length lc] 51)) := (Gr.refl _).alloc _
      clear hU
      have zr : wr.heap.size < (wr.alloc (.cells #[.string nm, .int .i64 (i : Int), .int .i64 (q : Int), .int .i64 lf, .slice la lg.length lc] 51)).heap.size := by simp
      have t0 : (wr.alloc (.cells #[.string nm, .int .i64 (i : Int), .int .i64 (q : Int), .int .i64 lf, .slice la lg.length lc] 51)).cell? ⟨wr.heap.size, 0, none⟩ = some (.string nm) := by rw [World.cell?_alloc_mark]; rfl
      have t1 : (wr.alloc (.cells #[.string nm, .int .i64 (i : Int), .int .i64 (q : Int), .int .i64 lf, .slice la lg.length lc] 51)).cell? ⟨wr.heap.size, 1, none⟩ = some (.int .i64 (i : Int)) := by rw [World.cell?_alloc_mark]; rfl
      have t2 : (wr.alloc (.cells #[.string nm, .int .i64 (i : Int), .int .i64 (q : Int), .int .i64 lf, .slice la lg.length lc] 51)).cell? ⟨wr.heap.size, 2, none⟩ = some (.int .i64 (q : Int)) := by rw [World.cell?_alloc_mark]; rfl
      have t3 : (wr.alloc (.cells #[.string nm, .int .i64 (i : Int), .int .i64 (q : Int), .int .i64 lf, .slice la lg.length lc] 51)).cell? ⟨wr.heap.size, 3, none⟩ = some (.int .i64 lf) := by rw [World.cell?_alloc_mark]; rfl
      have t4 : (wr.alloc (.cells #[.string nm, .int .i64 (i : Int), .int .i64 (q : Int), .int .i64 lf, .slice la lg.length lc] 51)).cell? ⟨wr.heap.size, 4, none⟩ = some (.slice la lg.length lc) := by rw [World.cell?_alloc_mark]; rfl
      go_upto_region 9 with fail
      have zb5 := Nat.lt_of_lt_of_le zb gA.size
      have zd5 := Nat.lt_of_lt_of_le zd gA.size
      have z55 := Nat.lt_of_lt_of_le z5 gA.size
      have z66 := Nat.lt_of_lt_of_le z6 gA.size
      replace u0 := (gA.cell _ _ z5).trans u0
      replace v0 := (gA.cell _ _ z6).trans v0
      replace d1 := (gA.cell _ _ zd).trans d1
      replace p2 := (gA.cell _ _ zb).trans p2
      have gw5 := gw.trans gA
      have g5 := g.trans gA
      clear y0 y1 y2 y3 y4 p0 p1 p3 p4 p5 p6 p7 p8 d0 d2
      generalize wr.alloc (.cells #[.string nm, .int .i64 (i : Int), .int .i64 (q : Int), .int .i64 lf, .slice la lg.length lc] 51) = w5 at *
      have hc1 := fun (i : GrW w5) (o : Nat) => GrW.cell zr i o
      have hc2 := fun (i : GrW w5) (o : Nat) => GrW.cell zb5 i o
      have hc3 := fun (i : GrW w5) (o : Nat) => GrW.cell zd5 i o
      have hc4 := fun (i : GrW w5) (o : Nat) => GrW.cell z55 i o
      have hc5 := fun (i : GrW w5) (o : Nat) => GrW.cell z66 i o
      (refine wp_region_gr (by kernel_rfl) (by kernel_rfl) ?_; (repeat (go_big_quiet_step ((go_at_call 46; exact Calls.gr_of (HDGk.out _ (gw5.trans (GrW.gr _))))))); refine wpQuiet_nil ?_; intro wz hz; obtain ⟨iz, hz⟩ := hz; obtain ⟨wn, gn⟩ := iz; dsimp only at hz; obtain rfl := hz.symm)
      clear hc1 hc2 hc3 hc4 hc5 u0 v0 d1 p2 zb zd z5 z6 z55 z66
      replace t4 := (gn.cell _ _ zr).trans t4
      have zrn := Nat.lt_of_lt_of_le zr gn.size
      have gwn := gw5.trans gn
      have g5n := g5.trans gn
      have gAn := gA.trans gn
      go_wp2_with fail
      clear t0 t1 t2 t3 t4
      go_loopw [9, 72] (fun x y wi => ∃ j : Nat, x = .string (unl (preL P D k j ⟨nm, st, fr, lf, lg⟩)) ∧ y = .int .i64 j ∧ j ≤ lg.length ∧ Gr wn wi) (fun _ y _ => lg.length - (intOf y).toNat)
      case atStart => exact ⟨0, by rw [HPS.out, unl_snoc, HU.out, HWR.out, ← train_text], rfl, Nat.zero_le _, Gr.refl _⟩
      case round =>
        obtain ⟨j, rfl, rfl, hj, gi⟩ := hrel
        have hSj := hS2.out j
        have GW := gwn.trans gi
        obtain ⟨zd, d0, d1, d2⟩ := HDX.out _ (g5n.trans gi)
        obtain ⟨zb, p0, p1, p2, p3, p4, p5, p6, p7, p8⟩ := HB.out _ (g5n.trans gi)
        by_cases hlj : j < lg.length
        · have hj1 : (j : Int) < (lg.length : Int) := by omega
          obtain ⟨b3, o3, hs3, z3, y0, y1, y2, y3⟩ := (HLG.out.gr (gAn.trans gi)).at j hlj
          subst hs3
          have hlt2 := (HLP.out _ (List.getElem_mem hlj)).1
          have HTD := Lib.hid (fun (w' : World) (g' : Gr w w') => dgTold_any _ P D.beg (some ⟨b5, o5, none⟩) (some ⟨bb, o, none⟩) D.st.length D.runs.length k1 k2 lg[j] w' (HPI.out.gr g') HCKP.out hlt2)
          have hws := wordsL_size (beg := D.beg) HCKP.out hlt2
          have HN1 := Lib.hid (HPN.out j hlj)
          unfold Leg.v at HTD
          generalize jnW (wordsL P D.beg lg[j]) = dl at HTD hws HN1
          generalize lg[j] = l at y0 y1 y2 y3 HTD
          obtain ⟨tn, at_, en, tt⟩ := l
          dsimp only at y0 y1 y2 y3 HTD
          clear hlt2
          generalize hV : unl (preL P D k j ⟨nm, st, fr, lf, lg⟩) = V at hSj ⊢
          have HV := Lib.hid hV
          clear hV
          have zb3 : w.heap.size < wr.heap.size + 1 := by have := (HDX.out _ g).1; omega
          have q1 : ¬ 9223372036854775807 < dl.size + 1 := by omega
          have q2 : ¬ 9223372036854775807 < V.size + (dl.size + 1) := by omega
          go_wp2_with (first | (go_at_call 47; (with_reducible refine (HTD.out _ (GW.alloc _)).mono ?_); rintro e w7 ⟨rfl, g7⟩) | fail)
          go_roundw
          case rel => exact ⟨j + 1, by rw [HN1.out, unl_snoc, HV.out], by go_num, hlj, (gi.alloc _).trans g7⟩
          case measure => simp [intOf]; omega
        · have hj1 : ¬ (j : Int) < (lg.length : Int) := by omega
          have HN1 := Lib.hid (HPD.out j (by omega))
          go_wp2_with fail
          go_roundw
          case rel => exact ⟨k + 1, by rw [← HN1.out], by go_num, hlt, g5n.trans gi⟩
          case measure => simp [intOf]; omega
    · have hk1 : ¬ (k : Int) < (D.runs.length : Int) := by omega
      have HQ : Hid (unl (preR P D k) = Z) := by show _ = _; rw [HDN.out k (by omega), HZ.out]; rfl
      generalize unl (preR P D k) = U at hS1 HQ ⊢
      have q1 : ¬ (32768 : Int) < (U.size : Int) := by omega
      go_wp2_with fail
      go_ret2
      exact ⟨by rw [HQ.out]; rfl, gw⟩
end Go.Proofs.YtgjnlgcdpbilfaaGreatDoor
namespace Go.Proofs.YtgjnlgcdpbilfaaGreatDoor
open Go.ChangeShapes Go.WideShapes Go.ChangeAt Go.RowKit Go.Maps
set_option linter.unusedVariables false
set_option linter.unusedSimpArgs false
theorem leg_eqg : Tryz.prog.eqGuardType Tryz.prog.depth 54 = false := by kernel_rfl
theorem leg_stood : Tryz.prog.stoodInHeld 54 = false := by kernel_rfl
theorem leg_fields : Tryz.prog.underlying 54 = some (.struct (Tryz.prog.fieldsOf 54)) := by kernel_rfl
set_option maxRecDepth 100000 in
theorem leg_nsame (t : Bool) (a b c : Int) (w : World) : (binOp .neq 54 (.agg #[.bool t, .int .i64 a, .int .i64 b, .int .i64 c]) (.agg #[.bool t, .int .i64 a, .int .i64 b, .int .i64 c])).run Tryz.prog w = .ok (.bool false) w := by
  have hu := Tryz.underlying54
  have hf := leg_fields
  rw [hu] at hf
  simp only [Option.some.injEq, TypeDesc.struct.injEq] at hf
  rw [run_neq_struct, run_equalIn_agg w 9999 _ _ _ leg_fields leg_stood, ← hf]
  simp [Op.eqFields, go_sem, Tryz.underlying3, Tryz.underlying4]
theorem leg_guard (op : BinOp) (x y : Operand) (xs ys : Array Value) (w : World) : (eqGuard op 54 x y (.agg xs) (.agg ys)).run Tryz.prog w = .ok () w := run_eqGuard_agg w op _ x y xs ys leg_eqg
theorem stkE_eqg : Tryz.prog.eqGuardType Tryz.prog.depth 64 = false := by kernel_rfl
theorem stkE_stood : Tryz.prog.stoodInHeld 64 = false := by kernel_rfl
theorem stkE_fields : Tryz.prog.underlying 64 = some (.struct (Tryz.prog.fieldsOf 64)) := by kernel_rfl
set_option maxRecDepth 100000 in
theorem stkE_nsame (nm : ByteArray) (l t a b : Int) (w : World) : (binOp .neq 64 (.agg #[.string nm, .int .i64 l, .int .i64 t, .int .i64 a, .int .i64 b]) (.agg #[.string nm, .int .i64 l, .int .i64 t, .int .i64 a, .int .i64 b])).run Tryz.prog w = .ok (.bool false) w := by
  have hu := Tryz.underlying64
  have hf := stkE_fields
  rw [hu] at hf
  simp only [Option.some.injEq, TypeDesc.struct.injEq] at hf
  rw [run_neq_struct, run_equalIn_agg w 9999 _ _ _ stkE_fields stkE_stood, ← hf]
  simp [Op.eqFields, go_sem, Tryz.underlying3, Tryz.underlying9]
theorem stkE_guard (op : BinOp) (x y : Operand) (xs ys : Array Value) (w : World) : (eqGuard op 64 x y (.agg xs) (.agg ys)).run Tryz.prog w = .ok () w := run_eqGuard_agg w op _ x y xs ys stkE_eqg
set_option maxRecDepth 100000 in
set_option maxHeartbeats 1000000 in
theorem eqLegs_any (v u : Value) (L : List Leg) (w : World) (hv : IsLegs w v L) (hu : IsLegs w u L) :
    Calls Tryz.prog 43 #[v, u] w fun e w' => e = .returned (.bool true) ∧ Gr w w' := by
  have HV := Lib.hid hv
  have HU := Lib.hid hu
  obtain ⟨a, c, rfl, hm, -⟩ := hv.form
  obtain ⟨b, d, rfl, -, -⟩ := hu.form
  unfold maxLen at hm
  have tl : ((L.length : Int) != (L.length : Int)) = false := bneF rfl
  clear hv hu
  go_enter Tryz.func43, Tryz.ntmps43
  go_wp2_with fail
  go_loopw [5, 13] (fun _ x wr => ∃ k : Nat, x = .int .i64 k ∧ k ≤ L.length ∧ Gr w wr) (fun _ x _ => L.length - (intOf x).toNat)
  case atStart => exact ⟨0, rfl, Nat.zero_le _, Gr.refl _⟩
  case round =>
    obtain ⟨k, rfl, hk, g⟩ := hrel
    by_cases hlt : k < L.length
    · have hk1 : (k : Int) < (L.length : Int) := by omega
      obtain ⟨b1, o1, hs1, z1, y0, y1, y2, y3⟩ := (HV.out.gr g).at k hlt
      obtain ⟨b2, o2, hs2, z2, x0, x1, x2, x3⟩ := (HU.out.gr g).at k hlt
      subst hs1 hs2
      generalize hL0 : L[k] = s at y0 y1 y2 y3 x0 x1 x2 x3
      clear hL0
      obtain ⟨tn, p, q, r⟩ := s
      dsimp only at y0 y1 y2 y3 x0 x1 x2 x3
      have E1 := leg_nsame tn p q r
      have GG := leg_guard .neq
      go_wp2_with fail
      have hc1 := fun (i : GrW wr) (o : Nat) => GrW.cell z1 i o
      have hc2 := fun (i : GrW wr) (o : Nat) => GrW.cell z2 i o
      (refine wp_region_gr (by kernel_rfl) (by kernel_rfl) ?_; (repeat (go_big_quiet_step (fail))); refine wpQuiet_nil ?_; intro wz hz; obtain ⟨iz, hz⟩ := hz; obtain ⟨wn, gn⟩ := iz; dsimp only at hz; obtain rfl := hz.symm)
      go_wp2_with fail
      go_roundw
      case rel => exact ⟨k + 1, by go_num, hlt, g.trans gn⟩
      case measure => simp [intOf]; omega
    · have hk1 : ¬ (k : Int) < (L.length : Int) := by omega
      go_wp2_with fail
      go_ret
      exact ⟨rfl, g⟩
set_option maxRecDepth 100000 in
set_option maxHeartbeats 1000000 in
theorem eqStks_any (v u : Value) (L : List Stk) (w : World) (hv : IsStks w v L) (hu : IsStks w u L) :
    Calls Tryz.prog 40 #[v, u] w fun e w' => e = .returned (.bool true) ∧ Gr w w' := by
  have HV := Lib.hid hv
  have HU := Lib.hid hu
  obtain ⟨a, c, rfl, hm, -⟩ := hv.form
  obtain ⟨b, d, rfl, -, -⟩ := hu.form
  unfold maxLen at hm
  have tl : ((L.length : Int) != (L.length : Int)) = false := bneF rfl
  clear hv hu
  go_enter Tryz.func40, Tryz.ntmps40
  go_wp2_with fail
  go_loopw [5, 13] (fun _ x wr => ∃ k : Nat, x = .int .i64 k ∧ k ≤ L.length ∧ Gr w wr) (fun _ x _ => L.length - (intOf x).toNat)
  case atStart => exact ⟨0, rfl, Nat.zero_le _, Gr.refl _⟩
  case round =>
    obtain ⟨k, rfl, hk, g⟩ := hrel
    by_cases hlt : k < L.length
    · have hk1 : (k : Int) < (L.length : Int) := by omega
      obtain ⟨b1, o1, hs1, z1, y0, y1, y2, y3, y4⟩ := (HV.out.gr g).at k hlt
      obtain ⟨b2, o2, hs2, z2, x0, x1, x2, x3, x4⟩ := (HU.out.gr g).at k hlt
      subst hs1 hs2
      generalize hL0 : L[k] = s at y0 y1 y2 y3 y4 x0 x1 x2 x3 x4
      clear hL0
      obtain ⟨nm, l, t, a', b'⟩ := s
      dsimp only at y0 y1 y2 y3 y4 x0 x1 x2 x3 x4
      have E1 := stkE_nsame nm l t a' b'
      have GG := stkE_guard .neq
      go_wp2_with fail
      have hc1 := fun (i : GrW wr) (o : Nat) => GrW.cell z1 i o
      have hc2 := fun (i : GrW wr) (o : Nat) => GrW.cell z2 i o
      (refine wp_region_gr (by kernel_rfl) (by kernel_rfl) ?_; (repeat (go_big_quiet_step (fail))); refine wpQuiet_nil ?_; intro wz hz; obtain ⟨iz, hz⟩ := hz; obtain ⟨wn, gn⟩ := iz; dsimp only at hz; obtain rfl := hz.symm)
      go_wp2_with fail
      go_roundw
      case rel => exact ⟨k + 1, by go_num, hlt, g.trans gn⟩
      case measure => simp [intOf]; omega
    · have hk1 : ¬ (k : Int) < (L.length : Int) := by omega
      go_wp2_with fail
      go_ret
      exact ⟨rfl, g⟩
set_option maxRecDepth 100000 in
set_option maxHeartbeats 1000000 in
theorem same1_any (nm : ByteArray) (st fr lf : Int) (L : List Leg) (la ka : Option Addr) (lc kc : Nat) (w : World) (hv : IsLegs w (.slice la L.length lc) L) (hu : IsLegs w (.slice ka L.length kc) L) :
    Calls Tryz.prog 42 #[.agg #[.string nm, .int .i64 st, .int .i64 fr, .int .i64 lf, .slice la L.length lc], .agg #[.string nm, .int .i64 st, .int .i64 fr, .int .i64 lf, .slice ka L.length kc]] w fun e w' => e = .returned (.bool true) ∧ Gr w w' := by
  have g0 : Gr w ((w.alloc (.cells #[.string nm, .int .i64 st, .int .i64 fr, .int .i64 lf, .slice la L.length lc] 51)).alloc (.cells #[.string nm, .int .i64 st, .int .i64 fr, .int .i64 lf, .slice ka L.length kc] 51)) := ((Gr.refl _).alloc _).alloc _
  have HE := Lib.hid (eqLegs_any _ _ L _ (hv.gr g0) (hu.gr g0))
  have tb : (nm.toList == nm.toList) = true := by simp
  have t1 : (st == st) = true := by simp
  have t2 : (fr == fr) = true := by simp
  have t3 : (lf == lf) = true := by simp
  clear hv hu
  go_enter Tryz.func42, Tryz.ntmps42
  go_wp2_with (first | (go_at_call 43; (with_reducible refine (HE.out).mono ?_); rintro e w2 ⟨rfl, g2⟩) | fail)
  go_ret
  exact ⟨rfl, g0.trans g2⟩
set_option maxRecDepth 100000 in
set_option maxHeartbeats 1000000 in
theorem eqRuns_any (v u : Value) (L : List Rn) (w : World) (hv : IsRuns w v L) (hu : IsRuns w u L) :
    Calls Tryz.prog 41 #[v, u, .func (.func 42) #[] #[]] w fun e w' => e = .returned (.bool true) ∧ Gr w w' := by
  have HV := Lib.hid hv
  have HU := Lib.hid hu
  obtain ⟨a, c, rfl, hm, -⟩ := hv.form
  obtain ⟨b, d, rfl, -, -⟩ := hu.form
  unfold maxLen at hm
  have tl : ((L.length : Int) != (L.length : Int)) = false := bneF rfl
  clear hv hu
  go_enter Tryz.func41, Tryz.ntmps41
  go_wp2_with fail
  go_loopw [17] (fun x wr => ∃ k : Nat, x = .int .i64 k ∧ k ≤ L.length ∧ Gr w wr) (fun x _ => L.length - (intOf x).toNat)
  case atStart => exact ⟨0, rfl, Nat.zero_le _, Gr.refl _⟩
  case round =>
    obtain ⟨k, rfl, hk, g⟩ := hrel
    by_cases hlt : k < L.length
    · have hk1 : (k : Int) < (L.length : Int) := by omega
      obtain ⟨b1, o1, la, lc, hs1, z1, y0, y1, y2, y3, y4, hl1⟩ := (HV.out.gr g).at k hlt
      obtain ⟨b2, o2, ka, kc, hs2, z2, x0, x1, x2, x3, x4, hl2⟩ := (HU.out.gr g).at k hlt
      subst hs1 hs2
      have HL1 := Lib.hid hl1
      have HL2 := Lib.hid hl2
      clear hl1 hl2
      generalize L[k] = r at y0 y1 y2 y3 y4 x0 x1 x2 x3 x4 HL1 HL2
      obtain ⟨nm, st, fr, lf, lg⟩ := r
      dsimp only at y0 y1 y2 y3 y4 x0 x1 x2 x3 x4 HL1 HL2
      have HS := Lib.hid (fun (w' : World) (g' : Gr wr w') => same1_any nm st fr lf lg la ka lc kc w' (HL1.out.gr g') (HL2.out.gr g'))
      have zz : b2 < wr.heap.size + 1 := by omega
      clear HL1 HL2
      go_wp2_with (first | (go_at_call 42; (with_reducible refine (HS.out _ (((Gr.refl _).alloc _).alloc _)).mono ?_); rintro e w2 ⟨rfl, g2⟩) | fail)
      go_roundw
      case rel => exact ⟨k + 1, by go_num, hlt, ((g.alloc _).alloc _).trans g2⟩
      case measure => simp [intOf]; omega
    · have hk1 : ¬ (k : Int) < (L.length : Int) := by omega
      go_wp2_with fail
      go_ret
      exact ⟨rfl, g⟩
set_option maxRecDepth 100000 in
/-- the walk of Same: given what its two calls answer -/
theorem dgSame_core (beg : Int) (a1 a2 b1 b2 : Option Addr) (n1 n2 m1 m2 c1 c2 d1 d2 : Nat) (q : Bool) (w : World)
    (h1 : ∀ w', Gr w w' → Calls Tryz.prog 40 #[.slice a1 n1 c1, .slice b1 m1 d1] w' fun e w'' => e = .returned (.bool true) ∧ Gr w' w'')
    (h2 : ∀ w', Gr w w' → Calls Tryz.prog 41 #[.slice a2 n2 c2, .slice b2 m2 d2, .func (.func 42) #[] #[]] w' fun e w'' => e = .returned (.bool q) ∧ Gr w' w'') :
    Calls Tryz.prog 17 #[.agg #[.int .i64 beg, .slice a1 n1 c1, .slice a2 n2 c2], .agg #[.int .i64 beg, .slice b1 m1 d1, .slice b2 m2 d2]] w fun e w' => e = .returned (.bool q) ∧ Gr w w' := by
  have g0 : Gr w ((w.alloc (.cells #[.int .i64 beg, .slice a1 n1 c1, .slice a2 n2 c2] 31)).alloc (.cells #[.int .i64 beg, .slice b1 m1 d1, .slice b2 m2 d2] 31)) := ((Gr.refl _).alloc _).alloc _
  have HX : Hid (∀ w', Gr ((w.alloc (.cells #[.int .i64 beg, .slice a1 n1 c1, .slice a2 n2 c2] 31)).alloc (.cells #[.int .i64 beg, .slice b1 m1 d1, .slice b2 m2 d2] 31)) w' → w.heap.size + 1 < w'.heap.size ∧ w'.cell? ⟨w.heap.size, 2, none⟩ = some (.slice a2 n2 c2) ∧ w'.cell? ⟨w.heap.size + 1, 2, none⟩ = some (.slice b2 m2 d2)) := fun w' g => by
    have hz : w.heap.size + 1 < (((w.alloc (.cells #[.int .i64 beg, .slice a1 n1 c1, .slice a2 n2 c2] 31)).alloc (.cells #[.int .i64 beg, .slice b1 m1 d1, .slice b2 m2 d2] 31))).heap.size := by simp
    exact ⟨Nat.lt_of_lt_of_le hz g.size, (g.cell _ _ (by omega)).trans (by go_simp), (g.cell _ _ hz).trans (by go_simp)⟩
  have H1 := Lib.hid h1
  have H2 := Lib.hid h2
  have t1 : (beg == beg) = true := by simp
  clear h1 h2
  go_enter Tryz.func17, Tryz.ntmps17
  go_wp2_with (first | (go_at_call 40; (with_reducible refine (H1.out _ g0).mono ?_); rintro e w2 ⟨rfl, g2⟩; obtain ⟨zx, x1, x2⟩ := HX.out _ g2; have zy : w.heap.size < w2.heap.size := by omega) | (go_at_call 41; (with_reducible refine (H2.out _ (g0.trans g2)).mono ?_); rintro e w3 ⟨rfl, g3⟩) | fail)
  go_ret
  exact ⟨rfl, (g0.trans g2).trans g3⟩
theorem dgSame_yes (v u : Value) (D : Dgm) (w : World) (hv : IsDgm w v D) (hu : IsDgm w u D) :
    Calls Tryz.prog 17 #[v, u] w fun e w' => e = .returned (.bool true) ∧ Gr w w' := by
  obtain ⟨a1, c1, a2, c2, rfl, h1, h2⟩ := hv
  obtain ⟨b1, d1, b2, d2, rfl, k1, k2⟩ := hu
  exact dgSame_core D.beg a1 a2 b1 b2 _ _ _ _ c1 c2 d1 d2 true w (fun w' g => eqStks_any _ _ D.st w' (h1.gr g) (k1.gr g)) (fun w' g => eqRuns_any _ _ D.runs w' (h2.gr g) (k2.gr g))
end Go.Proofs.YtgjnlgcdpbilfaaGreatDoor
namespace Go.Proofs.YtgjnlgcdpbilfaaGreatDoor
open Go.ChangeShapes Go.WideShapes Go.ChangeAt Go.RowKit Go.Maps
set_option linter.unusedVariables false
set_option linter.unusedSimpArgs false
def oneD : Dgm := ⟨3600, [⟨⟨#[120]⟩, 5, 10, 2, 5⟩], [⟨⟨#[116]⟩, 0, 0, 0, [⟨false, 0, 1, 1⟩, ⟨false, 61, 2, 5⟩]⟩]⟩
set_option maxRecDepth 100000 in
theorem one30_any (w : World) :
    Calls Tryz.prog 26 #[] w fun e w' => ∃ v, e = .returned v ∧ IsDgm w' v oneD ∧ Gr w w' := by
  go_enter Tryz.func26, Tryz.ntmps26
  go_wp2
  refine bodyPost_ret (v := .agg #[.int .i64 3600, .slice (some ⟨w.heap.size + 1, 0, none⟩) 1 1, .slice (some ⟨w.heap.size + 1 + 1 + 1, 0, none⟩) 1 1]) (by simp [results, Tryz.results26, go_sem]) rfl ⟨_, rfl, ?_, ?_⟩
  · have hS : IsStks ((w.alloc (.cells #[.int .i64 3600, .slice (some ⟨w.heap.size + 1, 0, none⟩) 1 1, .slice (some ⟨w.heap.size + 1 + 1 + 1, 0, none⟩) 1 1] 31)).alloc (.cells #[.string ⟨#[120]⟩, .int .i64 5, .int .i64 10, .int .i64 2, .int .i64 5] 64)) (.slice (some ⟨w.heap.size + 1, 0, none⟩) 1 1) oneD.st := ⟨row_lit (by simp) (by unfold maxLen; simp [oneD]) (fun i j hi hj => by
        have h1 : i = 0 := by have : i < 1 := hi; omega
        have h2 : j = 0 ∨ j = 1 ∨ j = 2 ∨ j = 3 ∨ j = 4 := by omega
        subst h1
        rcases h2 with rfl | rfl | rfl | rfl | rfl <;> rfl), fun a n c e => by cases e; omega⟩
    have hL : IsLegs (((w.alloc (.cells #[.int .i64 3600, .slice (some ⟨w.heap.size + 1, 0, none⟩) 1 1, .slice (some ⟨w.heap.size + 1 + 1 + 1, 0, none⟩) 1 1] 31)).alloc (.cells #[.string ⟨#[120]⟩, .int .i64 5, .int .i64 10, .int .i64 2, .int .i64 5] 64)).alloc (.cells #[.bool false, .int .i64 0, .int .i64 1, .int .i64 1, .bool false, .int .i64 61, .int .i64 2, .int .i64 5] 54)) (.slice (some ⟨w.heap.size + 1 + 1, 0, none⟩) 2 2) [⟨false, 0, 1, 1⟩, ⟨false, 61, 2, 5⟩] := ⟨row_lit (by simp) (by unfold maxLen; simp) (fun i j hi hj => by
        have h1 : i = 0 ∨ i = 1 := by have : i < 2 := hi; omega
        have h2 : j = 0 ∨ j = 1 ∨ j = 2 ∨ j = 3 := by omega
        rcases h1 with rfl | rfl <;> rcases h2 with rfl | rfl | rfl | rfl <;> rfl), fun a n c e => by cases e; omega⟩
    have hR : IsRuns ((((w.alloc (.cells #[.int .i64 3600, .slice (some ⟨w.heap.size + 1, 0, none⟩) 1 1, .slice (some ⟨w.heap.size + 1 + 1 + 1, 0, none⟩) 1 1] 31)).alloc (.cells #[.string ⟨#[120]⟩, .int .i64 5, .int .i64 10, .int .i64 2, .int .i64 5] 64)).alloc (.cells #[.bool false, .int .i64 0, .int .i64 1, .int .i64 1, .bool false, .int .i64 61, .int .i64 2, .int .i64 5] 54)).alloc (.cells #[.string ⟨#[116]⟩, .int .i64 0, .int .i64 0, .int .i64 0, .slice (some ⟨w.heap.size + 1 + 1, 0, none⟩) 2 2] 51)) (.slice (some ⟨w.heap.size + 1 + 1 + 1, 0, none⟩) 1 1) oneD.runs := ⟨⟨fun _ => .slice (some ⟨w.heap.size + 1 + 1, 0, none⟩) 2 2, row_lit (by simp) (by unfold maxLen; simp [oneD]) (fun i j hi hj => by
        have h1 : i = 0 := by have : i < 1 := hi; omega
        have h2 : j = 0 ∨ j = 1 ∨ j = 2 ∨ j = 3 ∨ j = 4 := by omega
        subst h1
        rcases h2 with rfl | rfl | rfl | rfl | rfl <;> rfl), fun i hi => by
        have h1 : i = 0 := by have : i < 1 := hi; omega
        subst h1
        exact hL.gr ((Gr.refl _).alloc _)⟩, fun a n c e => by cases e; omega⟩
    exact IsDgm.of (D := oneD) (hS.gr (((Gr.refl _).alloc _).alloc _)) hR
  · exact ((((Gr.refl _).alloc _).alloc _).alloc _).alloc _
theorem text30_any (w : World) : Calls Tryz.prog 27 #[] w fun e w' => e = .returned (.string ⟨#[100, 97, 121, 32, 48, 49, 58, 48, 48, 58, 48, 48, 10, 115, 116, 111, 99, 107, 32, 120, 32, 53, 32, 49, 48, 32, 50, 32, 53, 10, 116, 114, 97, 105, 110, 32, 116, 32, 120, 32, 119, 32, 48, 10, 103, 111, 32, 48, 49, 58, 48, 48, 58, 48, 48, 32, 97, 10, 103, 97, 116, 101, 32, 48, 49, 58, 48, 49, 58, 48, 49, 32, 69, 10]⟩) ∧ w' = w := by
  go_enter Tryz.func27, Tryz.ntmps27
  go_wp2
  go_ret
  exact ⟨rfl, rfl⟩
def fewD (D : Dgm) : Bool := (decide (D.st.length ≤ 10) && decide (D.runs.length ≤ 12)) && (D.runs.all fun r => decide (r.legs.length ≤ 20) && decide (r.nm.size ≤ 100)) && D.st.all fun s => decide (s.nm.size ≤ 100)
set_option maxRecDepth 100000 in
set_option maxHeartbeats 1000000 in
theorem few30_any (v : Value) (D : Dgm) (w : World) (hD : IsDgm w v D) (hok : ∀ s ∈ D.st, s.nm.size ≤ maxLen) (hr : ∀ r ∈ D.runs, r.nm.size ≤ maxLen) :
    Calls Tryz.prog 12 #[v] w fun e w' => e = .returned (.bool (fewD D)) ∧ Gr w w' := by
  obtain ⟨a1, c1, a2, c2, rfl, h1, h2⟩ := hD
  have HS := Lib.hid h1
  have HR := Lib.hid h2
  have hm : D.runs.length ≤ maxLen := by obtain ⟨_, _, _, h, _⟩ := h2.form; exact h
  have hms : D.st.length ≤ maxLen := by obtain ⟨_, _, _, h, _⟩ := h1.form; exact h
  have HOK := Lib.hid hok
  have HRK := Lib.hid hr
  have HE : Hid (fewD D = ((decide (D.st.length ≤ 10) && decide (D.runs.length ≤ 12)) && (D.runs.all fun r => decide (r.legs.length ≤ 20) && decide (r.nm.size ≤ 100)) && D.st.all fun s => decide (s.nm.size ≤ 100))) := rfl
  unfold maxLen at hm hms
  unfold dgmV
  generalize fewD D = R at HE ⊢
  have g0 : Gr w (w.alloc (.cells #[.int .i64 D.beg, .slice a1 D.st.length c1, .slice a2 D.runs.length c2] 31)) := (Gr.refl _).alloc _
  have HX : Hid (∀ w', Gr (w.alloc (.cells #[.int .i64 D.beg, .slice a1 D.st.length c1, .slice a2 D.runs.length c2] 31)) w' → w.heap.size < w'.heap.size ∧ w'.cell? ⟨w.heap.size, 1, none⟩ = some (.slice a1 D.st.length c1)) := fun w' g => by
    have hz : w.heap.size < (w.alloc (.cells #[.int .i64 D.beg, .slice a1 D.st.length c1, .slice a2 D.runs.length c2] 31)).heap.size := by simp
    exact ⟨Nat.lt_of_lt_of_le hz g.size, (g.cell _ _ hz).trans (by go_simp)⟩
  clear h1 h2 hok hr
  by_cases n1 : 10 < D.st.length
  · have n1' : (10 : Int) < (D.st.length : Int) := by omega
    have HF : Hid (R = false) := by show _ = _; rw [HE.out, decide_eq_false (by omega : ¬ D.st.length ≤ 10)]; rfl
    clear HE
    go_enter Tryz.func12, Tryz.ntmps12
    go_wp2_with fail
    go_ret
    exact ⟨ret_bool HF.out.symm, g0⟩
  have n1' : ¬ (10 : Int) < (D.st.length : Int) := by omega
  by_cases n2 : 12 < D.runs.length
  · have n2' : (12 : Int) < (D.runs.length : Int) := by omega
    have HF : Hid (R = false) := by show _ = _; rw [HE.out, decide_eq_false (by omega : ¬ D.runs.length ≤ 12), Bool.and_false]; rfl
    clear HE
    go_enter Tryz.func12, Tryz.ntmps12
    go_wp2_with fail
    go_ret
    exact ⟨ret_bool HF.out.symm, g0⟩
  have n2' : ¬ (12 : Int) < (D.runs.length : Int) := by omega
  have HE2 : Hid (R = ((D.runs.all fun r => decide (r.legs.length ≤ 20) && decide (r.nm.size ≤ 100)) && D.st.all fun s => decide (s.nm.size ≤ 100))) := by show _ = _; rw [HE.out, decide_eq_true (by omega : D.st.length ≤ 10), decide_eq_true (by omega : D.runs.length ≤ 12)]; rfl
  clear HE
  go_enter Tryz.func12, Tryz.ntmps12
  go_wp2_with fail
  go_loopw [20] (fun y wr => ∃ k : Nat, y = .int .i64 k ∧ k ≤ D.runs.length ∧ Gr (w.alloc (.cells #[.int .i64 D.beg, .slice a1 D.st.length c1, .slice a2 D.runs.length c2] 31)) wr ∧ Hid (∀ i (hi : i < D.runs.length), i < k → D.runs[i].legs.length ≤ 20 ∧ D.runs[i].nm.size ≤ 100)) (fun y _ => D.runs.length - (intOf y).toNat)
  case atStart => exact ⟨0, rfl, Nat.zero_le _, Gr.refl _, fun i hi h => by omega⟩
  case round =>
    obtain ⟨k, rfl, hk, g, HT⟩ := hrel
    have gw := g0.trans g
    by_cases hlt : k < D.runs.length
    · have hk1 : (k : Int) < (D.runs.length : Int) := by omega
      obtain ⟨bb, o, la, lc, hs, z, y0, y1, y2, y3, y4, hl⟩ := (HR.out.gr gw).at k hlt
      subst hs
      have hlm : D.runs[k].legs.length ≤ maxLen := by obtain ⟨_, _, _, h, _⟩ := hl.form; exact h
      have hnm := HRK.out _ (List.getElem_mem hlt)
      unfold maxLen at hlm hnm
      have HY : Hid (¬ (D.runs[k].legs.length ≤ 20 ∧ D.runs[k].nm.size ≤ 100) → R = false) := fun h => by
        have : (D.runs.all fun r => decide (r.legs.length ≤ 20) && decide (r.nm.size ≤ 100)) = false := List.all_eq_false.2 ⟨_, List.getElem_mem hlt, by simpa using h⟩
        rw [HE2.out, this]; rfl
      have HT2 : Hid ((D.runs[k].legs.length ≤ 20 ∧ D.runs[k].nm.size ≤ 100) → ∀ i (hi : i < D.runs.length), i < k + 1 → D.runs[i].legs.length ≤ 20 ∧ D.runs[i].nm.size ≤ 100) := fun h i hi hik => by
        by_cases e : i = k
        · subst e; exact h
        · exact HT.out i hi (by omega)
      clear HT hl
      generalize D.runs[k].nm = nm at y0 HY HT2 hnm
      generalize D.runs[k].st = st at y1
      generalize D.runs[k].fr = fr at y2
      generalize D.runs[k].lf = lf at y3
      generalize D.runs[k].legs.length = ln at y4 HY HT2 hlm
      by_cases m1 : 20 < ln
      · have m1' : (20 : Int) < (ln : Int) := by omega
        have HF := Lib.hid (HY.out (by omega))
        clear HY HT2
        go_wp2_with fail
        go_ret
        exact ⟨ret_bool HF.out.symm, gw.alloc _⟩
      have m1' : ¬ (20 : Int) < (ln : Int) := by omega
      by_cases m2 : 100 < nm.size
      · have m2' : (100 : Int) < (nm.size : Int) := by omega
        have HF := Lib.hid (HY.out (by omega))
        clear HY HT2
        go_wp2_with fail
        go_ret
        exact ⟨ret_bool HF.out.symm, gw.alloc _⟩
      · have m2' : ¬ (100 : Int) < (nm.size : Int) := by omega
        have HT3 := Lib.hid (HT2.out (by omega))
        clear HY HT2
        go_wp2_with fail
        go_roundw
        case rel => exact ⟨k + 1, by go_num, hlt, g.alloc _, HT3.out⟩
        case measure => simp [intOf]; omega
    · have hk1 : ¬ (k : Int) < (D.runs.length : Int) := by omega
      have HE3 : Hid (R = D.st.all fun s => decide (s.nm.size ≤ 100)) := by
        have : (D.runs.all fun r => decide (r.legs.length ≤ 20) && decide (r.nm.size ≤ 100)) = true := by
          rw [List.all_eq_true]
          intro x hx
          obtain ⟨i, hi, rfl⟩ := List.getElem_of_mem hx
          simpa using HT.out i hi (by omega)
        show _ = _; rw [HE2.out, this]; rfl
      obtain ⟨zx, x1⟩ := HX.out _ g
      clear HE2 HT
      go_wp2_with fail
      go_loopw [38] (fun y wr => ∃ k : Nat, y = .int .i64 k ∧ k ≤ D.st.length ∧ Gr w wr ∧ Hid (∀ i (hi : i < D.st.length), i < k → D.st[i].nm.size ≤ 100)) (fun y _ => D.st.length - (intOf y).toNat)
      case atStart => exact ⟨0, rfl, Nat.zero_le _, gw, fun i hi h => by omega⟩
      case round =>
        obtain ⟨j, rfl, hj, gj, HT⟩ := hrel
        by_cases hlj : j < D.st.length
        · have hj1 : (j : Int) < (D.st.length : Int) := by omega
          obtain ⟨bb, o, hs, z, y0, y1, y2, y3, y4⟩ := (HS.out.gr gj).at j hlj
          subst hs
          have hnm := HOK.out _ (List.getElem_mem hlj)
          unfold maxLen at hnm
          have HY : Hid (¬ D.st[j].nm.size ≤ 100 → R = false) := fun h => by
            have : (D.st.all fun s => decide (s.nm.size ≤ 100)) = false := List.all_eq_false.2 ⟨_, List.getElem_mem hlj, by simpa using h⟩
            rw [HE3.out, this]
          have HT2 : Hid (D.st[j].nm.size ≤ 100 → ∀ i (hi : i < D.st.length), i < j + 1 → D.st[i].nm.size ≤ 100) := fun h i hi hik => by
            by_cases e : i = j
            · subst e; exact h
            · exact HT.out i hi (by omega)
          clear HT
          generalize D.st[j] = s at y0 y1 y2 y3 y4 HY HT2 hnm
          obtain ⟨nm, l, t, a, b⟩ := s
          dsimp only at y0 y1 y2 y3 y4 HY HT2 hnm
          by_cases m2 : 100 < nm.size
          · have m2' : (100 : Int) < (nm.size : Int) := by omega
            have HF := Lib.hid (HY.out (by omega))
            clear HY HT2
            go_wp2_with fail
            go_ret
            exact ⟨ret_bool HF.out.symm, gj.alloc _⟩
          · have m2' : ¬ (100 : Int) < (nm.size : Int) := by omega
            have HT3 := Lib.hid (HT2.out (by omega))
            clear HY HT2
            go_wp2_with fail
            go_roundw
            case rel => exact ⟨j + 1, by go_num, hlj, gj.alloc _, HT3.out⟩
            case measure => simp [intOf]; omega
        · have hj1 : ¬ (j : Int) < (D.st.length : Int) := by omega
          have HF : Hid (R = true) := by
            show _ = _
            rw [HE3.out, List.all_eq_true]
            intro x hx
            obtain ⟨i, hi, rfl⟩ := List.getElem_of_mem hx
            simpa using HT.out i hi (by omega)
          go_wp2_with fail
          go_ret
          exact ⟨ret_bool HF.out.symm, gj⟩
end Go.Proofs.YtgjnlgcdpbilfaaGreatDoor
namespace Go.Proofs.YtgjnlgcdpbilfaaGreatDoor
open Go.ChangeShapes Go.WideShapes Go.ChangeAt Go.RowKit Go.Maps
set_option linter.unusedVariables false
set_option linter.unusedSimpArgs false
set_option maxRecDepth 100000 in
set_option maxHeartbeats 1000000 in
theorem dgLast_any (v : Value) (D : Dgm) (w : World) (hD : IsDgm w v D) :
    Calls Tryz.prog 15 #[v] w fun e w' => e = .returned (.int .i64 (lastD D)) ∧ Gr w w' := by
  obtain ⟨a1, c1, a2, c2, rfl, -, hR⟩ := hD
  have HR := Lib.hid hR
  obtain ⟨-, -, -, hm, -⟩ := hR.form
  unfold maxLen at hm
  unfold dgmV
  have g0 : Gr w (w.alloc (.cells #[.int .i64 D.beg, .slice a1 D.st.length c1, .slice a2 D.runs.length c2] 31)) := (Gr.refl _).alloc _
  have HD : Hid (lastD D = lastR 0 D.runs) := rfl
  generalize lastD D = Z at HD ⊢
  clear hR
  go_enter Tryz.func15, Tryz.ntmps15
  go_wp2_with fail
  go_loopw [3, 11] (fun x y wr => ∃ k : Nat, x = .int .i64 (lastR 0 (D.runs.take k)) ∧ y = .int .i64 k ∧ k ≤ D.runs.length ∧ Gr w wr) (fun _ y _ => D.runs.length - (intOf y).toNat)
  case atStart => exact ⟨0, rfl, rfl, Nat.zero_le _, g0⟩
  case round =>
    obtain ⟨k, rfl, rfl, hk, g⟩ := hrel
    by_cases hlt : k < D.runs.length
    · have hk1 : (k : Int) < (D.runs.length : Int) := by omega
      obtain ⟨bb, o, la, lc, hs, z, y0, y1, y2, y3, y4, hl⟩ := (HR.out.gr g).at k hlt
      subst hs
      have HLG := Lib.hid hl
      obtain ⟨_, _, -, hlm, -⟩ := hl.form
      unfold maxLen at hlm
      have HN : Hid (lastR 0 (D.runs.take (k + 1)) = lastL (lastR 0 (D.runs.take k)) D.runs[k].legs) := lastR_snoc hlt 0
      generalize lastR 0 (D.runs.take k) = A at HN ⊢
      generalize hr0 : D.runs[k] = r at y0 y1 y2 y3 y4 HLG hlm HN
      clear hr0 hl
      obtain ⟨nm, st, fr, lf, L⟩ := r
      dsimp only at y0 y1 y2 y3 y4 HLG hlm HN
      go_wp2_with fail
      go_loopw [3, 18] (fun x y wi => ∃ j : Nat, x = .int .i64 (lastL A (L.take j)) ∧ y = .int .i64 j ∧ j ≤ L.length ∧ Gr wr wi) (fun _ y _ => L.length - (intOf y).toNat)
      case atStart => exact ⟨0, rfl, rfl, Nat.zero_le _, (Gr.refl _).alloc _⟩
      case round =>
        obtain ⟨j, rfl, rfl, hj, g2⟩ := hrel
        by_cases hlj : j < L.length
        · have hj1 : (j : Int) < (L.length : Int) := by omega
          obtain ⟨b2, o2, hs2, z2, x0, x1, x2, x3⟩ := (HLG.out.gr g2).at j hlj
          subst hs2
          have HM : Hid (lastL A (L.take (j + 1)) = max (lastL A (L.take j)) L[j].at_) := lastL_snoc hlj A
          generalize lastL A (L.take j) = B at HM ⊢
          generalize L[j] = l at x0 x1 x2 x3 HM
          obtain ⟨tn, at_, en, tg⟩ := l
          dsimp only at x0 x1 x2 x3 HM
          go_wp2_with fail
          go_roundw
          case rel => exact ⟨j + 1, by first | (rw [HM.out]; done) | (rw [HM.out]; rfl) | (rw [HM.out]; congr 1; omega), by go_num, hlj, g2.alloc _⟩
          case measure => simp [intOf]; omega
        · have hj1 : ¬ (j : Int) < (L.length : Int) := by omega
          have HQ : Hid (lastL A (L.take j) = lastR 0 (D.runs.take (k + 1))) := by show _ = _; rw [HN.out, List.take_of_length_le (by omega)]
          generalize lastL A (L.take j) = B at HQ ⊢
          go_wp2_with fail
          go_roundw
          case rel => exact ⟨k + 1, by rw [HQ.out], by go_num, hlt, g.trans g2⟩
          case measure => simp [intOf]; omega
    · have hk1 : ¬ (k : Int) < (D.runs.length : Int) := by omega
      have HQ : Hid (lastR 0 (D.runs.take k) = Z) := by show _ = _; rw [HD.out, List.take_of_length_le (by omega)]
      go_wp2_with fail
      go_ret
      exact ⟨ret_int HQ.out, g⟩
set_option maxRecDepth 100000 in
set_option maxHeartbeats 1000000 in
theorem refLast_any (v : Value) (D : Dgm) (w : World) (hD : IsDgm w v D) :
    Calls Tryz.prog 16 #[v] w fun e w' => e = .returned (.int .i64 (lastD D)) ∧ Gr w w' := by
  obtain ⟨a1, c1, a2, c2, rfl, -, hR⟩ := hD
  have HR := Lib.hid hR
  obtain ⟨-, -, -, hm, -⟩ := hR.form
  unfold maxLen at hm
  unfold dgmV
  have g0 : Gr w (w.alloc (.cells #[.int .i64 D.beg, .slice a1 D.st.length c1, .slice a2 D.runs.length c2] 31)) := (Gr.refl _).alloc _
  have HD : Hid (lastD D = lastR 0 D.runs) := rfl
  generalize lastD D = Z at HD ⊢
  clear hR
  go_enter Tryz.func16, Tryz.ntmps16
  go_wp2_with fail
  go_loopw [3, 11] (fun x y wr => ∃ k : Nat, x = .int .i64 (lastR 0 (D.runs.take k)) ∧ y = .int .i64 k ∧ k ≤ D.runs.length ∧ Gr w wr) (fun _ y _ => D.runs.length - (intOf y).toNat)
  case atStart => exact ⟨0, rfl, rfl, Nat.zero_le _, g0⟩
  case round =>
    obtain ⟨k, rfl, rfl, hk, g⟩ := hrel
    by_cases hlt : k < D.runs.length
    · have hk1 : (k : Int) < (D.runs.length : Int) := by omega
      obtain ⟨bb, o, la, lc, hs, z, y0, y1, y2, y3, y4, hl⟩ := (HR.out.gr g).at k hlt
      subst hs
      have HLG := Lib.hid hl
      obtain ⟨_, _, -, hlm, -⟩ := hl.form
      unfold maxLen at hlm
      have HN : Hid (lastR 0 (D.runs.take (k + 1)) = lastL (lastR 0 (D.runs.take k)) D.runs[k].legs) := lastR_snoc hlt 0
      generalize lastR 0 (D.runs.take k) = A at HN ⊢
      generalize hr0 : D.runs[k] = r at y0 y1 y2 y3 y4 HLG hlm HN
      clear hr0 hl
      obtain ⟨nm, st, fr, lf, L⟩ := r
      dsimp only at y0 y1 y2 y3 y4 HLG hlm HN
      go_wp2_with fail
      go_loopw [3, 18] (fun x y wi => ∃ j : Nat, x = .int .i64 (lastL A (L.take j)) ∧ y = .int .i64 j ∧ j ≤ L.length ∧ Gr wr wi) (fun _ y _ => L.length - (intOf y).toNat)
      case atStart => exact ⟨0, rfl, rfl, Nat.zero_le _, (Gr.refl _).alloc _⟩
      case round =>
        obtain ⟨j, rfl, rfl, hj, g2⟩ := hrel
        by_cases hlj : j < L.length
        · have hj1 : (j : Int) < (L.length : Int) := by omega
          obtain ⟨b2, o2, hs2, z2, x0, x1, x2, x3⟩ := (HLG.out.gr g2).at j hlj
          subst hs2
          have HM : Hid (lastL A (L.take (j + 1)) = max (lastL A (L.take j)) L[j].at_) := lastL_snoc hlj A
          generalize lastL A (L.take j) = B at HM ⊢
          generalize L[j] = l at x0 x1 x2 x3 HM
          obtain ⟨tn, at_, en, tg⟩ := l
          dsimp only at x0 x1 x2 x3 HM
          go_wp2_with fail
          go_roundw
          case rel => exact ⟨j + 1, by first | (rw [HM.out]; done) | (rw [HM.out]; rfl) | (rw [HM.out]; congr 1; omega), by go_num, hlj, g2.alloc _⟩
          case measure => simp [intOf]; omega
        · have hj1 : ¬ (j : Int) < (L.length : Int) := by omega
          have HQ : Hid (lastL A (L.take j) = lastR 0 (D.runs.take (k + 1))) := by show _ = _; rw [HN.out, List.take_of_length_le (by omega)]
          generalize lastL A (L.take j) = B at HQ ⊢
          go_wp2_with fail
          go_roundw
          case rel => exact ⟨k + 1, by rw [HQ.out], by go_num, hlt, g.trans g2⟩
          case measure => simp [intOf]; omega
    · have hk1 : ¬ (k : Int) < (D.runs.length : Int) := by omega
      have HQ : Hid (lastR 0 (D.runs.take k) = Z) := by show _ = _; rw [HD.out, List.take_of_length_le (by omega)]
      go_wp2_with fail
      go_ret
      exact ⟨ret_int HQ.out, g⟩
end Go.Proofs.YtgjnlgcdpbilfaaGreatDoor
namespace Go.Proofs.YtgjnlgcdpbilfaaGreatDoor
open Go.ChangeShapes Go.WideShapes Go.ChangeAt Go.RowKit Go.Maps
set_option linter.unusedVariables false
set_option linter.unusedSimpArgs false
theorem oneD_chk : chkD smallP oneD = 0 := by kernel_rfl
theorem oneD_last : lastD oneD = 61 := by kernel_rfl
set_option maxRecDepth 100000 in
theorem oneD_print : printD smallP oneD = ⟨#[100, 97, 121, 32, 48, 49, 58, 48, 48, 58, 48, 48, 10, 115, 116, 111, 99, 107, 32, 120, 32, 53, 32, 49, 48, 32, 50, 32, 53, 10, 116, 114, 97, 105, 110, 32, 116, 32, 120, 32, 119, 32, 48, 10, 103, 111, 32, 48, 49, 58, 48, 48, 58, 48, 48, 32, 97, 10, 103, 97, 116, 101, 32, 48, 49, 58, 48, 49, 58, 48, 49, 32, 69, 10]⟩ := by kernel_rfl
theorem small_chk : chk smallP = 0 := fine_chk small_fine
theorem oneD_parse : parD smallP ⟨#[100, 97, 121, 32, 48, 49, 58, 48, 48, 58, 48, 48, 10, 115, 116, 111, 99, 107, 32, 120, 32, 53, 32, 49, 48, 32, 50, 32, 53, 10, 116, 114, 97, 105, 110, 32, 116, 32, 120, 32, 119, 32, 48, 10, 103, 111, 32, 48, 49, 58, 48, 48, 58, 48, 48, 32, 97, 10, 103, 97, 116, 101, 32, 48, 49, 58, 48, 49, 58, 48, 49, 32, 69, 10]⟩ = (oneD, 5, 0) := by
  have := parD_print small_chk oneD_chk (by have := printD_size small_chk oneD_chk; omega)
  rw [oneD_print] at this
  rw [this]
  rfl
theorem oneD_st : ∀ s ∈ oneD.st, s.nm.size ≤ maxLen := fun s hs => by
  have : s = ⟨⟨#[120]⟩, 5, 10, 2, 5⟩ := by simpa [oneD] using hs
  subst this; decide
theorem oneD_rn : ∀ r ∈ oneD.runs, r.nm.size ≤ maxLen := fun r hr => by
  have : r = ⟨⟨#[116]⟩, 0, 0, 0, [⟨false, 0, 1, 1⟩, ⟨false, 61, 2, 5⟩]⟩ := by simpa [oneD] using hr
  subst this; decide
set_option maxRecDepth 100000 in
set_option maxHeartbeats 2000000 in
theorem known30_any (w : World) (ht : Tabs w) : Calls Tryz.prog 10 #[] w fun e w' => e = .returned (.bool true) ∧ Gr w w' := by
  have HPR : Hid (∀ pv v w', Gr w w' → IsPln w' pv smallP → IsDgm w' v oneD → Calls Tryz.prog 18 #[pv, v] w' fun e w'' => e = .returned (.tuple #[.string ⟨#[100, 97, 121, 32, 48, 49, 58, 48, 48, 58, 48, 48, 10, 115, 116, 111, 99, 107, 32, 120, 32, 53, 32, 49, 48, 32, 50, 32, 53, 10, 116, 114, 97, 105, 110, 32, 116, 32, 120, 32, 119, 32, 48, 10, 103, 111, 32, 48, 49, 58, 48, 48, 58, 48, 48, 32, 97, 10, 103, 97, 116, 101, 32, 48, 49, 58, 48, 49, 58, 48, 49, 32, 69, 10]⟩, .int .i64 0]) ∧ Gr w' w'') := fun pv v w' g hp hd => by
    have := dgPrint_any pv v smallP oneD w' (ht.gr g) hp small_chk hd oneD_st oneD_rn
    rw [if_pos oneD_chk, oneD_chk, oneD_print] at this
    exact this
  have HPA : Hid (∀ pv w', Gr w w' → IsPln w' pv smallP → Calls Tryz.prog 20 #[pv, .string ⟨#[100, 97, 121, 32, 48, 49, 58, 48, 48, 58, 48, 48, 10, 115, 116, 111, 99, 107, 32, 120, 32, 53, 32, 49, 48, 32, 50, 32, 53, 10, 116, 114, 97, 105, 110, 32, 116, 32, 120, 32, 119, 32, 48, 10, 103, 111, 32, 48, 49, 58, 48, 48, 58, 48, 48, 32, 97, 10, 103, 97, 116, 101, 32, 48, 49, 58, 48, 49, 58, 48, 49, 32, 69, 10]⟩] w' fun e w'' => ∃ v, e = .returned (.tuple #[v, .int .i64 5, .int .i64 0]) ∧ IsDgm w'' v oneD ∧ Gr w' w'') := fun pv w' g hp => by
    have := dgParse_any pv smallP ⟨#[100, 97, 121, 32, 48, 49, 58, 48, 48, 58, 48, 48, 10, 115, 116, 111, 99, 107, 32, 120, 32, 53, 32, 49, 48, 32, 50, 32, 53, 10, 116, 114, 97, 105, 110, 32, 116, 32, 120, 32, 119, 32, 48, 10, 103, 111, 32, 48, 49, 58, 48, 48, 58, 48, 48, 32, 97, 10, 103, 97, 116, 101, 32, 48, 49, 58, 48, 49, 58, 48, 49, 32, 69, 10]⟩ (by decide) w' (shp_gr ht.sh g) hp
    rw [oneD_parse] at this
    exact this
  have HTX : Hid (∀ w', Calls Tryz.prog 27 #[] w' fun e w'' => e = .returned (.string ⟨#[100, 97, 121, 32, 48, 49, 58, 48, 48, 58, 48, 48, 10, 115, 116, 111, 99, 107, 32, 120, 32, 53, 32, 49, 48, 32, 50, 32, 53, 10, 116, 114, 97, 105, 110, 32, 116, 32, 120, 32, 119, 32, 48, 10, 103, 111, 32, 48, 49, 58, 48, 48, 58, 48, 48, 32, 97, 10, 103, 97, 116, 101, 32, 48, 49, 58, 48, 49, 58, 48, 49, 32, 69, 10]⟩) ∧ w'' = w') := fun w' => text30_any w'
  generalize (⟨#[100, 97, 121, 32, 48, 49, 58, 48, 48, 58, 48, 48, 10, 115, 116, 111, 99, 107, 32, 120, 32, 53, 32, 49, 48, 32, 50, 32, 53, 10, 116, 114, 97, 105, 110, 32, 116, 32, 120, 32, 119, 32, 48, 10, 103, 111, 32, 48, 49, 58, 48, 48, 58, 48, 48, 32, 97, 10, 103, 97, 116, 101, 32, 48, 49, 58, 48, 49, 58, 48, 49, 32, 69, 10]⟩ : ByteArray) = T at HPR HPA HTX
  have tT : (T.toList == T.toList) = true := by simp
  have G := Gr.refl w
  go_enter Tryz.func10, Tryz.ntmps10
  go_wp2_with (first | (go_at_call 25; (with_reducible refine (small_any _).mono ?_); rintro e wS ⟨vS, rfl, hP, gS⟩; have G := G.trans gS; have HP := Lib.hid hP; clear hP) | (go_at_call 26; (with_reducible refine (one30_any _).mono ?_); rintro e wO ⟨vO, rfl, hD, gO⟩; have HP := Lib.hid (HP.out.gr gO); have G := G.trans gO; have HD := Lib.hid hD; clear hD) | (go_at_call 18; (with_reducible refine (HPR.out _ _ _ G HP.out HD.out).mono ?_); rintro e wP ⟨rfl, gP⟩; have G := G.trans gP) | (go_at_call 27; (with_reducible refine (HTX.out _).mono ?_); rintro e wT ⟨rfl, hq⟩; obtain rfl := hq.symm) | (go_at_call 20; (with_reducible refine (HPA.out _ _ G HP.out).mono ?_); rintro e wQ ⟨vQ, rfl, hQ, gQ⟩; have G := G.trans gQ; have HQ := Lib.hid hQ; obtain ⟨qa1, qc1, qa2, qc2, rfl, -⟩ := hQ; unfold dgmV at HQ ⊢) | fail)
  have GQ : Gr w (wQ.alloc (.cells #[.int .i64 oneD.beg, .slice qa1 oneD.st.length qc1, .slice qa2 oneD.runs.length qc2] 31)) := G.alloc _
  have hQz : wQ.heap.size < (wQ.alloc (.cells #[.int .i64 oneD.beg, .slice qa1 oneD.st.length qc1, .slice qa2 oneD.runs.length qc2] 31)).heap.size := by simp
  have HS : Hid (∀ w', Gr (wQ.alloc (.cells #[.int .i64 oneD.beg, .slice qa1 oneD.st.length qc1, .slice qa2 oneD.runs.length qc2] 31)) w' → (w'.cell? ⟨wQ.heap.size, 0, none⟩ = some (.int .i64 oneD.beg) ∧ w'.cell? ⟨wQ.heap.size, 1, none⟩ = some (.slice qa1 oneD.st.length qc1) ∧ w'.cell? ⟨wQ.heap.size, 2, none⟩ = some (.slice qa2 oneD.runs.length qc2))) := fun w' g => ⟨(g.cell _ _ hQz).trans (by go_simp), (g.cell _ _ hQz).trans (by go_simp), (g.cell _ _ hQz).trans (by go_simp)⟩
  have HQ2 := Lib.hid (HQ.out.gr (w' := wQ.alloc (.cells #[.int .i64 oneD.beg, .slice qa1 oneD.st.length qc1, .slice qa2 oneD.runs.length qc2] 31)) ((Gr.refl _).alloc _))
  have HLA : Hid (∀ w', Gr (wQ.alloc (.cells #[.int .i64 oneD.beg, .slice qa1 oneD.st.length qc1, .slice qa2 oneD.runs.length qc2] 31)) w' → Calls Tryz.prog 15 #[.agg #[.int .i64 oneD.beg, .slice qa1 oneD.st.length qc1, .slice qa2 oneD.runs.length qc2]] w' fun e w'' => e = .returned (.int .i64 61) ∧ Gr w' w'') := fun w' g => by
    have := dgLast_any _ oneD w' (HQ2.out.gr g)
    rw [oneD_last] at this
    exact this
  clear HPR HPA HP HQ
  generalize oneD.beg = ob at *
  generalize oneD.st.length = os at *
  generalize oneD.runs.length = ou at *
  generalize (wQ.alloc (.cells #[.int .i64 ob, .slice qa1 os qc1, .slice qa2 ou qc2] 31)) = wq at *
  go_region_held3 (fun w' => w'.cell? ⟨wQ.heap.size, 0, none⟩ = some (.int .i64 ob) ∧ w'.cell? ⟨wQ.heap.size, 1, none⟩ = some (.slice qa1 os qc1) ∧ w'.cell? ⟨wQ.heap.size, 2, none⟩ = some (.slice qa2 ou qc2)) (first | exact HS.out _ (Gr.refl _) | exact HS.out _ (Gr.refl _).drew | exact HS.out _ ((Gr.refl _).drew.trans g5) | exact HS.out _ (((Gr.refl _).drew.trans g5).trans g6) | exact HS.out _ ((((Gr.refl _).drew.trans g5).trans g6).trans g7)) (first | (go_at_call 27; (with_reducible refine (HTX.out _).mono ?_); rintro e wT ⟨rfl, hq⟩; obtain rfl := hq.symm) | (go_at_call 26; (with_reducible refine (one30_any _).mono ?_); rintro e w5 ⟨v5, rfl, hD5, g5⟩; have HD5 := Lib.hid hD5; clear hD5) | (go_at_call 17; (with_reducible refine (dgSame_yes _ _ oneD _ (HQ2.out.gr ((Gr.refl _).drew.trans g5)) HD5.out).mono ?_); rintro e w6 ⟨rfl, g6⟩) | (go_at_call 15; (with_reducible refine (HLA.out _ (((Gr.refl _).drew.trans g5).trans g6)).mono ?_); rintro e w7 ⟨rfl, g7⟩))
  go_wp2_with fail
  go_ret
  exact ⟨rfl, (((GQ.drew).trans g5).trans g6).trans g7⟩
end Go.Proofs.YtgjnlgcdpbilfaaGreatDoor
