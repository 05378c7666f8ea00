/- The reference's ParseDiagram. -/
import Derived.Test.YtgjnlgcdpbilfaaGreatDoorRows
import Derived.Test.YtgjnlgcdpbilfaaGreatDoorRDpM
import Derived.Test.YtgjnlgcdpbilfaaGreatDoorRDpT
import Derived.Test.YtgjnlgcdpbilfaaGreatDoorB15
import Derived.Test.YtgjnlgcdpbilfaaGreatDoorB18
import Derived.Test.YtgjnlgcdpbilfaaGreatDoorB8
import Derived.Test.YtgjnlgcdpbilfaaGreatDoorB2
namespace Go.Proofs.YtgjnlgcdpbilfaaGreatDoor
open Go.ChangeShapes Go.WideShapes Go.ChangeAt Go.RowKit Go.Maps
set_option linter.unusedVariables false
set_option linter.unusedSimpArgs false
theorem five_newQ (w : World) (u0 u1 u2 u3 u4 : Value) (T : TypeId) : ∀ j u, [u0, u1, u2, u3, u4][j]? = some u → (w.alloc (.cells #[u0, u1, u2, u3, u4] T)).cell? ((⟨w.heap.size, 0, none⟩ : Addr).add j) = some u := by
  intro j u h
  rw [Go.WideShapes.add_plain, World.cell?_alloc_mark]
  simpa using h
theorem five_newP (w : World) {g : Nat} (hg : g = w.heap.size) (u0 u1 u2 u3 u4 : Value) (T : TypeId) : ∀ j u, [u0, u1, u2, u3, u4][j]? = some u → (w.alloc (.cells #[u0, u1, u2, u3, u4] T)).cell? ((⟨g, 0, none⟩ : Addr).add j) = some u := by
  subst hg; exact five_newQ w u0 u1 u2 u3 u4 T
set_option maxRecDepth 100000 in
set_option maxHeartbeats 16000000 in
theorem refParseD_any (pv : Value) (P : Pln) (s : ByteArray) (hs : s.size ≤ 1048576) (w : World) (hP : IsPln w pv P) :
    Calls Tryz.prog 22 #[pv, .string s] w (RetPd w (parD P s)) := by
  have HPI := Lib.hid hP
  obtain ⟨a1, c1, a2, c2, a3, c3, a4, c4, rfl, -⟩ := hP
  have G02 : Gr w ((w.alloc (.cells #[.slice a1 P.es.length c1, .slice a2 P.js.length c2, .slice a3 P.ss.length c3, .slice a4 P.ls.length c4, .int .i64 P.top, .int .i64 P.brake, .int .i64 P.margin, .int .i64 P.throw, .bool P.hard] 27)).alloc (.cells #[.int .i64 0, .slice none 0 0, .slice none 0 0] 31)) := ((Gr.refl _).alloc _).alloc _
  have zz2 : (((w.alloc (.cells #[.slice a1 P.es.length c1, .slice a2 P.js.length c2, .slice a3 P.ss.length c3, .slice a4 P.ls.length c4, .int .i64 P.top, .int .i64 P.brake, .int .i64 P.margin, .int .i64 P.throw, .bool P.hard] 27)).alloc (.cells #[.int .i64 0, .slice none 0 0, .slice none 0 0] 31))).heap.size = w.heap.size + 1 + 1 := by simp
  have hz2 : w.heap.size + 1 < (((w.alloc (.cells #[.slice a1 P.es.length c1, .slice a2 P.js.length c2, .slice a3 P.ss.length c3, .slice a4 P.ls.length c4, .int .i64 P.top, .int .i64 P.brake, .int .i64 P.margin, .int .i64 P.throw, .bool P.hard] 27)).alloc (.cells #[.int .i64 0, .slice none 0 0, .slice none 0 0] 31))).heap.size := by omega
  have HDX : Hid (∀ w', Gr ((w.alloc (.cells #[.slice a1 P.es.length c1, .slice a2 P.js.length c2, .slice a3 P.ss.length c3, .slice a4 P.ls.length c4, .int .i64 P.top, .int .i64 P.brake, .int .i64 P.margin, .int .i64 P.throw, .bool P.hard] 27)).alloc (.cells #[.int .i64 0, .slice none 0 0, .slice none 0 0] 31)) w' → w.heap.size + 1 < w'.heap.size ∧ w'.cell? ⟨w.heap.size + 1, 0, none⟩ = some (.int .i64 0) ∧ w'.cell? ⟨w.heap.size + 1, 1, none⟩ = some (.slice none 0 0) ∧ w'.cell? ⟨w.heap.size + 1, 2, none⟩ = some (.slice none 0 0) ∧ w'.frozen? ⟨w.heap.size + 1, 0, none⟩ = false ∧ w'.frozen? ⟨w.heap.size + 1, 1, none⟩ = false ∧ w'.frozen? ⟨w.heap.size + 1, 2, none⟩ = false) := fun w' g => by
    exact ⟨Nat.lt_of_lt_of_le hz2 g.size, (g.cell _ _ hz2).trans (by go_simp), (g.cell _ _ hz2).trans (by go_simp), (g.cell _ _ hz2).trans (by go_simp), (g.frozen _ _ hz2).trans (by go_simp), (g.frozen _ _ hz2).trans (by go_simp), (g.frozen _ _ hz2).trans (by go_simp)⟩
  have HB := Lib.hid (fun (w' : World) (g : Gr ((w.alloc (.cells #[.slice a1 P.es.length c1, .slice a2 P.js.length c2, .slice a3 P.ss.length c3, .slice a4 P.ls.length c4, .int .i64 P.top, .int .i64 P.brake, .int .i64 P.margin, .int .i64 P.throw, .bool P.hard] 27)).alloc (.cells #[.int .i64 0, .slice none 0 0, .slice none 0 0] 31)) w') => (PBox.new w P (.slice a1 P.es.length c1) (.slice a2 P.js.length c2) (.slice a3 P.ss.length c3) (.slice a4 P.ls.length c4)).gr (((Gr.refl _).alloc _).trans g))
  unfold plnV at *
  have hwz : w.heap.size ≤ w.heap.size + 1 := by omega
  by_cases hl : 32768 < s.size
  · have hl1 : 32768 < (s.size : Int) := by omega
    have HR := Lib.hid (parD_long (P := P) hl)
    (obtain ⟨z4, k0, k1, k2, f0, f1, f2⟩ := HDX.out _ (Gr.refl _))
    go_enter Tryz.func22, Tryz.ntmps22
    go_wp2_with fail
    try rw [Exit.noGoto_ret]
    (refine bodyPost_ret (v := .tuple #[.agg #[.int .i64 0, .slice none 0 0, .slice none 0 0], .int .i64 0, .int .i64 3]) (by simp [results, Tryz.results22, go_sem, z4, k0, k1, k2, f0, f1, f2]) rfl ?_)
    first | exact RetPd.no HR.out (((G02.setCell hwz _).setCell hwz _).setCell hwz _) | exact RetPd.no HR.out G02
  have hl1 : ¬ 32768 < (s.size : Int) := by omega
  have HLI := Lib.hid (refLines_any s hs ((w.alloc (.cells #[.slice a1 P.es.length c1, .slice a2 P.js.length c2, .slice a3 P.ss.length c3, .slice a4 P.ls.length c4, .int .i64 P.top, .int .i64 P.brake, .int .i64 P.margin, .int .i64 P.throw, .bool P.hard] 27)).alloc (.cells #[.int .i64 0, .slice none 0 0, .slice none 0 0] 31)))
  have hbd := lnB_bd s
  have HBD := Lib.hid hbd.2
  have hlen := hbd.1
  have HPB := Lib.hid (fun (k : Nat) (D : Dgm) (e : Int) => @parD_bad P s hl k D e)
  have HPG := Lib.hid (fun (D : Dgm) => @parD_good P s hl D)
  have HPN := Lib.hid (@parD_none P s hl)
  have HWD := Lib.hid (fun (x : ByteArray) (hx : x.size ≤ 1048576) (w' : World) => refWords_cap x hx w')
  generalize hX : lnB s = X at *
  generalize parD P s = R at HPB HPG HPN ⊢
  obtain ⟨i0, hi0, hi1, hi2, hi3⟩ := info_parts Tryz.infoK
  clear hX hbd
  go_enter Tryz.func22, Tryz.ntmps22
  go_upto_region 4 with (first | (go_at_call 23; (with_reducible refine (HLI.out).mono ?_); rintro e w1 ⟨lv, rfl, hlv, g1⟩; have hlv2 := Lib.hid hlv; obtain ⟨la, lc, rfl, hlm, -⟩ := hlv; rw [List.length_map] at hlv2 hlm; rw [List.length_map]; unfold maxLen at hlm) | fail)
  have G21 := g1
  have HRD1 : Hid (Rd 31 w1.heap.size 0 (w1.heap.size + 1) (w1.alloc (.cells #[.int .i64 0, .slice none 0 0, .slice none 0 0] 31)) dgm0) := by
    refine ⟨_, _, ⟨⟨_, heap_alloc_new w1 _⟩, ?_, ?_, ?_⟩, Dt.nil (by omega) (by simp)⟩ <;> (rw [cell_of_row _ _ _ _ _ _ (heap_alloc_new w1 _)]; rfl)
  have hw1 : w.heap.size + 1 < w1.heap.size := Nat.lt_of_lt_of_le hz2 g1.size
  go_wp2_with fail
  go_loopw [9, 10, 11, 12, 13, 14, 15, 16, 17, 27] (fun _ _ _ _ _ _ _ _ _ x wr => ∃ (k : Nat) (D : Dgm), x = .int .i64 k ∧ k ≤ X.length ∧ Gr w1 wr ∧ Rd 31 w1.heap.size 0 (w1.heap.size + 1) wr D ∧ SzD k D ∧ Hid (prgD P (X.take k) 0 dgm0 = .inr D)) (fun _ _ _ _ _ _ _ _ _ x _ => X.length - (intOf x).toNat)
  case atStart => exact ⟨0, dgm0, rfl, Nat.zero_le _, (Gr.refl w1).alloc _, HRD1.out, SzD.zero, rfl⟩
  case round =>
    obtain ⟨k, D, rfl, hk, g, hrd, hsz, HG⟩ := hrel
    have g2 := g1.trans g
    have gw := G02.trans g2
    by_cases hlt : k < X.length
    · have hk1 : (k : Int) < (X.length : Int) := by omega
      obtain ⟨bb, o, hs2, z, y0⟩ := vals_at (hlv2.out.gr g) k hlt
      subst hs2
      have hxs := HBD.out _ (List.getElem_mem hlt)
      have HRk := Lib.hid (HWD.out X[k] (by omega))
      have HBa := Lib.hid (fun e h => HPB.out k D e hlt HG.out h)
      have HNx := Lib.hid (fun D' (h : lineD P D (decide (k = 0)) X[k] = .inr D') => prgD_next hlt HG.out h)
      have HSn := Lib.hid (fun D' (h : lineD P D (decide (k = 0)) X[k] = .inr D') => lineD_sz h hsz (words_sz (by omega)))
      have HEr := Lib.hid (fun e (h : lineD P D (decide (k = 0)) X[k] = .inl e) => lineD_err h)
      have HRD := Lib.hid hrd
      have HSZ := Lib.hid hsz
      have hne := @wdS_ne X[k]
      have HXS := Lib.hid hxs
      have hld : lineD P D (decide (k = 0)) X[k] = match wdB X[k] with | none => .inl 2 | some w => lineW P D (decide (k = 0)) w := rfl
      clear HG hrd hsz hxs
      rw [hld] at HBa HNx HSn HEr
      generalize X[k] = x at *
      clear hld
      cases hw : wdB x with
      | none =>
        rw [hw] at HBa
        have HR := Lib.hid (HBa.out 2 rfl)
        have HR1 : Hid (∀ w', Calls Tryz.prog 54 #[.string x] w' fun e w'' => ∃ v, e = .returned (.tuple #[v, .bool false]) ∧ Gr w' w'') := fun w' => by
          have := HRk.out w'
          rw [hw] at this
          exact this.mono fun e w2 ⟨v, he, _, _, hg⟩ => ⟨v, he, hg⟩
        clear HNx HSn HEr HBa HRk hw hne
        go_upto_region 9 with fail
        go_upto_region 23 with (first | (go_at_call 54; (with_reducible refine (HR1.out _).mono ?_); rintro e w3 ⟨v3, rfl, g3⟩) | fail)
        ((go_upto_region 24 with fail); (obtain ⟨z4, k0, k1, k2, f0, f1, f2⟩ := HDX.out _ (g2.trans g3)); (go_wp2_with fail); (try rw [Exit.noGoto_ret]); (refine bodyPost_ret (v := .tuple #[.agg #[.int .i64 0, .slice none 0 0, .slice none 0 0], .int .i64 ((k : Int) + 1), .int .i64 2]) (by simp [results, Tryz.results22, go_sem, z4, k0, k1, k2, f0, f1, f2]) rfl ?_); first | exact RetPd.no HR.out ((((G02.trans (g2.trans g3)).setCell hwz _).setCell hwz _).setCell hwz _) | exact RetPd.no HR.out (G02.trans (g2.trans g3)))
      | some l =>
        rw [hw] at HBa HNx HSn HEr
        dsimp only at HBa HNx HSn HEr
        have HR1 : Hid (∀ w', Calls Tryz.prog 54 #[.string x] w' fun e w'' => ∃ v, e = .returned (.tuple #[v, .bool true]) ∧ IsVals w'' v (l.map Value.string) ∧ CapOk v ∧ Gr w' w'') := fun w' => by
          have := HRk.out w'
          rw [hw] at this
          exact this
        obtain ⟨hl0, hll, hsz0⟩ := hne hw
        cases l with
        | nil => exact absurd rfl hl0
        | cons a t =>
          have HSA : Hid (∀ y ∈ a :: t, y.size ≤ maxLen) := fun y hy => by have := hsz0 y hy; have := HXS.out; unfold maxLen; omega
          have htl : t.length ≤ 40000 := by have := HXS.out; simp only [List.length_cons] at hll; omega
          have HR2 : Hid (∀ w', Calls Tryz.prog 54 #[.string x] w' fun e w'' => ∃ bb o c, e = .returned (.tuple #[.slice (some ⟨bb, o, none⟩) (t.length + 1) c, .bool true]) ∧ bb < w''.heap.size ∧ w''.cell? ⟨bb, o, none⟩ = some (.string a) ∧ Hid (∀ (i : Nat) (hi : i < t.length), w''.cell? ⟨bb, o + 1 + i, none⟩ = some (.string t[i])) ∧ Hid (IsVals w'' (.slice (some ⟨bb, o, none⟩) (t.length + 1) c) ((a :: t).map Value.string)) ∧ Hid (CapOk (.slice (some ⟨bb, o, none⟩) (t.length + 1) c)) ∧ Gr w' w'') := fun w' => (HR1.out w').mono fun e w2 ⟨v, he, hv, hc, hg⟩ => by
            obtain ⟨bb, o, c, rfl, h1, h2, h3⟩ := vals_first hv
            exact ⟨bb, o, c, he, h1, h2, h3, hv, hc, hg⟩
          clear HR1 HRk hl0 hll hsz0 hne hw HXS
          have hpos : (0 : Int) < ((t.length + 1 : Nat) : Int) := by omega
          by_cases hk0 : k = 0
          · have tk : ((k : Int) == 0) = true := beqT (by omega)
            rw [decide_eq_true hk0, lineW_first] at HBa HNx HSn HEr
            clear hk0
            by_cases hl2 : t.length = 1
            rotate_left
            · have HR : Hid (R = (dgm0, (k : Int) + 1, 2)) := HBa.out 2 (by
                by_cases ha : a = bDay
                · rw [if_pos ha]; exact dayW_len (by omega)
                · rw [if_neg ha])
              have t2 : (((t.length + 1 : Nat) : Int) == 2) = false := beqF (by omega)
              clear HNx HSn HEr HBa
              go_upto_region 9 with fail
              go_upto_region 23 with (first | (go_at_call 54; (with_reducible refine (HR2.out _).mono ?_); rintro e w3 ⟨b3, o3, cw, rfl, z3, q0, HQ, HV3, HC3, g3⟩) | fail)
              ((go_upto_region 24 with fail); (obtain ⟨z4, k0, k1, k2, f0, f1, f2⟩ := HDX.out _ (g2.trans g3)); (go_wp2_with fail); (try rw [Exit.noGoto_ret]); (refine bodyPost_ret (v := .tuple #[.agg #[.int .i64 0, .slice none 0 0, .slice none 0 0], .int .i64 ((k : Int) + 1), .int .i64 2]) (by simp [results, Tryz.results22, go_sem, z4, k0, k1, k2, f0, f1, f2]) rfl ?_); first | exact RetPd.no HR.out ((((G02.trans (g2.trans g3)).setCell hwz _).setCell hwz _).setCell hwz _) | exact RetPd.no HR.out (G02.trans (g2.trans g3)))
            obtain ⟨y, rfl⟩ := List.length_eq_one_iff.1 hl2
            have HR4 : Hid (∀ w', Calls Tryz.prog 54 #[.string x] w' fun e w'' => ∃ bb o c, e = .returned (.tuple #[.slice (some ⟨bb, o, none⟩) 2 c, .bool true]) ∧ bb < w''.heap.size ∧ w''.cell? ⟨bb, o, none⟩ = some (.string a) ∧ w''.cell? ⟨bb, o + 1, none⟩ = some (.string y) ∧ Gr w' w'') := fun w' => (HR2.out w').mono fun e w2 ⟨bb, o, c, he, h1, h2, h3, _, _, hg⟩ => ⟨bb, o, c, he, h1, h2, h3.out 0 (by simp), hg⟩
            have hy := HSA.out y (by simp)
            by_cases ha : a = bDay
            rotate_left
            · have HR : Hid (R = (dgm0, (k : Int) + 1, 2)) := HBa.out 2 (by rw [if_neg ha])
              have td : (a.toList == [100, 97, 121]) = false := by rw [← dayL]; exact str_ne ha
              clear HNx HSn HEr HBa
              go_upto_region 9 with fail
              go_upto_region 23 with (first | (go_at_call 54; (with_reducible refine (HR4.out _).mono ?_); rintro e w3 ⟨b3, o3, cw, rfl, z3, q0, q1, g3⟩) | fail)
              ((go_upto_region 24 with fail); (obtain ⟨z4, k0, k1, k2, f0, f1, f2⟩ := HDX.out _ (g2.trans g3)); (go_wp2_with fail); (try rw [Exit.noGoto_ret]); (refine bodyPost_ret (v := .tuple #[.agg #[.int .i64 0, .slice none 0 0, .slice none 0 0], .int .i64 ((k : Int) + 1), .int .i64 2]) (by simp [results, Tryz.results22, go_sem, z4, k0, k1, k2, f0, f1, f2]) rfl ?_); first | exact RetPd.no HR.out ((((G02.trans (g2.trans g3)).setCell hwz _).setCell hwz _).setCell hwz _) | exact RetPd.no HR.out (G02.trans (g2.trans g3)))
            rw [if_pos ha, dayW_two] at HBa HNx HSn HEr
            have td : (a.toList == [100, 97, 121]) = true := by rw [ha, dayL]; rfl
            clear ha
            have HCK := Lib.hid (fun w' => refParse_any y w' hy)
            generalize clkB y = q at HCK HBa HNx HSn HEr
            cases q
            · have HR : Hid (R = (dgm0, (k : Int) + 1, 2)) := HBa.out 2 rfl
              clear HNx HSn HEr HBa
              go_upto_region 9 with fail
              go_upto_region 23 with (first | (go_at_call 54; (with_reducible refine (HR4.out _).mono ?_); rintro e w3 ⟨b3, o3, cw, rfl, z3, q0, q1, g3⟩) | (go_at_call 55; (with_reducible refine (HCK.out _).mono ?_); rintro e w4 ⟨rfl, g4⟩) | fail)
              ((go_upto_region 24 with fail); (obtain ⟨z4, k0, k1, k2, f0, f1, f2⟩ := HDX.out _ ((g2.trans g3).trans g4)); (go_wp2_with fail); (try rw [Exit.noGoto_ret]); (refine bodyPost_ret (v := .tuple #[.agg #[.int .i64 0, .slice none 0 0, .slice none 0 0], .int .i64 ((k : Int) + 1), .int .i64 2]) (by simp [results, Tryz.results22, go_sem, z4, k0, k1, k2, f0, f1, f2]) rfl ?_); first | exact RetPd.no HR.out ((((G02.trans ((g2.trans g3).trans g4)).setCell hwz _).setCell hwz _).setCell hwz _) | exact RetPd.no HR.out (G02.trans ((g2.trans g3).trans g4)))
            · have HG2 := Lib.hid (HNx.out _ rfl)
              have HS2 := Lib.hid (HSn.out _ rfl)
              clear HNx HSn HEr HBa
              obtain ⟨sv, rv, hbx, hdt⟩ := id HRD.out
              have HBX := Lib.hid hbx
              go_upto_region 9 with fail
              go_wp2_with (first | (go_at_call 54; (with_reducible refine (HR4.out _).mono ?_); rintro e w3 ⟨b3, o3, cw, rfl, z3, q0, q1, g3⟩) | (go_at_call 55; (with_reducible refine (HCK.out _).mono ?_); rintro e w4 ⟨rfl, g4⟩; obtain ⟨zd, d0, d1, d2⟩ := rd_cells0 HBX.out _ (g3.trans g4); have fz := (HBX.out.gr (g3.trans g4)).frozen 0) | fail)
              go_roundw
              case rel => exact ⟨k + 1, _, by go_num, hlt, ((g.trans g3).trans g4).setCell (Nat.le_refl _) _, (HRD.out.gr (g3.trans g4)).day _, HS2.out, HG2⟩
              case measure => simp [intOf]; omega
          · have tk : ((k : Int) == 0) = false := beqF (by omega)
            rw [decide_eq_false hk0, lineW_rest] at HBa HNx HSn HEr
            by_cases ha : a = bStock
            · rw [if_pos ha] at HBa HNx HSn HEr
              have ts : (a.toList == [115, 116, 111, 99, 107]) = true := by rw [ha, stockL]; rfl
              clear ha
              have HRW := Lib.hid (fun v w' h1 h2 => refRow_any v (a :: t) w' h1 h2 HSA.out)
              have hst : stockW D (a :: t) = match rowS (a :: t) with | some k => .inr { D with st := D.st ++ [k] } | none => .inl 2 := rfl
              rw [hst] at HBa HNx HSn HEr
              clear hst
              generalize rowS (a :: t) = q at HRW HBa HNx HSn HEr
              cases q with
              | none =>
                have HR : Hid (R = (dgm0, (k : Int) + 1, 2)) := HBa.out 2 rfl
                clear HNx HSn HEr HBa
                have HR3 : Hid (∀ v w', IsVals w' v ((a :: t).map Value.string) → CapOk v → Calls Tryz.prog 56 #[v] w' fun e w'' => e = .returned (.tuple #[.agg #[.string ⟨#[]⟩, .int .i64 0, .int .i64 0, .int .i64 0, .int .i64 0], .bool false]) ∧ Gr w' w'') := HRW.out
                clear HRW
                go_upto_region 9 with fail
                go_upto_region 23 with (first | (go_at_call 54; (with_reducible refine (HR2.out _).mono ?_); rintro e w3 ⟨b3, o3, cw, rfl, z3, q0, HQ, HV3, HC3, g3⟩) | (go_at_call 56; (with_reducible refine (HR3.out _ _ HV3.out HC3.out).mono ?_); rintro e w4 ⟨rfl, g4⟩) | fail)
                ((go_upto_region 24 with fail); (obtain ⟨z4, k0, k1, k2, f0, f1, f2⟩ := HDX.out _ (((g2.trans g3).trans g4).alloc (.cells #[.string ⟨#[]⟩, .int .i64 0, .int .i64 0, .int .i64 0, .int .i64 0] 64))); (go_wp2_with fail); (try rw [Exit.noGoto_ret]); (refine bodyPost_ret (v := .tuple #[.agg #[.int .i64 0, .slice none 0 0, .slice none 0 0], .int .i64 ((k : Int) + 1), .int .i64 2]) (by simp [results, Tryz.results22, go_sem, z4, k0, k1, k2, f0, f1, f2]) rfl ?_); first | exact RetPd.no HR.out ((((G02.trans (((g2.trans g3).trans g4).alloc (.cells #[.string ⟨#[]⟩, .int .i64 0, .int .i64 0, .int .i64 0, .int .i64 0] 64))).setCell hwz _).setCell hwz _).setCell hwz _) | exact RetPd.no HR.out (G02.trans (((g2.trans g3).trans g4).alloc (.cells #[.string ⟨#[]⟩, .int .i64 0, .int .i64 0, .int .i64 0, .int .i64 0] 64))))
              | some st =>
                obtain ⟨kn, kl, kt, ka, kb⟩ := st
                have HG2 := Lib.hid (HNx.out _ rfl)
                have HS2 := Lib.hid (HSn.out _ rfl)
                clear HNx HSn HEr HBa
                have HR3 : Hid (∀ v w', IsVals w' v ((a :: t).map Value.string) → CapOk v → Calls Tryz.prog 56 #[v] w' fun e w'' => e = .returned (.tuple #[.agg #[.string kn, .int .i64 kl, .int .i64 kt, .int .i64 ka, .int .i64 kb], .bool true]) ∧ Gr w' w'') := HRW.out
                clear HRW
                obtain ⟨sv, rv, hbx, hdt⟩ := id HRD.out
                obtain ⟨hbB, A, M, k1, k2⟩ := id hdt
                obtain ⟨sa, sc, rfl⟩ := own_form k1
                have HBX := Lib.hid hbx
                have HDT := Lib.hid hdt
                have HK1 : Hid (wr.ownsRow (w1.heap.size + 1) 64 5 (.slice sa D.st.length sc) D.st.length (D.st.flatMap Stk.cs)) := k1
                have hsl : D.st.length ≤ 40000 := by have := HSZ.out.1; omega
                clear hdt hbx k1 k2
                go_upto_region 9 with fail
                go_wp2_with (first | (go_at_call 54; (with_reducible refine (HR2.out _).mono ?_); rintro e w3 ⟨b3, o3, cw, rfl, z3, q0, HQ, HV3, HC3, g3⟩) | (go_at_call 56; (with_reducible refine (HR3.out _ _ HV3.out HC3.out).mono ?_); rintro e w5 ⟨rfl, g5⟩; have g35 := g3.trans g5; have HO5 := Lib.hid (own_gr HK1.out g35); obtain ⟨zd, d0, d1, d2⟩ := rd_cells0 HBX.out _ g35; have fz := (HBX.out.gr g35).frozen 1) | (at_builtin; refine wpList_append_own _ rfl _ _ 28 rfl (w1.heap.size + 1) 64 i0 (.agg #[.string ByteArray.empty, .int .i64 0, .int .i64 0, .int .i64 0, .int .i64 0]) 5 48 Tryz.underlying28 hi0 hi1 hi2 hi3 rfl (by decide) _ _ _ rfl ((HO5.out.alloc _).alloc _) ⟨w5.heap.size + 1, 0, none⟩ 1 1 [.string kn, .int .i64 kl, .int .i64 kt, .int .i64 ka, .int .i64 kb] rfl rfl ?c1 ?c2 ?c3 ?c4 ?c5 ?_))
                case c1 => exact five_newP (w5.alloc _) (by simp) _ _ _ _ _ _
                case c2 => intro u hu; simp at hu; rcases hu with rfl | rfl | rfl | rfl | rfl <;> rfl
                case c3 => unfold maxLen; omega
                case c4 => omega
                case c5 => have := (g.trans g35).size; simp; omega
                intro v' w6 hown' hgrow _
                have HF := bx_far HBX.out HK1.out (by decide)
                have d1x := hgrow.cell_far ⟨w1.heap.size, 1, none⟩ (by simp; omega) (Ne.symm HF)
                have f1x := hgrow.frozen_far ⟨w1.heap.size, 1, none⟩ (by simp; omega) (Ne.symm HF)
                have gS : Gr wr ((w5.alloc (.cells #[.string kn, .int .i64 kl, .int .i64 kt, .int .i64 ka, .int .i64 kb] 64)).alloc (.cells #[.string kn, .int .i64 kl, .int .i64 kt, .int .i64 ka, .int .i64 kb] 64)) := ((g35.alloc _).alloc _)
                have hrs := Lib.hid (Rd.stock (k := ⟨kn, kl, kt, ka, kb⟩) (by decide) (HBX.out.gr gS) (HDT.out.gr gS) hgrow hown')
                have hg6 : Gr w1 w6 := Gr.grown (g.trans gS) hgrow (own_base_le HK1.out (by omega))
                obtain ⟨v1, v2, rfl⟩ := own_form hown'
                clear hown' hgrow
                go_wp2_with fail
                go_roundw
                case rel => exact ⟨k + 1, _, by go_num, hlt, hg6.setCell (Nat.le_refl _) _, hrs.out, HS2.out, HG2⟩
                case measure => simp [intOf]; omega
            rw [if_neg ha] at HBa HNx HSn HEr
            have ts : (a.toList == [115, 116, 111, 99, 107]) = false := by rw [← stockL]; exact str_ne ha
            by_cases hb : a = bTrain
            · rw [if_pos hb] at HBa HNx HSn HEr
              have tt : (a.toList == [116, 114, 97, 105, 110]) = true := by rw [hb, trainL]; rfl
              clear hb
              have HTR := Lib.hid (fun (v : Value) (w' : World) (g' : Gr wr w') h1 h2 => refTrain_any w1.heap.size (w1.heap.size + 1) v (a :: t) _ P k D w1 w' (HPI.out.gr (G02.trans g1)) (Nat.le_refl _) (g.trans g') (HRD.out.gr g') h1 h2 HSA.out HSZ.out (by omega))
              generalize trainW P D (a :: t) = q at HTR HBa HNx HSn HEr
              cases q with
              | inl e =>
                have HR := Lib.hid (HBa.out e rfl)
                have te : (e != 0) = true := bneT (HEr.out e rfl)
                have HT1 : Hid (∀ v w', Gr wr w' → IsVals w' v ((a :: t).map Value.string) → CapOk v → Calls Tryz.prog 57 #[.agg #[.slice a1 P.es.length c1, .slice a2 P.js.length c2, .slice a3 P.ss.length c3, .slice a4 P.ls.length c4, .int .i64 P.top, .int .i64 P.brake, .int .i64 P.margin, .int .i64 P.throw, .bool P.hard], .pointer (some ⟨w1.heap.size, 0, none⟩), v] w' fun e' w'' => e' = .returned (.int .i64 e) ∧ Gr w1 w'') := fun v w' g' h1 h2 => HTR.out v w' g' h1 h2
                clear HTR HBa HNx HSn HEr
                go_upto_region 9 with fail
                go_upto_region 23 with (first | (go_at_call 54; (with_reducible refine (HR2.out _).mono ?_); rintro e w3 ⟨b3, o3, cw, rfl, z3, q0, HQ, HV3, HC3, g3⟩; obtain ⟨zp, p0, p1, p2, p3, p4, p5, p6, p7, p8⟩ := HB.out _ (g2.trans g3)) | (go_at_call 57; (with_reducible refine (HT1.out _ _ g3 HV3.out HC3.out).mono ?_); rintro e' w4 ⟨rfl, g4⟩) | fail)
                ((go_upto_region 24 with fail); (obtain ⟨z4, k0, k1, k2, f0, f1, f2⟩ := HDX.out _ (g1.trans g4)); (go_wp2_with fail); (try rw [Exit.noGoto_ret]); (refine bodyPost_ret (v := .tuple #[.agg #[.int .i64 0, .slice none 0 0, .slice none 0 0], .int .i64 ((k : Int) + 1), .int .i64 e]) (by simp [results, Tryz.results22, go_sem, z4, k0, k1, k2, f0, f1, f2]) rfl ?_); first | exact RetPd.no HR.out ((((G02.trans (g1.trans g4)).setCell hwz _).setCell hwz _).setCell hwz _) | exact RetPd.no HR.out (G02.trans (g1.trans g4)))
              | inr D' =>
                have HG2 := Lib.hid (HNx.out D' rfl)
                have HS2 := Lib.hid (HSn.out D' rfl)
                have HT1 : Hid (∀ v w', Gr wr w' → IsVals w' v ((a :: t).map Value.string) → CapOk v → Calls Tryz.prog 57 #[.agg #[.slice a1 P.es.length c1, .slice a2 P.js.length c2, .slice a3 P.ss.length c3, .slice a4 P.ls.length c4, .int .i64 P.top, .int .i64 P.brake, .int .i64 P.margin, .int .i64 P.throw, .bool P.hard], .pointer (some ⟨w1.heap.size, 0, none⟩), v] w' fun e' w'' => e' = .returned (.int .i64 0) ∧ Gr w1 w'' ∧ True ∧ Rd 31 w1.heap.size 0 (w1.heap.size + 1) w'' D') := fun v w' g' h1 h2 => HTR.out v w' g' h1 h2
                clear HTR HBa HNx HSn HEr
                go_upto_region 9 with fail
                go_wp2_with (first | (go_at_call 54; (with_reducible refine (HR2.out _).mono ?_); rintro e w3 ⟨b3, o3, cw, rfl, z3, q0, HQ, HV3, HC3, g3⟩; obtain ⟨zp, p0, p1, p2, p3, p4, p5, p6, p7, p8⟩ := HB.out _ (g2.trans g3)) | (go_at_call 57; (with_reducible refine (HT1.out _ _ g3 HV3.out HC3.out).mono ?_); rintro e' w4 ⟨rfl, g4, -, r4⟩; have R4 := Lib.hid r4; clear r4) | fail)
                go_roundw
                case rel => exact ⟨k + 1, _, by go_num, hlt, g4, R4.out, HS2.out, HG2⟩
                case measure => simp [intOf]; omega
            · rw [if_neg hb] at HBa HNx HSn HEr
              have tt : (a.toList == [116, 114, 97, 105, 110]) = false := by rw [← trainL]; exact str_ne hb
              have HTR := Lib.hid (fun (v : Value) (w' : World) (g' : Gr wr w') h1 h2 => refLeg_any w1.heap.size (w1.heap.size + 1) v (a :: t) _ P k D w1 w' (HPI.out.gr (G02.trans g1)) (Nat.le_refl _) (g.trans g') (HRD.out.gr g') h1 h2 HSA.out HSZ.out (by omega) (by simp) (by simp only [List.length_cons]; omega))
              generalize legL P D (a :: t) = q at HTR HBa HNx HSn HEr
              cases q with
              | inl e =>
                have HR := Lib.hid (HBa.out e rfl)
                have te : (e != 0) = true := bneT (HEr.out e rfl)
                have HT1 : Hid (∀ v w', Gr wr w' → IsVals w' v ((a :: t).map Value.string) → CapOk v → Calls Tryz.prog 58 #[.agg #[.slice a1 P.es.length c1, .slice a2 P.js.length c2, .slice a3 P.ss.length c3, .slice a4 P.ls.length c4, .int .i64 P.top, .int .i64 P.brake, .int .i64 P.margin, .int .i64 P.throw, .bool P.hard], .pointer (some ⟨w1.heap.size, 0, none⟩), v] w' fun e' w'' => e' = .returned (.int .i64 e) ∧ Gr w1 w'') := fun v w' g' h1 h2 => HTR.out v w' g' h1 h2
                clear HTR HBa HNx HSn HEr
                go_upto_region 9 with fail
                go_upto_region 23 with (first | (go_at_call 54; (with_reducible refine (HR2.out _).mono ?_); rintro e w3 ⟨b3, o3, cw, rfl, z3, q0, HQ, HV3, HC3, g3⟩; obtain ⟨zp, p0, p1, p2, p3, p4, p5, p6, p7, p8⟩ := HB.out _ (g2.trans g3)) | (go_at_call 58; (with_reducible refine (HT1.out _ _ g3 HV3.out HC3.out).mono ?_); rintro e' w4 ⟨rfl, g4⟩) | fail)
                ((go_upto_region 24 with fail); (obtain ⟨z4, k0, k1, k2, f0, f1, f2⟩ := HDX.out _ (g1.trans g4)); (go_wp2_with fail); (try rw [Exit.noGoto_ret]); (refine bodyPost_ret (v := .tuple #[.agg #[.int .i64 0, .slice none 0 0, .slice none 0 0], .int .i64 ((k : Int) + 1), .int .i64 e]) (by simp [results, Tryz.results22, go_sem, z4, k0, k1, k2, f0, f1, f2]) rfl ?_); first | exact RetPd.no HR.out ((((G02.trans (g1.trans g4)).setCell hwz _).setCell hwz _).setCell hwz _) | exact RetPd.no HR.out (G02.trans (g1.trans g4)))
              | inr D' =>
                have HG2 := Lib.hid (HNx.out D' rfl)
                have HS2 := Lib.hid (HSn.out D' rfl)
                have HT1 : Hid (∀ v w', Gr wr w' → IsVals w' v ((a :: t).map Value.string) → CapOk v → Calls Tryz.prog 58 #[.agg #[.slice a1 P.es.length c1, .slice a2 P.js.length c2, .slice a3 P.ss.length c3, .slice a4 P.ls.length c4, .int .i64 P.top, .int .i64 P.brake, .int .i64 P.margin, .int .i64 P.throw, .bool P.hard], .pointer (some ⟨w1.heap.size, 0, none⟩), v] w' fun e' w'' => e' = .returned (.int .i64 0) ∧ Gr w1 w'' ∧ True ∧ Rd 31 w1.heap.size 0 (w1.heap.size + 1) w'' D') := fun v w' g' h1 h2 => HTR.out v w' g' h1 h2
                clear HTR HBa HNx HSn HEr
                go_upto_region 9 with fail
                go_wp2_with (first | (go_at_call 54; (with_reducible refine (HR2.out _).mono ?_); rintro e w3 ⟨b3, o3, cw, rfl, z3, q0, HQ, HV3, HC3, g3⟩; obtain ⟨zp, p0, p1, p2, p3, p4, p5, p6, p7, p8⟩ := HB.out _ (g2.trans g3)) | (go_at_call 58; (with_reducible refine (HT1.out _ _ g3 HV3.out HC3.out).mono ?_); rintro e' w4 ⟨rfl, g4, -, r4⟩; have R4 := Lib.hid r4; clear r4) | fail)
                go_roundw
                case rel => exact ⟨k + 1, _, by go_num, hlt, g4, R4.out, HS2.out, HG2⟩
                case measure => simp [intOf]; omega
    · have hk1 : ¬ (k : Int) < (X.length : Int) := by omega
      have hg := HG.out
      rw [List.take_of_length_le (show X.length ≤ k by omega)] at hg
      clear HG
      by_cases hX : X.length = 0
      · have hXn : X = [] := List.length_eq_zero_iff.1 hX
        have HR : Hid (R = (dgm0, (0 : Int), 2)) := by
          show _ = _
          rw [HPN.out hXn]
        have tX : ((X.length : Int) == 0) = true := beqT (by omega)
        clear hX hXn hg hrd hsz
        (obtain ⟨z4, k0, k1, k2, f0, f1, f2⟩ := HDX.out _ (g2))
        go_wp2_with fail
        try rw [Exit.noGoto_ret]
        (refine bodyPost_ret (v := .tuple #[.agg #[.int .i64 0, .slice none 0 0, .slice none 0 0], .int .i64 0, .int .i64 2]) (by simp [results, Tryz.results22, go_sem, z4, k0, k1, k2, f0, f1, f2]) rfl ?_)
        first | exact RetPd.no HR.out (((gw.setCell hwz _).setCell hwz _).setCell hwz _) | exact RetPd.no HR.out gw
      have tX : ((X.length : Int) == 0) = false := beqF (by omega)
      have HR0 := HPG.out D hg (fun e => hX (by rw [e]; rfl))
      obtain ⟨sv, rv, hbx, hdt⟩ := hrd
      have HDT := Lib.hid hdt
      have hs1 : D.st.length ≤ maxLen := by have := hsz.1; unfold maxLen; omega
      have hs2 : D.runs.length ≤ maxLen := by have := hsz.2.1; unfold maxLen; omega
      have hdg := hdt.dgm hs1 hs2
      have HCK := Lib.hid (fun (w' : World) (g : Gr wr w') => refCheckD_any _ _ P D w' (HPI.out.gr (gw.trans g)) (hdg.gr g) hsz.2.2.2 (fun r hr => (hsz.2.2.1 r hr).2))
      obtain ⟨A, M, q1, q2, q3, q4, -⟩ := hdt.2
      obtain ⟨sa, sc, rfl⟩ := own_form q1
      obtain ⟨ra, rc, rfl⟩ := own_form q2
      obtain ⟨zp, p0, p1, p2, p3, p4, p5, p6, p7, p8⟩ := HB.out _ g2
      obtain ⟨zd, d0, d1, d2⟩ := rd_cells0 hbx _ (Gr.refl _)
      have HBX := Lib.hid hbx
      have HS1 := Lib.hid hs1
      have HS2 := Lib.hid hs2
      clear hdg q1 q2 q3 q4 hdt hsz hg hX hs1 hs2 hbx
      have HCE : Hid (∀ w', Gr wr w' → Calls Tryz.prog 14 #[.agg #[.slice a1 P.es.length c1, .slice a2 P.js.length c2, .slice a3 P.ss.length c3, .slice a4 P.ls.length c4, .int .i64 P.top, .int .i64 P.brake, .int .i64 P.margin, .int .i64 P.throw, .bool P.hard], .agg #[.int .i64 D.beg, .slice sa D.st.length sc, .slice ra A.length rc]] w' fun e w'' => e = .returned (.int .i64 (chkD P D)) ∧ Gr w' w'') := HCK.out
      clear HCK
      by_cases hE : chkD P D = 0
      · rw [if_pos hE] at HR0
        rw [hE] at HCE
        have HR := Lib.hid HR0
        clear HR0
        go_wp2_with (first | (go_at_call 14; (with_reducible refine (HCE.out _ (Gr.refl _)).mono ?_); rintro e w4 ⟨rfl, g4⟩; obtain ⟨ze, e0, e1, e2⟩ := rd_cells0 HBX.out _ g4; (obtain ⟨z4, k0, k1, k2, f0, f1, f2⟩ := HDX.out _ (g2.trans g4))) | fail)
        try rw [Exit.noGoto_ret]
        (refine bodyPost_ret (v := .tuple #[.agg #[.int .i64 D.beg, .slice sa D.st.length sc, .slice ra A.length rc], .int .i64 X.length, .int .i64 0]) (by simp [results, Tryz.results22, go_sem, z4, k0, k1, k2, f0, f1, f2]) rfl ?_)
        exact RetPd.yes HR.out (((((HDT.out.gr g4).setc _ (by simp; omega) _).setc _ (by simp; omega) _).setc _ (by simp; omega) _).dgm HS1.out HS2.out) ((((gw.trans g4).setCell hwz _).setCell hwz _).setCell hwz _)
      · rw [if_neg hE] at HR0
        have HR := Lib.hid HR0
        clear HR0
        generalize chkD P D = E at *
        have tE : (E != 0) = true := bneT hE
        clear hE
        go_wp2_with (first | (go_at_call 14; (with_reducible refine (HCE.out _ (Gr.refl _)).mono ?_); rintro e w4 ⟨rfl, g4⟩; (obtain ⟨z4, k0, k1, k2, f0, f1, f2⟩ := HDX.out _ (g2.trans g4))) | fail)
        try rw [Exit.noGoto_ret]
        (refine bodyPost_ret (v := .tuple #[.agg #[.int .i64 0, .slice none 0 0, .slice none 0 0], .int .i64 X.length, .int .i64 E]) (by simp [results, Tryz.results22, go_sem, z4, k0, k1, k2, f0, f1, f2]) rfl ?_)
        first | exact RetPd.no HR.out ((((gw.trans g4).setCell hwz _).setCell hwz _).setCell hwz _) | exact RetPd.no HR.out (gw.trans g4)
end Go.Proofs.YtgjnlgcdpbilfaaGreatDoor
