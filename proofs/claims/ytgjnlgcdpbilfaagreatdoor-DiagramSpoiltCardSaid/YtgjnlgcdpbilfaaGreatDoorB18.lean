/- DgB: diagram.Last and the reference's.
DgKn: The timetables' known.
DgD: The reference's legs.
DgG: The reference's Check of a timetable.
DgY: Timetables with fewer runs or legs, with later legs, with none: what Check and Last answer, how many lines there are. Plain.
DgCp: Copies of runs: what a copied row holds, and how it changes. No walk.
Clk4: Clock: the reference's Parse. -/
import Derived.Test.YtgjnlgcdpbilfaaGreatDoorRows
import Derived.Test.YtgjnlgcdpbilfaaGreatDoorB13
import Derived.Test.YtgjnlgcdpbilfaaGreatDoorB15
import Derived.Test.YtgjnlgcdpbilfaaGreatDoorB17
import Derived.Test.YtgjnlgcdpbilfaaGreatDoorB12
import Derived.Deep.RegionHeld3
import Derived.Test.YtgjnlgcdpbilfaaGreatDoorB14
import Derived.Test.YtgjnlgcdpbilfaaGreatDoorB1
import Derived.Test.YtgjnlgcdpbilfaaGreatDoorB9
import Derived.Test.YtgjnlgcdpbilfaaGreatDoorB8
import Derived.Test.YtgjnlgcdpbilfaaGreatDoorB10
namespace Go.Proofs.YtgjnlgcdpbilfaaGreatDoor
open Go.ChangeShapes Go.WideShapes Go.ChangeAt Go.RowKit Go.Maps
set_option linter.unusedVariables false
set_option linter.unusedSimpArgs false
set_option maxRecDepth 100000 in
set_option maxHeartbeats 1000000 in
theorem dgLast_any (v : Value) (D : Dgm) (w : World) (hD : IsDgm w v D) :
    Calls Tryz.prog 15 #[v] w fun e w' => e = .returned (.int .i64 (lastD D)) ∧ Gr w w' := by
  obtain ⟨a1, c1, a2, c2, rfl, -, hR⟩ := hD
  have HR := Lib.hid hR
  obtain ⟨-, -, -, hm, -⟩ := hR.form
  unfold maxLen at hm
  unfold dgmV
  have g0 : Gr w (w.alloc (.cells #[.int .i64 D.beg, .slice a1 D.st.length c1, .slice a2 D.runs.length c2] 31)) := (Gr.refl _).alloc _
  have HD : Hid (lastD D = lastR 0 D.runs) := rfl
  generalize lastD D = Z at HD ⊢
  clear hR
  go_enter Tryz.func15, Tryz.ntmps15
  go_wp2_with fail
  go_loopw [3, 11] (fun x y wr => ∃ k : Nat, x = .int .i64 (lastR 0 (D.runs.take k)) ∧ y = .int .i64 k ∧ k ≤ D.runs.length ∧ Gr w wr) (fun _ y _ => D.runs.length - (intOf y).toNat)
  case atStart => exact ⟨0, rfl, rfl, Nat.zero_le _, g0⟩
  case round =>
    obtain ⟨k, rfl, rfl, hk, g⟩ := hrel
    by_cases hlt : k < D.runs.length
    · have hk1 : (k : Int) < (D.runs.length : Int) := by omega
      obtain ⟨bb, o, la, lc, hs, z, y0, y1, y2, y3, y4, hl⟩ := (HR.out.gr g).at k hlt
      subst hs
      have HLG := Lib.hid hl
      obtain ⟨_, _, -, hlm, -⟩ := hl.form
      unfold maxLen at hlm
      have HN : Hid (lastR 0 (D.runs.take (k + 1)) = lastL (lastR 0 (D.runs.take k)) D.runs[k].legs) := lastR_snoc hlt 0
      generalize lastR 0 (D.runs.take k) = A at HN ⊢
      generalize hr0 : D.runs[k] = r at y0 y1 y2 y3 y4 HLG hlm HN
      clear hr0 hl
      obtain ⟨nm, st, fr, lf, L⟩ := r
      dsimp only at y0 y1 y2 y3 y4 HLG hlm HN
      go_wp2_with fail
      go_loopw [3, 18] (fun x y wi => ∃ j : Nat, x = .int .i64 (lastL A (L.take j)) ∧ y = .int .i64 j ∧ j ≤ L.length ∧ Gr wr wi) (fun _ y _ => L.length - (intOf y).toNat)
      case atStart => exact ⟨0, rfl, rfl, Nat.zero_le _, (Gr.refl _).alloc _⟩
      case round =>
        obtain ⟨j, rfl, rfl, hj, g2⟩ := hrel
        by_cases hlj : j < L.length
        · have hj1 : (j : Int) < (L.length : Int) := by omega
          obtain ⟨b2, o2, hs2, z2, x0, x1, x2, x3⟩ := (HLG.out.gr g2).at j hlj
          subst hs2
          have HM : Hid (lastL A (L.take (j + 1)) = max (lastL A (L.take j)) L[j].at_) := lastL_snoc hlj A
          generalize lastL A (L.take j) = B at HM ⊢
          generalize L[j] = l at x0 x1 x2 x3 HM
          obtain ⟨tn, at_, en, tg⟩ := l
          dsimp only at x0 x1 x2 x3 HM
          go_wp2_with fail
          go_roundw
          case rel => exact ⟨j + 1, by first | (rw [HM.out]; done) | (rw [HM.out]; rfl) | (rw [HM.out]; congr 1; omega), by go_num, hlj, g2.alloc _⟩
          case measure => simp [intOf]; omega
        · have hj1 : ¬ (j : Int) < (L.length : Int) := by omega
          have HQ : Hid (lastL A (L.take j) = lastR 0 (D.runs.take (k + 1))) := by show _ = _; rw [HN.out, List.take_of_length_le (by omega)]
          generalize lastL A (L.take j) = B at HQ ⊢
          go_wp2_with fail
          go_roundw
          case rel => exact ⟨k + 1, by rw [HQ.out], by go_num, hlt, g.trans g2⟩
          case measure => simp [intOf]; omega
    · have hk1 : ¬ (k : Int) < (D.runs.length : Int) := by omega
      have HQ : Hid (lastR 0 (D.runs.take k) = Z) := by show _ = _; rw [HD.out, List.take_of_length_le (by omega)]
      go_wp2_with fail
      go_ret
      exact ⟨ret_int HQ.out, g⟩
set_option maxRecDepth 100000 in
set_option maxHeartbeats 1000000 in
theorem refLast_any (v : Value) (D : Dgm) (w : World) (hD : IsDgm w v D) :
    Calls Tryz.prog 16 #[v] w fun e w' => e = .returned (.int .i64 (lastD D)) ∧ Gr w w' := by
  obtain ⟨a1, c1, a2, c2, rfl, -, hR⟩ := hD
  have HR := Lib.hid hR
  obtain ⟨-, -, -, hm, -⟩ := hR.form
  unfold maxLen at hm
  unfold dgmV
  have g0 : Gr w (w.alloc (.cells #[.int .i64 D.beg, .slice a1 D.st.length c1, .slice a2 D.runs.length c2] 31)) := (Gr.refl _).alloc _
  have HD : Hid (lastD D = lastR 0 D.runs) := rfl
  generalize lastD D = Z at HD ⊢
  clear hR
  go_enter Tryz.func16, Tryz.ntmps16
  go_wp2_with fail
  go_loopw [3, 11] (fun x y wr => ∃ k : Nat, x = .int .i64 (lastR 0 (D.runs.take k)) ∧ y = .int .i64 k ∧ k ≤ D.runs.length ∧ Gr w wr) (fun _ y _ => D.runs.length - (intOf y).toNat)
  case atStart => exact ⟨0, rfl, rfl, Nat.zero_le _, g0⟩
  case round =>
    obtain ⟨k, rfl, rfl, hk, g⟩ := hrel
    by_cases hlt : k < D.runs.length
    · have hk1 : (k : Int) < (D.runs.length : Int) := by omega
      obtain ⟨bb, o, la, lc, hs, z, y0, y1, y2, y3, y4, hl⟩ := (HR.out.gr g).at k hlt
      subst hs
      have HLG := Lib.hid hl
      obtain ⟨_, _, -, hlm, -⟩ := hl.form
      unfold maxLen at hlm
      have HN : Hid (lastR 0 (D.runs.take (k + 1)) = lastL (lastR 0 (D.runs.take k)) D.runs[k].legs) := lastR_snoc hlt 0
      generalize lastR 0 (D.runs.take k) = A at HN ⊢
      generalize hr0 : D.runs[k] = r at y0 y1 y2 y3 y4 HLG hlm HN
      clear hr0 hl
      obtain ⟨nm, st, fr, lf, L⟩ := r
      dsimp only at y0 y1 y2 y3 y4 HLG hlm HN
      go_wp2_with fail
      go_loopw [3, 18] (fun x y wi => ∃ j : Nat, x = .int .i64 (lastL A (L.take j)) ∧ y = .int .i64 j ∧ j ≤ L.length ∧ Gr wr wi) (fun _ y _ => L.length - (intOf y).toNat)
      case atStart => exact ⟨0, rfl, rfl, Nat.zero_le _, (Gr.refl _).alloc _⟩
      case round =>
        obtain ⟨j, rfl, rfl, hj, g2⟩ := hrel
        by_cases hlj : j < L.length
        · have hj1 : (j : Int) < (L.length : Int) := by omega
          obtain ⟨b2, o2, hs2, z2, x0, x1, x2, x3⟩ := (HLG.out.gr g2).at j hlj
          subst hs2
          have HM : Hid (lastL A (L.take (j + 1)) = max (lastL A (L.take j)) L[j].at_) := lastL_snoc hlj A
          generalize lastL A (L.take j) = B at HM ⊢
          generalize L[j] = l at x0 x1 x2 x3 HM
          obtain ⟨tn, at_, en, tg⟩ := l
          dsimp only at x0 x1 x2 x3 HM
          go_wp2_with fail
          go_roundw
          case rel => exact ⟨j + 1, by first | (rw [HM.out]; done) | (rw [HM.out]; rfl) | (rw [HM.out]; congr 1; omega), by go_num, hlj, g2.alloc _⟩
          case measure => simp [intOf]; omega
        · have hj1 : ¬ (j : Int) < (L.length : Int) := by omega
          have HQ : Hid (lastL A (L.take j) = lastR 0 (D.runs.take (k + 1))) := by show _ = _; rw [HN.out, List.take_of_length_le (by omega)]
          generalize lastL A (L.take j) = B at HQ ⊢
          go_wp2_with fail
          go_roundw
          case rel => exact ⟨k + 1, by rw [HQ.out], by go_num, hlt, g.trans g2⟩
          case measure => simp [intOf]; omega
    · have hk1 : ¬ (k : Int) < (D.runs.length : Int) := by omega
      have HQ : Hid (lastR 0 (D.runs.take k) = Z) := by show _ = _; rw [HD.out, List.take_of_length_le (by omega)]
      go_wp2_with fail
      go_ret
      exact ⟨ret_int HQ.out, g⟩
end Go.Proofs.YtgjnlgcdpbilfaaGreatDoor
namespace Go.Proofs.YtgjnlgcdpbilfaaGreatDoor
open Go.ChangeShapes Go.WideShapes Go.ChangeAt Go.RowKit Go.Maps
set_option linter.unusedVariables false
set_option linter.unusedSimpArgs false
theorem oneD_chk : chkD smallP oneD = 0 := by kernel_rfl
theorem oneD_last : lastD oneD = 61 := by kernel_rfl
set_option maxRecDepth 100000 in
theorem oneD_print : printD smallP oneD = ⟨#[100, 97, 121, 32, 48, 49, 58, 48, 48, 58, 48, 48, 10, 115, 116, 111, 99, 107, 32, 120, 32, 53, 32, 49, 48, 32, 50, 32, 53, 10, 116, 114, 97, 105, 110, 32, 116, 32, 120, 32, 119, 32, 48, 10, 103, 111, 32, 48, 49, 58, 48, 48, 58, 48, 48, 32, 97, 10, 103, 97, 116, 101, 32, 48, 49, 58, 48, 49, 58, 48, 49, 32, 69, 10]⟩ := by kernel_rfl
theorem small_chk : chk smallP = 0 := fine_chk small_fine
theorem oneD_parse : parD smallP ⟨#[100, 97, 121, 32, 48, 49, 58, 48, 48, 58, 48, 48, 10, 115, 116, 111, 99, 107, 32, 120, 32, 53, 32, 49, 48, 32, 50, 32, 53, 10, 116, 114, 97, 105, 110, 32, 116, 32, 120, 32, 119, 32, 48, 10, 103, 111, 32, 48, 49, 58, 48, 48, 58, 48, 48, 32, 97, 10, 103, 97, 116, 101, 32, 48, 49, 58, 48, 49, 58, 48, 49, 32, 69, 10]⟩ = (oneD, 5, 0) := by
  have := parD_print small_chk oneD_chk (by have := printD_size small_chk oneD_chk; omega)
  rw [oneD_print] at this
  rw [this]
  rfl
theorem oneD_st : ∀ s ∈ oneD.st, s.nm.size ≤ maxLen := fun s hs => by
  have : s = ⟨⟨#[120]⟩, 5, 10, 2, 5⟩ := by simpa [oneD] using hs
  subst this; decide
theorem oneD_rn : ∀ r ∈ oneD.runs, r.nm.size ≤ maxLen := fun r hr => by
  have : r = ⟨⟨#[116]⟩, 0, 0, 0, [⟨false, 0, 1, 1⟩, ⟨false, 61, 2, 5⟩]⟩ := by simpa [oneD] using hr
  subst this; decide
set_option maxRecDepth 100000 in
set_option maxHeartbeats 2000000 in
theorem known30_any (w : World) (ht : Tabs w) : Calls Tryz.prog 10 #[] w fun e w' => e = .returned (.bool true) ∧ Gr w w' := by
  have HPR : Hid (∀ pv v w', Gr w w' → IsPln w' pv smallP → IsDgm w' v oneD → Calls Tryz.prog 18 #[pv, v] w' fun e w'' => e = .returned (.tuple #[.string ⟨#[100, 97, 121, 32, 48, 49, 58, 48, 48, 58, 48, 48, 10, 115, 116, 111, 99, 107, 32, 120, 32, 53, 32, 49, 48, 32, 50, 32, 53, 10, 116, 114, 97, 105, 110, 32, 116, 32, 120, 32, 119, 32, 48, 10, 103, 111, 32, 48, 49, 58, 48, 48, 58, 48, 48, 32, 97, 10, 103, 97, 116, 101, 32, 48, 49, 58, 48, 49, 58, 48, 49, 32, 69, 10]⟩, .int .i64 0]) ∧ Gr w' w'') := fun pv v w' g hp hd => by
    have := dgPrint_any pv v smallP oneD w' (ht.gr g) hp small_chk hd oneD_st oneD_rn
    rw [if_pos oneD_chk, oneD_chk, oneD_print] at this
    exact this
  have HPA : Hid (∀ pv w', Gr w w' → IsPln w' pv smallP → Calls Tryz.prog 20 #[pv, .string ⟨#[100, 97, 121, 32, 48, 49, 58, 48, 48, 58, 48, 48, 10, 115, 116, 111, 99, 107, 32, 120, 32, 53, 32, 49, 48, 32, 50, 32, 53, 10, 116, 114, 97, 105, 110, 32, 116, 32, 120, 32, 119, 32, 48, 10, 103, 111, 32, 48, 49, 58, 48, 48, 58, 48, 48, 32, 97, 10, 103, 97, 116, 101, 32, 48, 49, 58, 48, 49, 58, 48, 49, 32, 69, 10]⟩] w' fun e w'' => ∃ v, e = .returned (.tuple #[v, .int .i64 5, .int .i64 0]) ∧ IsDgm w'' v oneD ∧ Gr w' w'') := fun pv w' g hp => by
    have := dgParse_any pv smallP ⟨#[100, 97, 121, 32, 48, 49, 58, 48, 48, 58, 48, 48, 10, 115, 116, 111, 99, 107, 32, 120, 32, 53, 32, 49, 48, 32, 50, 32, 53, 10, 116, 114, 97, 105, 110, 32, 116, 32, 120, 32, 119, 32, 48, 10, 103, 111, 32, 48, 49, 58, 48, 48, 58, 48, 48, 32, 97, 10, 103, 97, 116, 101, 32, 48, 49, 58, 48, 49, 58, 48, 49, 32, 69, 10]⟩ (by decide) w' (shp_gr ht.sh g) hp
    rw [oneD_parse] at this
    exact this
  have HTX : Hid (∀ w', Calls Tryz.prog 27 #[] w' fun e w'' => e = .returned (.string ⟨#[100, 97, 121, 32, 48, 49, 58, 48, 48, 58, 48, 48, 10, 115, 116, 111, 99, 107, 32, 120, 32, 53, 32, 49, 48, 32, 50, 32, 53, 10, 116, 114, 97, 105, 110, 32, 116, 32, 120, 32, 119, 32, 48, 10, 103, 111, 32, 48, 49, 58, 48, 48, 58, 48, 48, 32, 97, 10, 103, 97, 116, 101, 32, 48, 49, 58, 48, 49, 58, 48, 49, 32, 69, 10]⟩) ∧ w'' = w') := fun w' => text30_any w'
  generalize (⟨#[100, 97, 121, 32, 48, 49, 58, 48, 48, 58, 48, 48, 10, 115, 116, 111, 99, 107, 32, 120, 32, 53, 32, 49, 48, 32, 50, 32, 53, 10, 116, 114, 97, 105, 110, 32, 116, 32, 120, 32, 119, 32, 48, 10, 103, 111, 32, 48, 49, 58, 48, 48, 58, 48, 48, 32, 97, 10, 103, 97, 116, 101, 32, 48, 49, 58, 48, 49, 58, 48, 49, 32, 69, 10]⟩ : ByteArray) = T at HPR HPA HTX
  have tT : (T.toList == T.toList) = true := by simp
  have G := Gr.refl w
  go_enter Tryz.func10, Tryz.ntmps10
  go_wp2_with (first | (go_at_call 25; (with_reducible refine (small_any _).mono ?_); rintro e wS ⟨vS, rfl, hP, gS⟩; have G := G.trans gS; have HP := Lib.hid hP; clear hP) | (go_at_call 26; (with_reducible refine (one30_any _).mono ?_); rintro e wO ⟨vO, rfl, hD, gO⟩; have HP := Lib.hid (HP.out.gr gO); have G := G.trans gO; have HD := Lib.hid hD; clear hD) | (go_at_call 18; (with_reducible refine (HPR.out _ _ _ G HP.out HD.out).mono ?_); rintro e wP ⟨rfl, gP⟩; have G := G.trans gP) | (go_at_call 27; (with_reducible refine (HTX.out _).mono ?_); rintro e wT ⟨rfl, hq⟩; obtain rfl := hq.symm) | (go_at_call 20; (with_reducible refine (HPA.out _ _ G HP.out).mono ?_); rintro e wQ ⟨vQ, rfl, hQ, gQ⟩; have G := G.trans gQ; have HQ := Lib.hid hQ; obtain ⟨qa1, qc1, qa2, qc2, rfl, -⟩ := hQ; unfold dgmV at HQ ⊢) | fail)
  have GQ : Gr w (wQ.alloc (.cells #[.int .i64 oneD.beg, .slice qa1 oneD.st.length qc1, .slice qa2 oneD.runs.length qc2] 31)) := G.alloc _
  have hQz : wQ.heap.size < (wQ.alloc (.cells #[.int .i64 oneD.beg, .slice qa1 oneD.st.length qc1, .slice qa2 oneD.runs.length qc2] 31)).heap.size := by simp
  have HS : Hid (∀ w', Gr (wQ.alloc (.cells #[.int .i64 oneD.beg, .slice qa1 oneD.st.length qc1, .slice qa2 oneD.runs.length qc2] 31)) w' → (w'.cell? ⟨wQ.heap.size, 0, none⟩ = some (.int .i64 oneD.beg) ∧ w'.cell? ⟨wQ.heap.size, 1, none⟩ = some (.slice qa1 oneD.st.length qc1) ∧ w'.cell? ⟨wQ.heap.size, 2, none⟩ = some (.slice qa2 oneD.runs.length qc2))) := fun w' g => ⟨(g.cell _ _ hQz).trans (by go_simp), (g.cell _ _ hQz).trans (by go_simp), (g.cell _ _ hQz).trans (by go_simp)⟩
  have HQ2 := Lib.hid (HQ.out.gr (w' := wQ.alloc (.cells #[.int .i64 oneD.beg, .slice qa1 oneD.st.length qc1, .slice qa2 oneD.runs.length qc2] 31)) ((Gr.refl _).alloc _))
  have HLA : Hid (∀ w', Gr (wQ.alloc (.cells #[.int .i64 oneD.beg, .slice qa1 oneD.st.length qc1, .slice qa2 oneD.runs.length qc2] 31)) w' → Calls Tryz.prog 15 #[.agg #[.int .i64 oneD.beg, .slice qa1 oneD.st.length qc1, .slice qa2 oneD.runs.length qc2]] w' fun e w'' => e = .returned (.int .i64 61) ∧ Gr w' w'') := fun w' g => by
    have := dgLast_any _ oneD w' (HQ2.out.gr g)
    rw [oneD_last] at this
    exact this
  clear HPR HPA HP HQ
  generalize oneD.beg = ob at *
  generalize oneD.st.length = os at *
  generalize oneD.runs.length = ou at *
  generalize (wQ.alloc (.cells #[.int .i64 ob, .slice qa1 os qc1, .slice qa2 ou qc2] 31)) = wq at *
  go_region_held3 (fun w' => w'.cell? ⟨wQ.heap.size, 0, none⟩ = some (.int .i64 ob) ∧ w'.cell? ⟨wQ.heap.size, 1, none⟩ = some (.slice qa1 os qc1) ∧ w'.cell? ⟨wQ.heap.size, 2, none⟩ = some (.slice qa2 ou qc2)) (first | exact HS.out _ (Gr.refl _) | exact HS.out _ (Gr.refl _).drew | exact HS.out _ ((Gr.refl _).drew.trans g5) | exact HS.out _ (((Gr.refl _).drew.trans g5).trans g6) | exact HS.out _ ((((Gr.refl _).drew.trans g5).trans g6).trans g7)) (first | (go_at_call 27; (with_reducible refine (HTX.out _).mono ?_); rintro e wT ⟨rfl, hq⟩; obtain rfl := hq.symm) | (go_at_call 26; (with_reducible refine (one30_any _).mono ?_); rintro e w5 ⟨v5, rfl, hD5, g5⟩; have HD5 := Lib.hid hD5; clear hD5) | (go_at_call 17; (with_reducible refine (dgSame_yes _ _ oneD _ (HQ2.out.gr ((Gr.refl _).drew.trans g5)) HD5.out).mono ?_); rintro e w6 ⟨rfl, g6⟩) | (go_at_call 15; (with_reducible refine (HLA.out _ (((Gr.refl _).drew.trans g5).trans g6)).mono ?_); rintro e w7 ⟨rfl, g7⟩))
  go_wp2_with fail
  go_ret
  exact ⟨rfl, (((GQ.drew).trans g5).trans g6).trans g7⟩
end Go.Proofs.YtgjnlgcdpbilfaaGreatDoor
namespace Go.Proofs.YtgjnlgcdpbilfaaGreatDoor
open Go.ChangeShapes Go.WideShapes Go.ChangeAt Go.RowKit Go.Maps
set_option linter.unusedVariables false
set_option linter.unusedSimpArgs false
set_option maxRecDepth 100000 in
set_option maxHeartbeats 2000000 in
theorem refLegs_any (pv v : Value) (P : Pln) (L : List Leg) (w : World) (hP : IsPln w pv P) (hL : IsLegs w v L) :
    Calls Tryz.prog 39 #[pv, v] w fun e w' => e = .returned (.bool (legsB P 0 L)) ∧ Gr w w' := by
  have HPI := Lib.hid hP
  have HLG := Lib.hid hL
  obtain ⟨a1, c1, a2, c2, a3, c3, a4, c4, rfl, -, -, h3, -⟩ := hP
  have hm3 := IsRow.len h3
  obtain ⟨la, lc, rfl, hlm, -⟩ := hL.form
  unfold maxLen at hm3 hlm
  have g0 : Gr w (w.alloc (.cells #[.slice a1 P.es.length c1, .slice a2 P.js.length c2, .slice a3 P.ss.length c3, .slice a4 P.ls.length c4, .int .i64 P.top, .int .i64 P.brake, .int .i64 P.margin, .int .i64 P.throw, .bool P.hard] 27)) := (Gr.refl _).alloc _
  have HB := Lib.hid (fun (w' : World) (g : Gr (w.alloc (.cells #[.slice a1 P.es.length c1, .slice a2 P.js.length c2, .slice a3 P.ss.length c3, .slice a4 P.ls.length c4, .int .i64 P.top, .int .i64 P.brake, .int .i64 P.margin, .int .i64 P.throw, .bool P.hard] 27)) w') => (PBox.new w P (.slice a1 P.es.length c1) (.slice a2 P.js.length c2) (.slice a3 P.ss.length c3) (.slice a4 P.ls.length c4)).gr g)
  generalize hR : legsB P 0 L = R
  have HRL := Lib.hid hR
  unfold plnV at HPI ⊢
  clear hL h3 hR
  go_enter Tryz.func39, Tryz.ntmps39
  go_wp2_with fail
  go_loopw [5, 10] (fun x y wr => ∃ (k : Nat) (a : Int), x = .int .i64 a ∧ y = .int .i64 k ∧ k ≤ L.length ∧ Gr (w.alloc (.cells #[.slice a1 P.es.length c1, .slice a2 P.js.length c2, .slice a3 P.ss.length c3, .slice a4 P.ls.length c4, .int .i64 P.top, .int .i64 P.brake, .int .i64 P.margin, .int .i64 P.throw, .bool P.hard] 27)) wr ∧ Hid (LegK P L k a)) (fun _ y _ => L.length - (intOf y).toNat)
  case atStart => exact ⟨0, 0, rfl, rfl, Nat.zero_le _, Gr.refl _, LegK.start P L⟩
  case round =>
    obtain ⟨k, a, rfl, rfl, hk, g, HA⟩ := hrel
    have gw := g0.trans g
    by_cases hlt : k < L.length
    · have hk1 : (k : Int) < (L.length : Int) := by omega
      obtain ⟨bb, o, hs, z, y0, y1, y2, y3⟩ := (HLG.out.gr gw).at k hlt
      subst hs
      obtain ⟨zb, p0, p1, p2, p3, p4, p5, p6, p7, p8⟩ := HB.out _ g
      have HNo : Hid (winB L[k].at_ a 2000 = false ∨ legTo P L[k] = false → R = false) := fun h => HRL.out.symm.trans (HA.out.no hlt h)
      have HYe : Hid (winB L[k].at_ a 2000 = true → legTo P L[k] = true → LegK P L (k + 1) L[k].at_) := fun h1 h2 => HA.out.yes hlt h1 h2
      have HT : Hid (legTo P L[k] = if L[k].en = 1 then winB L[k].dst 0 ((P.ss.length : Int) - 1) else if L[k].en = 2 then decide (kindP P L[k].dst = 4) else if L[k].en = 3 then decide (kindP P L[k].dst = 1) else false) := rfl
      clear HA
      generalize legTo P L[k] = q at HNo HYe HT
      generalize L[k] = l at y0 y1 y2 y3 HNo HYe HT
      obtain ⟨tn, at_, en, tg⟩ := l
      dsimp only at y0 y1 y2 y3 HNo HYe HT
      have HW := Lib.hid (fun w' => within30_any at_ a 2000 w')
      have HV := Lib.hid (fun w' => within30_any tg 0 ((P.ss.length : Int) - 1) w')
      have HKD := Lib.hid (fun (w' : World) (g : Gr w w') => kindE2_any _ P tg w' (HPI.out.gr g))
      unfold plnV at HKD
      have zl : w.heap.size < wr.heap.size + 1 := by omega
      generalize winB at_ a 2000 = q1 at HW HNo HYe
      cases q1
      · have HF := Lib.hid (HNo.out (.inl rfl))
        clear HNo HYe HT
        go_wp2_with (first | (go_at_call 37; (with_reducible refine (HW.out _).mono ?_); rintro e w2 ⟨rfl, hq⟩; obtain rfl := hq.symm) | fail)
        (go_ret; exact ⟨ret_bool HF.out.symm, gw.alloc _⟩)
      replace HYe : Hid (q = true → LegK P L (k + 1) at_) := HYe.out rfl
      replace HNo : Hid (q = false → R = false) := fun h => HNo.out (.inr h)
      generalize winB tg 0 ((P.ss.length : Int) - 1) = q2 at HV HT
      generalize kindP P tg = K at HKD HT
      by_cases e1 : en = 1
      · have HT1 : Hid (q = q2) := by show _ = _; rw [HT.out, if_pos e1]
        subst e1
        cases q2
        · have HF := Lib.hid (HNo.out HT1.out)
          clear HNo HYe HT HT1
          go_wp2_with (first | (go_at_call 37; (with_reducible refine (HW.out _).mono ?_); rintro e w2 ⟨rfl, hq⟩; obtain rfl := hq.symm) | (go_at_call 37; (with_reducible refine (HV.out _).mono ?_); rintro e w2 ⟨rfl, hq⟩; obtain rfl := hq.symm) | fail)
          (go_ret; exact ⟨ret_bool HF.out.symm, gw.alloc _⟩)
        · have HK := Lib.hid (HYe.out HT1.out)
          clear HNo HYe HT HT1
          go_wp2_with (first | (go_at_call 37; (with_reducible refine (HW.out _).mono ?_); rintro e w2 ⟨rfl, hq⟩; obtain rfl := hq.symm) | (go_at_call 37; (with_reducible refine (HV.out _).mono ?_); rintro e w2 ⟨rfl, hq⟩; obtain rfl := hq.symm) | fail)
          (go_roundw; (case rel => exact ⟨k + 1, at_, rfl, by go_num, hlt, g.alloc _, HK.out⟩); (case measure => simp [intOf]; omega))
      have t1 : (en == 1) = false := beqF e1
      by_cases e2 : en = 2
      · have HT1 : Hid (q = decide (K = 4)) := by show _ = _; rw [HT.out, if_neg e1, if_pos e2]
        subst e2
        by_cases k4 : K = 4
        · have HK := Lib.hid (HYe.out (by rw [HT1.out, decide_eq_true k4]))
          have tk : (K != 4) = false := bneF k4
          clear HNo HYe HT HT1 k4
          go_wp2_with (first | (go_at_call 37; (with_reducible refine (HW.out _).mono ?_); rintro e w2 ⟨rfl, hq⟩; obtain rfl := hq.symm) | (go_at_call 74; (with_reducible refine (HKD.out _ (gw.alloc _)).mono ?_); rintro e w3 ⟨rfl, g3⟩) | fail)
          (go_roundw; (case rel => exact ⟨k + 1, at_, rfl, by go_num, hlt, (g.alloc _).trans g3, HK.out⟩); (case measure => simp [intOf]; omega))
        · have HF := Lib.hid (HNo.out (by rw [HT1.out, decide_eq_false k4]))
          have tk : (K != 4) = true := bneT k4
          clear HNo HYe HT HT1 k4
          go_wp2_with (first | (go_at_call 37; (with_reducible refine (HW.out _).mono ?_); rintro e w2 ⟨rfl, hq⟩; obtain rfl := hq.symm) | (go_at_call 74; (with_reducible refine (HKD.out _ (gw.alloc _)).mono ?_); rintro e w3 ⟨rfl, g3⟩) | fail)
          (go_ret; exact ⟨ret_bool HF.out.symm, (gw.alloc _).trans g3⟩)
      have t2 : (en == 2) = false := beqF e2
      by_cases e3 : en = 3
      · have HT1 : Hid (q = decide (K = 1)) := by show _ = _; rw [HT.out, if_neg e1, if_neg e2, if_pos e3]
        subst e3
        by_cases k4 : K = 1
        · have HK := Lib.hid (HYe.out (by rw [HT1.out, decide_eq_true k4]))
          have tk : (K != 1) = false := bneF k4
          clear HNo HYe HT HT1 k4
          go_wp2_with (first | (go_at_call 37; (with_reducible refine (HW.out _).mono ?_); rintro e w2 ⟨rfl, hq⟩; obtain rfl := hq.symm) | (go_at_call 74; (with_reducible refine (HKD.out _ (gw.alloc _)).mono ?_); rintro e w3 ⟨rfl, g3⟩) | fail)
          (go_roundw; (case rel => exact ⟨k + 1, at_, rfl, by go_num, hlt, (g.alloc _).trans g3, HK.out⟩); (case measure => simp [intOf]; omega))
        · have HF := Lib.hid (HNo.out (by rw [HT1.out, decide_eq_false k4]))
          have tk : (K != 1) = true := bneT k4
          clear HNo HYe HT HT1 k4
          go_wp2_with (first | (go_at_call 37; (with_reducible refine (HW.out _).mono ?_); rintro e w2 ⟨rfl, hq⟩; obtain rfl := hq.symm) | (go_at_call 74; (with_reducible refine (HKD.out _ (gw.alloc _)).mono ?_); rintro e w3 ⟨rfl, g3⟩) | fail)
          (go_ret; exact ⟨ret_bool HF.out.symm, (gw.alloc _).trans g3⟩)
      have t3 : (en == 3) = false := beqF e3
      have HF := Lib.hid (HNo.out (by rw [HT.out, if_neg e1, if_neg e2, if_neg e3]))
      clear HNo HYe HT e1 e2 e3
      go_wp2_with (first | (go_at_call 37; (with_reducible refine (HW.out _).mono ?_); rintro e w2 ⟨rfl, hq⟩; obtain rfl := hq.symm) | fail)
      (go_ret; exact ⟨ret_bool HF.out.symm, gw.alloc _⟩)
    · have hk1 : ¬ (k : Int) < (L.length : Int) := by omega
      have HF : Hid (R = true) := HRL.out.symm.trans (HA.out.done hlt)
      go_wp2_with fail
      (go_ret; exact ⟨ret_bool HF.out.symm, gw⟩)
end Go.Proofs.YtgjnlgcdpbilfaaGreatDoor
namespace Go.Proofs.YtgjnlgcdpbilfaaGreatDoor
open Go.ChangeShapes Go.WideShapes Go.ChangeAt Go.RowKit Go.Maps
set_option linter.unusedVariables false
set_option linter.unusedSimpArgs false
def restD (P : Pln) (D : Dgm) : Int := if checkS P.top P.brake D.st ≠ 0 then checkS P.top P.brake D.st else if winB D.beg 0 86399 = false then 1 else if D.runs.all (runB P D.st.length) = false then 1 else if twiceB (D.runs.map (·.nm)) then 4 else 0
theorem chkD_rest (P : Pln) (D : Dgm) : chkD P D = if (decide (8 < D.runs.length) || D.runs.any fun r => decide (12 < r.legs.length)) then 3 else restD P D := rfl
set_option maxRecDepth 100000 in
set_option maxHeartbeats 4000000 in
theorem refCheckD_any (pv v : Value) (P : Pln) (D : Dgm) (w : World) (hP : IsPln w pv P) (hD : IsDgm w v D) (hok : ∀ s ∈ D.st, s.nm.size ≤ maxLen) (hr : ∀ r ∈ D.runs, r.nm.size ≤ maxLen) :
    Calls Tryz.prog 14 #[pv, v] w fun e w' => e = .returned (.int .i64 (chkD P D)) ∧ Gr w w' := by
  have HPI := Lib.hid hP
  obtain ⟨a1, c1, a2, c2, a3, c3, a4, c4, rfl, -, -, h3, -⟩ := hP
  have hm3 := IsRow.len h3
  obtain ⟨s1, k1, s2, k2, rfl, hS, hR⟩ := hD
  have HRN := Lib.hid hR
  have hm : D.runs.length ≤ maxLen := by obtain ⟨_, _, _, h, _⟩ := hR.form; exact h
  have hms : D.st.length ≤ maxLen := by obtain ⟨_, _, _, h, _⟩ := hS.form; exact h
  have hcap : D.runs.length ≤ k2 := hR.2 _ _ _ rfl
  have g0 : Gr w ((w.alloc (.cells #[.slice a1 P.es.length c1, .slice a2 P.js.length c2, .slice a3 P.ss.length c3, .slice a4 P.ls.length c4, .int .i64 P.top, .int .i64 P.brake, .int .i64 P.margin, .int .i64 P.throw, .bool P.hard] 27)).alloc (.cells #[.int .i64 D.beg, .slice s1 D.st.length k1, .slice s2 D.runs.length k2] 31)) := ((Gr.refl _).alloc _).alloc _
  have HB := Lib.hid (fun (w' : World) (g : Gr ((w.alloc (.cells #[.slice a1 P.es.length c1, .slice a2 P.js.length c2, .slice a3 P.ss.length c3, .slice a4 P.ls.length c4, .int .i64 P.top, .int .i64 P.brake, .int .i64 P.margin, .int .i64 P.throw, .bool P.hard] 27)).alloc (.cells #[.int .i64 D.beg, .slice s1 D.st.length k1, .slice s2 D.runs.length k2] 31)) w') => (PBox.new w P (.slice a1 P.es.length c1) (.slice a2 P.js.length c2) (.slice a3 P.ss.length c3) (.slice a4 P.ls.length c4)).gr (((Gr.refl _).alloc _).trans g))
  have HDX : Hid (∀ w', Gr ((w.alloc (.cells #[.slice a1 P.es.length c1, .slice a2 P.js.length c2, .slice a3 P.ss.length c3, .slice a4 P.ls.length c4, .int .i64 P.top, .int .i64 P.brake, .int .i64 P.margin, .int .i64 P.throw, .bool P.hard] 27)).alloc (.cells #[.int .i64 D.beg, .slice s1 D.st.length k1, .slice s2 D.runs.length k2] 31)) w' → w.heap.size + 1 < w'.heap.size ∧ w'.cell? ⟨w.heap.size + 1, 0, none⟩ = some (.int .i64 D.beg) ∧ w'.cell? ⟨w.heap.size + 1, 1, none⟩ = some (.slice s1 D.st.length k1) ∧ w'.cell? ⟨w.heap.size + 1, 2, none⟩ = some (.slice s2 D.runs.length k2)) := fun w' g => by
    have hz : w.heap.size + 1 < (((w.alloc (.cells #[.slice a1 P.es.length c1, .slice a2 P.js.length c2, .slice a3 P.ss.length c3, .slice a4 P.ls.length c4, .int .i64 P.top, .int .i64 P.brake, .int .i64 P.margin, .int .i64 P.throw, .bool P.hard] 27)).alloc (.cells #[.int .i64 D.beg, .slice s1 D.st.length k1, .slice s2 D.runs.length k2] 31))).heap.size := by simp
    exact ⟨Nat.lt_of_lt_of_le hz g.size, (g.cell _ _ hz).trans (by go_simp), (g.cell _ _ hz).trans (by go_simp), (g.cell _ _ hz).trans (by go_simp)⟩
  have HST := Lib.hid (fun (w' : World) (g : Gr w w') => refCheckS_any _ _ P D.st w' (HPI.out.gr g) (hS.gr g) hok)
  have HI := Lib.hid (fun w' => within30_any D.beg 0 86399 w')
  have HNM := Lib.hid (fun (k : Nat) (hk : k < D.runs.length) w' => refName_any D.runs[k].nm (hr _ (List.getElem_mem hk)) w')
  have HE := Lib.hid (chkD_rest P D)
  have HE2 : Hid (restD P D = if checkS P.top P.brake D.st ≠ 0 then checkS P.top P.brake D.st else if winB D.beg 0 86399 = false then 1 else if D.runs.all (runB P D.st.length) = false then 1 else if twiceB (D.runs.map (·.nm)) then 4 else 0) := rfl
  have HSL := Lib.hid (fun (k : Nat) (hk : k ≤ k2) => head_slice 29 51 Tryz.underlying29 (by kernel_rfl) sizeRun s2 D.runs.length k2 k hk)
  unfold maxLen at hm hms hm3
  unfold plnV at HPI HST
  unfold plnV dgmV
  clear hok hr hS hR h3
  generalize chkD P D = R at HE ⊢
  generalize restD P D = R2 at HE HE2
  by_cases n8 : 8 < D.runs.length
  · have n8' : (8 : Int) < (D.runs.length : Int) := by omega
    have HF : Hid (R = 3) := by show _ = _; rw [HE.out, decide_eq_true n8]; rfl
    clear HE
    go_enter Tryz.func14, Tryz.ntmps14
    go_wp2_with fail
    (go_ret; exact ⟨ret_int HF.out.symm, g0⟩)
  have n8' : ¬ (8 : Int) < (D.runs.length : Int) := by omega
  rw [decide_eq_false n8, Bool.false_or] at HE
  generalize checkS P.top P.brake D.st = E at HST HE2
  generalize winB D.beg 0 86399 = b2 at HI HE2
  go_enter Tryz.func14, Tryz.ntmps14
  go_wp2_with fail
  go_loopw [21] (fun y wr => ∃ k : Nat, y = .int .i64 k ∧ k ≤ D.runs.length ∧ Gr ((w.alloc (.cells #[.slice a1 P.es.length c1, .slice a2 P.js.length c2, .slice a3 P.ss.length c3, .slice a4 P.ls.length c4, .int .i64 P.top, .int .i64 P.brake, .int .i64 P.margin, .int .i64 P.throw, .bool P.hard] 27)).alloc (.cells #[.int .i64 D.beg, .slice s1 D.st.length k1, .slice s2 D.runs.length k2] 31)) wr ∧ Hid (∀ i (hi : i < D.runs.length), i < k → ¬ 12 < D.runs[i].legs.length)) (fun y _ => D.runs.length - (intOf y).toNat)
  case atStart => exact ⟨0, rfl, Nat.zero_le _, Gr.refl _, fun i hi h => by omega⟩
  case round =>
    obtain ⟨k, rfl, hk, g, HT⟩ := hrel
    have gw := g0.trans g
    obtain ⟨zd, d0, d1, d2⟩ := HDX.out _ g
    by_cases hlt : k < D.runs.length
    · have hk1 : (k : Int) < (D.runs.length : Int) := by omega
      obtain ⟨bb, o, la, lc, hs, z, y0, y1, y2, y3, y4, hl⟩ := (HRN.out.gr gw).at k hlt
      subst hs
      obtain ⟨_, _, -, hlm, -⟩ := hl.form
      unfold maxLen at hlm
      have HY : Hid (12 < D.runs[k].legs.length → R = 3) := fun h => by
        have : (D.runs.any fun r => decide (12 < r.legs.length)) = true := List.any_eq_true.2 ⟨_, List.getElem_mem hlt, by simpa using h⟩
        rw [HE.out, this]; rfl
      have HT2 : Hid (¬ 12 < D.runs[k].legs.length → ∀ i (hi : i < D.runs.length), i < k + 1 → ¬ 12 < D.runs[i].legs.length) := fun h i hi hik => by
        by_cases e : i = k
        · subst e; exact h
        · exact HT.out i hi (by omega)
      clear HT hl
      generalize D.runs[k].nm = nm at y0
      generalize D.runs[k].st = st at y1
      generalize D.runs[k].fr = fr at y2
      generalize D.runs[k].lf = lf at y3
      generalize D.runs[k].legs.length = ln at y4 HY HT2 hlm
      have zd3 : w.heap.size + 1 < wr.heap.size + 1 := by omega
      by_cases n12 : 12 < ln
      · have n12' : (12 : Int) < (ln : Int) := by omega
        have HF := Lib.hid (HY.out n12)
        clear HY HT2
        go_wp2_with fail
        (go_ret; exact ⟨ret_int HF.out.symm, gw.alloc _⟩)
      · have n12' : ¬ (12 : Int) < (ln : Int) := by omega
        have HT3 := Lib.hid (HT2.out n12)
        clear HY HT2
        go_wp2_with fail
        go_roundw
        case rel => exact ⟨k + 1, by go_num, hlt, g.alloc _, HT3.out⟩
        case measure => simp [intOf]; omega
    · have hk1 : ¬ (k : Int) < (D.runs.length : Int) := by omega
      obtain ⟨zb, p0, p1, p2, p3, p4, p5, p6, p7, p8⟩ := HB.out _ g
      have HR2 : Hid (R = R2) := by
        have : (D.runs.any fun r => decide (12 < r.legs.length)) = false := by
          rw [List.any_eq_false]
          intro x hx
          obtain ⟨i, hi, rfl⟩ := List.getElem_of_mem hx
          have := HT.out i hi (by omega)
          simpa using this
        show _ = _; rw [HE.out, this]; rfl
      clear HE HT
      by_cases hE : E = 0
      rotate_left
      · have tE : (E != 0) = true := bneT hE
        have HF : Hid (R = E) := by show _ = _; rw [HR2.out, HE2.out, if_pos hE]
        clear HE2 hE HR2
        go_wp2_with (first | (go_at_call 24; (with_reducible refine (HST.out _ gw).mono ?_); rintro e w2 ⟨rfl, g2⟩; obtain ⟨yb, r0, r1, r2, r3, r4, r5, r6, r7, r8⟩ := HB.out _ (g.trans g2); obtain ⟨yd, e0, e1, e2⟩ := HDX.out _ (g.trans g2); have G2 := gw.trans g2) | fail)
        (go_ret; exact ⟨ret_int HF.out.symm, G2⟩)
      have tE : (E != 0) = false := bneF hE
      subst hE
      cases b2
      · have HF : Hid (R = 1) := by show _ = _; rw [HR2.out, HE2.out]; rfl
        clear HE2 HR2
        go_wp2_with (first | (go_at_call 24; (with_reducible refine (HST.out _ gw).mono ?_); rintro e w2 ⟨rfl, g2⟩; obtain ⟨yb, r0, r1, r2, r3, r4, r5, r6, r7, r8⟩ := HB.out _ (g.trans g2); obtain ⟨yd, e0, e1, e2⟩ := HDX.out _ (g.trans g2); have G2 := gw.trans g2) | (go_at_call 37; (with_reducible refine (HI.out _).mono ?_); rintro e w3 ⟨rfl, hq⟩; obtain rfl := hq.symm) | fail)
        (go_ret; exact ⟨ret_int HF.out.symm, G2⟩)
      have HR3 : Hid (R = if D.runs.all (runB P D.st.length) = false then 1 else if twiceB (D.runs.map (·.nm)) then 4 else 0) := by show _ = _; rw [HR2.out, HE2.out]; rfl
      clear HE2 HR2
      go_wp2_with (first | (go_at_call 24; (with_reducible refine (HST.out _ gw).mono ?_); rintro e w2 ⟨rfl, g2⟩; obtain ⟨yb, r0, r1, r2, r3, r4, r5, r6, r7, r8⟩ := HB.out _ (g.trans g2); obtain ⟨yd, e0, e1, e2⟩ := HDX.out _ (g.trans g2); have G2 := gw.trans g2) | (go_at_call 37; (with_reducible refine (HI.out _).mono ?_); rintro e w3 ⟨rfl, hq⟩; obtain rfl := hq.symm) | fail)
      have GB := g.trans g2
      clear HI HST
      clear p0 p1 p2 p3 p4 p5 p6 p7 p8 r0 r1 r2 r3 r4 r5 r6 r7 r8 d0 d1 d2 e0 e1 e2
      go_loopw [44] (fun y wr => ∃ k : Nat, y = .int .i64 k ∧ k ≤ D.runs.length ∧ Gr ((w.alloc (.cells #[.slice a1 P.es.length c1, .slice a2 P.js.length c2, .slice a3 P.ss.length c3, .slice a4 P.ls.length c4, .int .i64 P.top, .int .i64 P.brake, .int .i64 P.margin, .int .i64 P.throw, .bool P.hard] 27)).alloc (.cells #[.int .i64 D.beg, .slice s1 D.st.length k1, .slice s2 D.runs.length k2] 31)) wr ∧ Hid (∀ i (hi : i < D.runs.length), i < k → runB P D.st.length D.runs[i] = true)) (fun y _ => D.runs.length - (intOf y).toNat)
      case atStart => exact ⟨0, rfl, Nat.zero_le _, GB, fun i hi h => by omega⟩
      case round =>
        clear hk hk1 hlt g gw zd zb yd yb GB
        obtain ⟨k, rfl, hk, g, HT⟩ := hrel
        have gw := g0.trans g
        obtain ⟨zd, d0, d1, d2⟩ := HDX.out _ g
        by_cases hlt : k < D.runs.length
        · have hk1 : (k : Int) < (D.runs.length : Int) := by omega
          obtain ⟨zb, p0, p1, p2, p3, p4, p5, p6, p7, p8⟩ := HB.out _ g
          obtain ⟨bb, o, la, lc, hs, z, y0, y1, y2, y3, y4, hl⟩ := (HRN.out.gr gw).at k hlt
          subst hs
          have HN := Lib.hid (fun w' => HNM.out k hlt w')
          have HA := Lib.hid (fun w' => within30_any D.runs[k].st 0 ((D.st.length : Int) - 1) w')
          have HF2 := Lib.hid (fun w' => within30_any D.runs[k].fr 0 ((P.ss.length : Int) - 1) w')
          have HLF := Lib.hid (fun w' => within30_any D.runs[k].lf 0 4000 w')
          have HLG := Lib.hid (fun (w' : World) (g' : Gr wr w') => refLegs_any _ _ P D.runs[k].legs w' (HPI.out.gr (gw.trans g')) (hl.gr g'))
          have hQ : runB P D.st.length D.runs[k] = (nmB D.runs[k].nm && winB D.runs[k].st 0 ((D.st.length : Int) - 1) && winB D.runs[k].fr 0 ((P.ss.length : Int) - 1) && winB D.runs[k].lf 0 4000 && legsB P 0 D.runs[k].legs) := rfl
          have HY : Hid (runB P D.st.length D.runs[k] = false → R = 1) := fun h => by rw [HR3.out, allR_bad hlt h]; rfl
          have HT2 : Hid (runB P D.st.length D.runs[k] = true → ∀ i (hi : i < D.runs.length), i < k + 1 → runB P D.st.length D.runs[i] = true) := fun h i hi hik => by
            by_cases e : i = k
            · subst e; exact h
            · exact HT.out i hi (by omega)
          rw [hQ] at HY HT2
          clear HT hQ hl
          generalize nmB D.runs[k].nm = q1 at HN HY HT2
          generalize winB D.runs[k].st 0 ((D.st.length : Int) - 1) = q2 at HA HY HT2
          generalize winB D.runs[k].fr 0 ((P.ss.length : Int) - 1) = q3 at HF2 HY HT2
          generalize winB D.runs[k].lf 0 4000 = q4 at HLF HY HT2
          generalize legsB P 0 D.runs[k].legs = q5 at HLG HY HT2
          generalize D.runs[k].nm = nm at y0 HN
          generalize D.runs[k].st = st at y1 HA
          generalize D.runs[k].fr = fr at y2 HF2
          generalize D.runs[k].lf = lf at y3 HLF
          generalize D.runs[k].legs = lg at y4 HLG
          have zd3 : w.heap.size + 1 < wr.heap.size + 1 := by omega
          have zb3 : w.heap.size < wr.heap.size + 1 := by omega
          have gA : Gr wr (wr.alloc (.cells #[.string nm, .int .i64 st, .int .i64 fr, .int .i64 lf, .slice la lg.length lc] 51)) := (Gr.refl _).alloc _
          cases q1
          · have HF := Lib.hid (HY.out rfl)
            clear HY HT2
            go_wp2_with (first | (go_at_call 38; (with_reducible refine (HN.out _).mono ?_); rintro e w3 ⟨rfl, hq⟩; obtain rfl := hq.symm) | fail)
            (go_ret; exact ⟨ret_int HF.out.symm, gw.trans gA⟩)
          cases q2
          · have HF := Lib.hid (HY.out rfl)
            clear HY HT2
            go_wp2_with (first | (go_at_call 38; (with_reducible refine (HN.out _).mono ?_); rintro e w3 ⟨rfl, hq⟩; obtain rfl := hq.symm) | (go_at_call 37; (with_reducible refine (HA.out _).mono ?_); rintro e w3 ⟨rfl, hq⟩; obtain rfl := hq.symm) | fail)
            (go_ret; exact ⟨ret_int HF.out.symm, gw.trans gA⟩)
          cases q3
          · have HF := Lib.hid (HY.out rfl)
            clear HY HT2
            go_wp2_with (first | (go_at_call 38; (with_reducible refine (HN.out _).mono ?_); rintro e w3 ⟨rfl, hq⟩; obtain rfl := hq.symm) | (go_at_call 37; (with_reducible refine (HA.out _).mono ?_); rintro e w3 ⟨rfl, hq⟩; obtain rfl := hq.symm) | (go_at_call 37; (with_reducible refine (HF2.out _).mono ?_); rintro e w3 ⟨rfl, hq⟩; obtain rfl := hq.symm) | fail)
            (go_ret; exact ⟨ret_int HF.out.symm, gw.trans gA⟩)
          cases q4
          · have HF := Lib.hid (HY.out rfl)
            clear HY HT2
            go_wp2_with (first | (go_at_call 38; (with_reducible refine (HN.out _).mono ?_); rintro e w3 ⟨rfl, hq⟩; obtain rfl := hq.symm) | (go_at_call 37; (with_reducible refine (HA.out _).mono ?_); rintro e w3 ⟨rfl, hq⟩; obtain rfl := hq.symm) | (go_at_call 37; (with_reducible refine (HF2.out _).mono ?_); rintro e w3 ⟨rfl, hq⟩; obtain rfl := hq.symm) | (go_at_call 37; (with_reducible refine (HLF.out _).mono ?_); rintro e w3 ⟨rfl, hq⟩; obtain rfl := hq.symm) | fail)
            (go_ret; exact ⟨ret_int HF.out.symm, gw.trans gA⟩)
          cases q5
          · have HF := Lib.hid (HY.out rfl)
            clear HY HT2
            go_wp2_with (first | (go_at_call 38; (with_reducible refine (HN.out _).mono ?_); rintro e w3 ⟨rfl, hq⟩; obtain rfl := hq.symm) | (go_at_call 37; (with_reducible refine (HA.out _).mono ?_); rintro e w3 ⟨rfl, hq⟩; obtain rfl := hq.symm) | (go_at_call 37; (with_reducible refine (HF2.out _).mono ?_); rintro e w3 ⟨rfl, hq⟩; obtain rfl := hq.symm) | (go_at_call 37; (with_reducible refine (HLF.out _).mono ?_); rintro e w3 ⟨rfl, hq⟩; obtain rfl := hq.symm) | (go_at_call 39; (with_reducible refine (HLG.out _ gA).mono ?_); rintro e w4 ⟨rfl, g4⟩) | fail)
            (go_ret; exact ⟨ret_int HF.out.symm, (gw.trans gA).trans g4⟩)
          · have HT3 := Lib.hid (HT2.out rfl)
            clear HY HT2
            go_wp2_with (first | (go_at_call 38; (with_reducible refine (HN.out _).mono ?_); rintro e w3 ⟨rfl, hq⟩; obtain rfl := hq.symm) | (go_at_call 37; (with_reducible refine (HA.out _).mono ?_); rintro e w3 ⟨rfl, hq⟩; obtain rfl := hq.symm) | (go_at_call 37; (with_reducible refine (HF2.out _).mono ?_); rintro e w3 ⟨rfl, hq⟩; obtain rfl := hq.symm) | (go_at_call 37; (with_reducible refine (HLF.out _).mono ?_); rintro e w3 ⟨rfl, hq⟩; obtain rfl := hq.symm) | (go_at_call 39; (with_reducible refine (HLG.out _ gA).mono ?_); rintro e w4 ⟨rfl, g4⟩) | fail)
            go_roundw
            case rel => exact ⟨k + 1, by go_num, hlt, (g.trans gA).trans g4, HT3.out⟩
            case measure => simp [intOf]; omega
        · have hk1 : ¬ (k : Int) < (D.runs.length : Int) := by omega
          have HR4 : Hid (R = if twiceB (D.runs.map (·.nm)) then 4 else 0) := by
            show _ = _
            rw [HR3.out, allR_good fun i hi => HT.out i hi (by omega)]; rfl
          clear HR3 HT
          go_wp2_with fail
          go_loopw [89] (fun y wr => ∃ k : Nat, y = .int .i64 k ∧ k ≤ D.runs.length ∧ Gr ((w.alloc (.cells #[.slice a1 P.es.length c1, .slice a2 P.js.length c2, .slice a3 P.ss.length c3, .slice a4 P.ls.length c4, .int .i64 P.top, .int .i64 P.brake, .int .i64 P.margin, .int .i64 P.throw, .bool P.hard] 27)).alloc (.cells #[.int .i64 D.beg, .slice s1 D.st.length k1, .slice s2 D.runs.length k2] 31)) wr ∧ Hid (∀ i j (hi : i < D.runs.length) (hj : j < i), i < k → D.runs[j].nm ≠ D.runs[i].nm)) (fun y _ => D.runs.length - (intOf y).toNat)
          case atStart => exact ⟨0, rfl, Nat.zero_le _, g, fun i j hi hj h => by omega⟩
          case round =>
            obtain ⟨k, rfl, hk, g, HT⟩ := hrel
            have gw := g0.trans g
            obtain ⟨zd, d0, d1, d2⟩ := HDX.out _ g
            by_cases hlt : k < D.runs.length
            · have hk1 : (k : Int) < (D.runs.length : Int) := by omega
              obtain ⟨bb, o, la, lc, hs, z, y0, y1, y2, y3, y4, -⟩ := (HRN.out.gr gw).at k hlt
              subst hs
              have HY : Hid (∀ j (hj : j < k), D.runs[j].nm = D.runs[k].nm → R = 4) := fun j hj h => by rw [HR4.out, twiceR_yes hlt hj h]; rfl
              have HT2 : Hid ((∀ j (hj : j < k), D.runs[j].nm ≠ D.runs[k].nm) → ∀ i j (hi : i < D.runs.length) (hj : j < i), i < k + 1 → D.runs[j].nm ≠ D.runs[i].nm) := fun h i j hi hj hik => by
                by_cases e : i = k
                · subst e; exact h j hj
                · exact HT.out i j hi hj (by omega)
              have hsl := HSL.out k (by omega)
              clear HT
              generalize D.runs[k].nm = nm at y0 HY HT2
              generalize D.runs[k].st = st at y1
              generalize D.runs[k].fr = fr at y2
              generalize D.runs[k].lf = lf at y3
              generalize D.runs[k].legs.length = ln at y4
              have zd3 : w.heap.size + 1 < wr.heap.size + 1 := by omega
              have hz : wr.heap.size < (wr.alloc (.cells #[.string nm, .int .i64 st, .int .i64 fr, .int .i64 lf, .slice la ln lc] 51)).heap.size := by simp
              have gA : Gr wr (wr.alloc (.cells #[.string nm, .int .i64 st, .int .i64 fr, .int .i64 lf, .slice la ln lc] 51)) := (Gr.refl _).alloc _
              have N0 : Hid ((wr.alloc (.cells #[.string nm, .int .i64 st, .int .i64 fr, .int .i64 lf, .slice la ln lc] 51)).cell? ⟨wr.heap.size, 0, none⟩ = some (.string nm)) := by show _ = _; rw [World.cell?_alloc_mark]; rfl
              go_wp2_with fail
              clear hsl d0 d1 d2 y0 y1 y2 y3 y4
              go_loopw [99] (fun y wi => ∃ m : Nat, y = .int .i64 m ∧ m ≤ k ∧ Gr (wr.alloc (.cells #[.string nm, .int .i64 st, .int .i64 fr, .int .i64 lf, .slice la ln lc] 51)) wi ∧ Hid (∀ j (hj : j < m) (hjk : j < D.runs.length), D.runs[j].nm ≠ nm)) (fun y _ => k - (intOf y).toNat)
              case atStart => exact ⟨0, rfl, Nat.zero_le _, Gr.refl _, fun j hj => by omega⟩
              case round =>
                obtain ⟨m, rfl, hmk, gi, HM⟩ := hrel
                have n0 := (gi.cell _ _ hz).trans N0.out
                have zi := Nat.lt_of_lt_of_le hz gi.size
                have GI := (gw.trans gA).trans gi
                by_cases hml : m < k
                · have hm1 : (m : Int) < (k : Int) := by omega
                  have hm2 : m < D.runs.length := by omega
                  have hm3' : (m : Int) < (D.runs.length : Int) := by omega
                  obtain ⟨b2, o2, la2, lc2, hs2, z2, x0, x1, x2, x3, x4, -⟩ := (HRN.out.gr GI).at m hm2
                  simp only [Option.some.injEq, Addr.mk.injEq, and_true] at hs2
                  obtain ⟨rfl, rfl⟩ := hs2
                  have HYm := Lib.hid (HY.out m hml)
                  have HMm : Hid (D.runs[m].nm ≠ nm → ∀ j (hj : j < m + 1) (hjk : j < D.runs.length), D.runs[j].nm ≠ nm) := fun h j hj hjk => by
                    by_cases e : j = m
                    · subst e; exact h
                    · exact HM.out j (by omega) hjk
                  clear HM
                  generalize D.runs[m].nm = nm2 at x0 HYm HMm
                  generalize D.runs[m].st = st2 at x1
                  generalize D.runs[m].fr = fr2 at x2
                  generalize D.runs[m].lf = lf2 at x3
                  generalize D.runs[m].legs.length = ln2 at x4
                  by_cases hn : nm2 = nm
                  · have HF := Lib.hid (HYm.out hn)
                    subst hn
                    have tn : (nm2.toList == nm2.toList) = true := by simp
                    go_wp2_with fail
                    (go_ret; exact ⟨ret_int HF.out.symm, GI.alloc _⟩)
                  · have tn := str_ne (fun e => hn e.symm)
                    have HM2 := Lib.hid (HMm.out hn)
                    clear hn
                    go_wp2_with fail
                    go_roundw
                    case rel => exact ⟨m + 1, by go_num, hml, gi.alloc _, HM2.out⟩
                    case measure => simp [intOf]; omega
                · have hm1 : ¬ (m : Int) < (k : Int) := by omega
                  have HT3 := Lib.hid (HT2.out fun j hj => HM.out j (by omega) (by omega))
                  go_wp2_with fail
                  go_roundw
                  case rel => exact ⟨k + 1, by go_num, hlt, (g.trans gA).trans gi, HT3.out⟩
                  case measure => simp [intOf]; omega
            · have hk1 : ¬ (k : Int) < (D.runs.length : Int) := by omega
              have HF : Hid (R = 0) := by
                show _ = _
                rw [HR4.out, twiceR_no fun i j hi hj => HT.out i j hi hj (by omega)]; rfl
              go_wp2_with fail
              (go_ret; exact ⟨ret_int HF.out.symm, gw⟩)
end Go.Proofs.YtgjnlgcdpbilfaaGreatDoor
namespace Go.Proofs.YtgjnlgcdpbilfaaGreatDoor
open Go.ChangeShapes Go.WideShapes Go.ChangeAt Go.RowKit Go.Maps
set_option linter.unusedVariables false
set_option linter.unusedSimpArgs false
theorem chkD_mk {P : Pln} {D : Dgm} (h1 : D.runs.length ≤ 8) (h2 : ∀ r ∈ D.runs, r.legs.length ≤ 12) (h3 : checkS P.top P.brake D.st = 0) (h4 : 0 ≤ D.beg ∧ D.beg ≤ 86399) (h5 : ∀ r ∈ D.runs, runB P D.st.length r = true) (h6 : twiceB (D.runs.map (·.nm)) = false) : chkD P D = 0 := by
  unfold chkD longD
  have e1 : (decide (8 < D.runs.length) || D.runs.any fun r => decide (12 < r.legs.length)) = false := by
    rw [Bool.or_eq_false_iff]
    refine ⟨by simpa using h1, ?_⟩
    rw [List.any_eq_false]
    intro r hr
    have := h2 r hr
    simp; omega
  have e4 : winB D.beg 0 86399 = true := (winB_iff _ _ _).2 h4
  have e5 : D.runs.all (runB P D.st.length) = true := List.all_eq_true.2 h5
  rw [e1, if_neg (by simp), if_neg (by rw [h3]; simp), e4, if_neg (by simp), e5, if_neg (by simp), h6]
  rfl
theorem legsB_take (P : Pln) : ∀ (L : List Leg) (a : Int) (m : Nat), legsB P a L = true → legsB P a (L.take m) = true
  | [], a, m, h => by rw [List.take_nil]; rfl
  | l :: t, a, 0, h => rfl
  | l :: t, a, m + 1, h => by
    rw [legsB_cons, Bool.and_eq_true] at h
    rw [List.take_succ_cons, legsB_cons, h.1, legsB_take P t _ m h.2]; rfl
def cutR (D : Dgm) (k : Nat) : Dgm := { D with runs := D.runs.take k }
def cutL (D : Dgm) (k m : Nat) : Dgm := { D with runs := D.runs.set k { D.runs.getD k default with legs := (D.runs.getD k default).legs.take m } }
theorem nodup_take {α : Type} {l : List α} (h : l.Nodup) (k : Nat) : (l.take k).Nodup := h.sublist (List.take_sublist k l)
theorem cutR_chk {P : Pln} {D : Dgm} (h : chkD P D = 0) (k : Nat) : chkD P (cutR D k) = 0 := by
  obtain ⟨h1, h2, h3, h4, h5, h6⟩ := chkD_ok h
  refine chkD_mk ?_ (fun r hr => h2 r (List.mem_of_mem_take hr)) h3 h4 (fun r hr => h5 r (List.mem_of_mem_take hr)) ?_
  · show (D.runs.take k).length ≤ 8
    rw [List.length_take]; omega
  · have hn := twiceB_nodup h6
    unfold twiceB
    simp only [Bool.not_eq_false', decide_eq_true_eq]
    show ((D.runs.take k).map _).Nodup
    rw [List.map_take]
    exact nodup_take hn k
theorem cutL_chk {P : Pln} {D : Dgm} (h : chkD P D = 0) {k : Nat} (hk : k < D.runs.length) (m : Nat) : chkD P (cutL D k m) = 0 := by
  obtain ⟨h1, h2, h3, h4, h5, h6⟩ := chkD_ok h
  have hg : D.runs.getD k default = D.runs[k] := getD_at _ _ hk
  have hm : D.runs[k] ∈ D.runs := List.getElem_mem hk
  refine chkD_mk ?_ (fun r hr => ?_) h3 h4 (fun r hr => ?_) ?_
  · show (D.runs.set k _).length ≤ 8
    rw [List.length_set]; exact h1
  · rcases List.mem_or_eq_of_mem_set hr with hr | rfl
    · exact h2 r hr
    · rw [hg]
      have := h2 _ hm
      show (D.runs[k].legs.take m).length ≤ 12
      rw [List.length_take]; omega
  · rcases List.mem_or_eq_of_mem_set hr with hr | rfl
    · exact h5 r hr
    · rw [hg]
      have := h5 _ hm
      unfold runB at this ⊢
      dsimp only [cutL] at this ⊢
      rw [Bool.and_eq_true] at this
      rw [this.1, legsB_take P _ _ m this.2]; rfl
  · have e : (cutL D k m).runs.map (·.nm) = D.runs.map (·.nm) := by
      unfold cutL
      dsimp only
      rw [List.map_set, hg]
      dsimp only
      refine List.ext_getElem (by simp) fun i hi hj => ?_
      rw [List.getElem_set]
      split
      · rename_i e; subst e; rw [List.getElem_map]
      · rfl
    rw [e]; exact h6
theorem cutR_last (D : Dgm) (k : Nat) : lastD (cutR D k) ≤ lastD D := by
  unfold lastD cutR
  dsimp only
  have e : D.runs = D.runs.take k ++ D.runs.drop k := (List.take_append_drop k _).symm
  have := lastR_append (D.runs.take k) (D.runs.drop k) 0
  rw [← e] at this
  rw [this]
  exact lastR_ge _ _
theorem cutL_last (D : Dgm) {k : Nat} (hk : k < D.runs.length) (m : Nat) : lastD (cutL D k m) ≤ lastD D := by
  unfold lastD cutL
  dsimp only
  rw [getD_at _ _ hk]
  have e1 : D.runs = D.runs.take k ++ D.runs[k] :: D.runs.drop (k + 1) := by rw [← List.drop_eq_getElem_cons hk, List.take_append_drop]
  have e2 : D.runs.set k { D.runs[k] with legs := D.runs[k].legs.take m } = D.runs.take k ++ { D.runs[k] with legs := D.runs[k].legs.take m } :: D.runs.drop (k + 1) := by
    rw [List.set_eq_take_append_cons_drop, if_pos hk]
  have e3 := lastR_append (D.runs.take k) (D.runs[k] :: D.runs.drop (k + 1)) 0
  rw [← e1] at e3
  rw [e2, lastR_append, e3]
  show lastR (lastL (lastR 0 (D.runs.take k)) (D.runs[k].legs.take m)) (D.runs.drop (k + 1)) ≤ lastR (lastL (lastR 0 (D.runs.take k)) D.runs[k].legs) (D.runs.drop (k + 1))
  refine lastR_mono _ _ _ ?_
  have e4 := lastL_append (D.runs[k].legs.take m) (D.runs[k].legs.drop m) (lastR 0 (D.runs.take k))
  rw [List.take_append_drop] at e4
  rw [e4]
  exact lastL_ge _ _
def Leg.add (l : Leg) (b : Int) : Leg := { l with at_ := l.at_ + b }
def Rn.add (r : Rn) (b : Int) : Rn := { r with legs := r.legs.map (·.add b) }
def noR (D : Dgm) : Dgm := { D with runs := [] }
theorem noR_chk (P : Pln) (D : Dgm) : chkD P (noR D) = if checkS P.top P.brake D.st ≠ 0 then checkS P.top P.brake D.st else if winB D.beg 0 86399 = false then 1 else 0 := by
  unfold chkD longD noR
  have e : twiceB ([] : List ByteArray) = false := by unfold twiceB; simp
  simp only [List.length_nil, List.any_nil, List.all_nil, List.map_nil, e]
  by_cases h1 : checkS P.top P.brake D.st = 0
  · cases h2 : winB D.beg 0 86399 <;> simp [h1, h2]
  · simp [h1]
end Go.Proofs.YtgjnlgcdpbilfaaGreatDoor
namespace Go.Proofs.YtgjnlgcdpbilfaaGreatDoor
open Go.ChangeShapes Go.WideShapes Go.ChangeAt Go.RowKit Go.Maps
set_option linter.unusedVariables false
set_option linter.unusedSimpArgs false
theorem runCs_at (A : List (Rn × Value)) (i j : Nat) (hi : i < A.length) (hj : j < 5) : (runCs A)[i * 5 + j]? = some (A[i].1.c A[i].2 j) := by
  unfold runCs
  rw [flat_get (fun x : Rn × Value => x.1.cs x.2) 5 (fun _ => rfl) A i j hi hj]
  match j, hj with
  | 0, _ => rfl
  | 1, _ => rfl
  | 2, _ => rfl
  | 3, _ => rfl
  | 4, _ => rfl
theorem runCs_ext {A : List (Rn × Value)} {X : List Value} (hl : X.length = A.length * 5) (h : ∀ i j (hi : i < A.length), j < 5 → X[i * 5 + j]? = some (A[i].1.c A[i].2 j)) : X = runCs A := by
  refine List.ext_getElem? fun q => ?_
  by_cases hq : q < A.length * 5
  · have hi : q / 5 < A.length := by omega
    have hj : q % 5 < 5 := by omega
    have e : q = q / 5 * 5 + q % 5 := by omega
    rw [e, h _ _ hi hj, runCs_at A _ _ hi hj]
  · rw [List.getElem?_eq_none (by omega), List.getElem?_eq_none (by rw [runCs_len]; omega)]
def prs (R : List Rn) (S : Nat → Value) : List (Rn × Value) := (List.range R.length).map fun i => (R.getD i default, S i)
theorem prs_len (R : List Rn) (S : Nat → Value) : (prs R S).length = R.length := by unfold prs; simp
theorem prs_at (R : List Rn) (S : Nat → Value) (i : Nat) (hi : i < (prs R S).length) : (prs R S)[i] = (R.getD i default, S i) := by unfold prs; simp
theorem rowL_prs (R : List Rn) (S : Nat → Value) : rowL 5 R.length (fun i j => (R.getD i default).c (S i) j) = runCs (prs R S) := by
  refine runCs_ext (by rw [rowL_len, prs_len]) fun i j hi hj => ?_
  rw [rowL_get (by rw [prs_len] at hi; exact hi) hj, prs_at]
theorem rnc_one (R : List Rn) (S : Nat → Value) (hS : ∀ i, (S i).oneCell' = true) (i j : Nat) : ((R.getD i default).c (S i) j).oneCell' = true := by
  unfold Rn.c
  split
  · rfl
  split
  · rfl
  split
  · rfl
  split
  · rfl
  · exact hS i
def setLegs (A : List (Rn × Value)) (k : Nat) (l : List Leg) (v : Value) : List (Rn × Value) := A.set k ({ (A.getD k (default, .bool false)).1 with legs := l }, v)
theorem setLegs_len (A : List (Rn × Value)) (k : Nat) (l : List Leg) (v : Value) : (setLegs A k l v).length = A.length := by unfold setLegs; simp
theorem setLegs_at (A : List (Rn × Value)) (k : Nat) (l : List Leg) (v : Value) (i : Nat) (hi : i < (setLegs A k l v).length) : (setLegs A k l v)[i] = if i = k then ({ (A[i]'(by rw [setLegs_len] at hi; exact hi)).1 with legs := l }, v) else A[i]'(by rw [setLegs_len] at hi; exact hi) := by
  have hi' : i < A.length := by rw [setLegs_len] at hi; exact hi
  simp only [setLegs]
  rw [List.getElem_set]
  by_cases h : k = i
  · subst h
    rw [if_pos rfl, if_pos rfl, List.getD_eq_getElem?_getD, List.getElem?_eq_getElem hi']
    rfl
  · rw [if_neg h, if_neg (Ne.symm h)]
theorem runCs_legs (A : List (Rn × Value)) (k : Nat) (hk : k < A.length) (l : List Leg) (v : Value) : (runCs A).set (k * 5 + 4) v = runCs (setLegs A k l v) := by
  refine runCs_ext (by rw [List.length_set, runCs_len, setLegs_len]) fun i j hi hj => ?_
  have hi' : i < A.length := by rw [setLegs_len] at hi; exact hi
  rw [setLegs_at]
  rw [List.getElem?_set]
  by_cases h : i = k
  · subst h
    rw [if_pos rfl]
    by_cases h4 : j = 4
    · subst h4
      rw [if_pos rfl, if_pos (by rw [runCs_len]; omega)]
      rfl
    · rw [if_neg (by omega), runCs_at A i j hi' hj]
      have : j = 0 ∨ j = 1 ∨ j = 2 ∨ j = 3 := by omega
      rcases this with rfl | rfl | rfl | rfl <;> rfl
  · rw [if_neg h, if_neg (by omega), runCs_at A i j hi' hj]
theorem OwnRn.runs {B : Nat} {w : World} {v : Value} {A : List (Rn × Value)} (h : OwnRn B w v A) (hl : A.length ≤ maxLen) (hx : ∀ i (hi : i < A.length), IsLegs w A[i].2 A[i].1.legs) : IsRuns w v (A.map Prod.fst) := by
  refine ⟨⟨fun i => (A.map Prod.snd).getD i (.slice none 0 0), ?_, fun i hi => ?_⟩, own_capok h⟩
  · rw [List.length_map]
    refine row_of_own h hl fun i j hi hj => ?_
    rw [runCs_at A i j hi hj, runs_getD A i hi]
    dsimp only
    rw [getD_in _ _ i (by simpa using hi), List.getElem_map]
  · have hi' : i < A.length := by simpa using hi
    rw [runs_getD A i hi']
    dsimp only
    rw [getD_in _ _ i (by simpa using hi'), List.getElem_map]
    exact hx i hi'
theorem OwnRn.cell {B g c : Nat} {w : World} {A : List (Rn × Value)} (h : OwnRn B w (.slice (some ⟨g, 0, none⟩) A.length c) A) (i j : Nat) (hi : i < A.length) (hj : j < 5) : w.cell? ⟨g, i * 5 + j, none⟩ = some (A[i].1.c A[i].2 j) := by
  rw [World.ownsRow.cellAt h _ (by omega), runCs_at A i j hi hj]
theorem OwnRn.put {B g c : Nat} {w : World} {A : List (Rn × Value)} (h : OwnRn B w (.slice (some ⟨g, 0, none⟩) A.length c) A) (k : Nat) (hk : k < A.length) (l : List Leg) (v : Value) : OwnRn B (w.setCell ⟨g, k * 5 + 4, none⟩ v) (.slice (some ⟨g, 0, none⟩) A.length c) (setLegs A k l v) := by
  have := (World.ownsRow.stored h (k * 5 + 4) v).1
  rw [runCs_legs A k hk l v] at this
  unfold OwnRn
  rw [setLegs_len]
  exact this
theorem IsRow.set {w : World} {a : Option Addr} {n m c sz : Nat} {C : Nat → Nat → Value} (h : IsRow w (.slice a m c) sz n C) (p : Addr) (hp : 0 < n → ∀ q, a = some q → q.block ≠ p.block) (u : Value) : IsRow (w.setCell p u) (.slice a m c) sz n C := by
  obtain ⟨a', c', e, hm, hx⟩ := h
  cases e
  refine ⟨a, c, rfl, hm, ?_⟩
  rcases hx with hx | ⟨b, o, rfl, hb, hc⟩
  · exact .inl hx
  · by_cases h0 : n = 0
    · exact .inl h0
    · refine .inr ⟨b, o, rfl, by simpa using hb, fun i j hi hj => ?_⟩
      have hne := hp (by omega) _ rfl
      rw [World.cell?_setCell_other _ _ _ _ (by rintro rfl; exact hne rfl)]
      exact hc i j hi hj
def LegAt (g M : Nat) (w : World) (v : Value) (L : List Leg) : Prop := IsLegs w v L ∧ ∀ a n c, v = .slice (some a) n c → 0 < n → a.block ≠ g ∧ a.block < M
theorem LegAt.set {g M : Nat} {w : World} {v : Value} {L : List Leg} (h : LegAt g M w v L) (p : Addr) (hp : p.block = g ∨ M ≤ p.block) (u : Value) : LegAt g M (w.setCell p u) v L := by
  obtain ⟨⟨h1, h2⟩, h3⟩ := h
  refine ⟨⟨?_, h2⟩, h3⟩
  have h1' := h1
  obtain ⟨a, c, e, hm, hx⟩ := h1'
  subst e
  refine IsRow.set h1 p (fun hn q hq => ?_) u
  subst hq
  obtain ⟨h4, h5⟩ := h3 q _ _ rfl hn
  intro e
  rcases hp with hp | hp
  · exact h4 (e.trans hp)
  · rw [← e] at hp; exact absurd h5 (Nat.not_lt.2 hp)
theorem LegAt.gr {g M : Nat} {w w' : World} {v : Value} {L : List Leg} (h : LegAt g M w v L) (k : Gr w w') : LegAt g M w' v L := ⟨h.1.gr k, h.2⟩
theorem LegAt.le {g M M' : Nat} {w : World} {v : Value} {L : List Leg} (h : LegAt g M w v L) (hM : M ≤ M') : LegAt g M' w v L := ⟨h.1, fun a n c e hn => ⟨(h.2 a n c e hn).1, by have := (h.2 a n c e hn).2; omega⟩⟩
theorem IsLegs.take {w : World} {a : Option Addr} {n c : Nat} {l : List Leg} (h : IsLegs w (.slice a n c) l) (k : Nat) (hk : k ≤ l.length) : IsLegs w (.slice a k c) (l.take k) := by
  obtain ⟨⟨a', c', e, hm, hx⟩, h3⟩ := h
  cases e
  have hl : (l.take k).length = k := by rw [List.length_take]; omega
  have hg : ∀ i, i < k → (l.take k).getD i default = l.getD i default := fun i hi => by
    rw [List.getD_eq_getElem?_getD, List.getD_eq_getElem?_getD, List.getElem?_take, if_pos hi]
  refine ⟨⟨a, c, by rw [hl], by rw [hl]; omega, ?_⟩, fun a' n' c' e => by cases e; have := h3 _ _ _ rfl; omega⟩
  rcases hx with hx | ⟨b, o, rfl, hb, hc⟩
  · exact .inl (by rw [hl]; omega)
  · refine .inr ⟨b, o, rfl, hb, fun i j hi hj => ?_⟩
    rw [hl] at hi
    show _ = some (((l.take k).getD i default).c j)
    rw [hg i hi]; exact hc i j (by omega) hj
theorem IsRuns.rows {w : World} {v : Value} {l : List Rn} (h : IsRuns w v l) : ∃ S : Nat → Value, IsRow w v 5 l.length (fun i j => (l.getD i default).c (S i) j) ∧ (∀ i, i < l.length → IsLegs w (S i) (l.getD i default).legs) ∧ ∀ i, (S i).oneCell' = true := by
  obtain ⟨⟨S, ⟨a, c, rfl, hm, hx⟩, h2⟩, -⟩ := h
  refine ⟨fun i => if i < l.length then S i else .slice none 0 0, ⟨a, c, rfl, hm, ?_⟩, fun i hi => ?_, fun i => ?_⟩
  · rcases hx with hx | ⟨b, o, rfl, hb, hc⟩
    · exact .inl hx
    · refine .inr ⟨b, o, rfl, hb, fun i j hi hj => ?_⟩
      rw [hc i j hi hj]
      dsimp only
      rw [if_pos hi]
  · dsimp only
    rw [if_pos hi]
    exact h2 i hi
  · dsimp only
    by_cases hi : i < l.length
    · rw [if_pos hi]
      obtain ⟨a', c', e, -⟩ := (h2 i hi).form
      rw [e]; rfl
    · rw [if_neg hi]; rfl
theorem cutL_runs (D : Dgm) (S : Nat → Value) (k m : Nat) (hk : k < D.runs.length) (v : Value) : (setLegs (prs D.runs S) k ((D.runs.getD k default).legs.take m) v).map Prod.fst = (cutL D k m).runs := by
  unfold cutL
  dsimp only
  refine List.ext_getElem (by rw [List.length_map, setLegs_len, prs_len, List.length_set]) fun i h1 h2 => ?_
  have hi : i < D.runs.length := by simpa using h2
  rw [List.getElem_map, setLegs_at, List.getElem_set]
  by_cases h : i = k
  · subst h
    rw [if_pos rfl, if_pos rfl, prs_at]
  · rw [if_neg h, if_neg (Ne.symm h), prs_at]
    exact getD_at _ _ hi
end Go.Proofs.YtgjnlgcdpbilfaaGreatDoor
namespace Go.Proofs.YtgjnlgcdpbilfaaGreatDoor
open Go.ChangeShapes Go.WideShapes Go.ChangeAt Go.RowKit
set_option linter.unusedVariables false
set_option linter.unusedSimpArgs false

theorem refParse_any (s : ByteArray) (w : World) (hs : s.size ≤ maxLen) :
    Calls Tryz.prog 55 #[.string s] w fun e w' => e = .returned (.tuple #[.int .i64 (clkN s), .bool (clkB s)]) ∧ Gr w w' := by
  by_cases h8 : s.size = 8
  · have h8' : ((s.size : Int) != 8) = false := by simp [h8]
    have l8 : 8 ≤ s.size := by omega
    clear h8
    have G0 := Lib.hid (bt_get s 0 (by omega))
    have G1 := Lib.hid (bt_get s 1 (by omega))
    have G3 := Lib.hid (bt_get s 3 (by omega))
    have G4 := Lib.hid (bt_get s 4 (by omega))
    have G6 := Lib.hid (bt_get s 6 (by omega))
    have G7 := Lib.hid (bt_get s 7 (by omega))
    go_enter Tryz.func55, Tryz.ntmps55
    go_wp2
    refine wp_loop_rounds 9 ?_
    rw [rounds_succ]
    go_wp2
    rw [rounds_succ]
    go_wp2
    rw [rounds_succ]
    go_wp2
    rw [rounds_succ]
    go_wp2
    rw [rounds_succ]
    go_wp2
    rw [rounds_succ]
    go_wp2
    rw [rounds_succ]
    go_wp2
    rw [rounds_succ]
    go_wp2
    rw [rounds_succ]
    go_wp2_with (first | (go_at_call 48; refine (refPrint_any _ _).mono ?_; rintro e w' ⟨rfl, hb⟩))
    · go_ret2
      have hB := refR_no' s _ _ _ _ _ _ G0.out G1.out G3.out G4.out G6.out G7.out (by assumption)
      have hN : clkN s = 0 := by unfold clkN; rw [hB]; rfl
      exact ⟨ret_ib hN.symm hB.symm, by assumption⟩
    · go_ret2
      have hB := refR_yes' s _ _ _ _ _ _ G0.out G1.out G3.out G4.out G6.out G7.out (by assumption)
      exact ⟨ret_ib hB.2.symm hB.1.symm, by assumption⟩
  · have hB : clkB s = false := by unfold clkB; simp [h8]
    have hN : clkN s = 0 := by unfold clkN; rw [hB]; rfl
    have HB := Lib.hid hB
    have HN := Lib.hid hN
    have h8' : ((s.size : Int) != 8) = true := by rw [bne_iff_ne]; omega
    clear hB hN h8
    go_enter Tryz.func55, Tryz.ntmps55
    go_wp2
    go_ret2
    exact ⟨ret_ib HN.out.symm HB.out.symm, Gr.refl _⟩
end Go.Proofs.YtgjnlgcdpbilfaaGreatDoor
