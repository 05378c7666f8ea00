/- draft.Print. -/
import Derived.Test.YtknmngejjoohdaaGreatDoorRows
import Derived.Test.YtknmngejjoohdaaGreatDoorB20
import Derived.Test.YtknmngejjoohdaaGreatDoorRDrA
import Derived.Test.YtknmngejjoohdaaGreatDoorB15
import Derived.Deep.RegionHeld3
namespace Go.Proofs.YtknmngejjoohdaaGreatDoor
open Go.ChangeShapes Go.WideShapes Go.ChangeAt Go.RowKit Go.Maps
set_option linter.unusedVariables false
set_option linter.unusedSimpArgs false
theorem three_at (w : World) (b : Nat) (x y z : Value) (T : TypeId) (h : w.heap[b]? = some (.cells #[x, y, z] T)) : w.cell? ⟨b, 0, none⟩ = some x ∧ w.cell? ⟨b, 1, none⟩ = some y ∧ w.cell? ⟨b, 2, none⟩ = some z := by
  refine ⟨?_, ?_, ?_⟩ <;> (rw [cell_of_row w b _ _ _ _ h]; rfl)
theorem four_at4 (w : World) (b : Nat) (x y z u : Value) (T : TypeId) (h : w.heap[b]? = some (.cells #[x, y, z, u] T)) : w.cell? ⟨b, 0, none⟩ = some x ∧ w.cell? ⟨b, 1, none⟩ = some y ∧ w.cell? ⟨b, 2, none⟩ = some z ∧ w.cell? ⟨b, 3, none⟩ = some u := by
  refine ⟨?_, ?_, ?_, ?_⟩ <;> (rw [cell_of_row w b _ _ _ _ h]; rfl)
theorem own_lit {w : World} {B : Nat} (hB : B ≤ w.heap.size) (W : List ByteArray) (hl : W.length ≤ 1000) (hne : W ≠ []) : OwnS B (w.alloc (.cells (W.map Value.string).toArray 9)) (.slice (some ⟨w.heap.size, 0, none⟩) W.length W.length) W :=
  World.ownsRow_lit w (W.map Value.string).toArray W.length hB (by unfold maxLen; omega) (by simp)
theorem two_at (w : World) (b : Nat) (x y : Value) (T : TypeId) (h : w.heap[b]? = some (.cells #[x, y] T)) : w.cell? ⟨b, 0, none⟩ = some x ∧ w.cell? ⟨b, 1, none⟩ = some y := by
  refine ⟨?_, ?_⟩ <;> (rw [cell_of_row w b _ _ _ _ h]; rfl)
theorem blk_gr {w w' : World} (g : Gr w w') {b : Nat} {o : Obj} (h : w.heap[b]? = some o) : w'.heap[b]? = some o := by
  have hb : b < w.heap.size := by
    rcases Nat.lt_or_ge b w.heap.size with hl | hl
    · exact hl
    · rw [Array.getElem?_eq_none hl] at h; cases h
  exact (g.block b hb).trans h
theorem plan5 {P : Pln} (h : chk P = 0) : (jnW (wordsH P)).size ≤ 500 ∧ (∀ e ∈ P.es, (jnW (wordsE e)).size ≤ 500) ∧ (∀ j ∈ P.js, (jnW (wordsJ P j)).size ≤ 500) ∧ (∀ s ∈ P.ss, (jnW (wordsG P s)).size ≤ 500) ∧ ∀ l ∈ P.ls, (jnW (wordsN P l)).size ≤ 500 := by
  have hr := rows_line h
  unfold rowsT at hr
  simp only [List.mem_cons, List.mem_append, List.mem_map] at hr
  exact ⟨(hr _ (.inl rfl)).2, fun e he => (hr _ (.inr (.inl (.inl (.inl ⟨e, he, rfl⟩))))).2, fun e he => (hr _ (.inr (.inl (.inl (.inr ⟨e, he, rfl⟩))))).2, fun e he => (hr _ (.inr (.inl (.inr ⟨e, he, rfl⟩)))).2, fun e he => (hr _ (.inr (.inr ⟨e, he, rfl⟩))).2⟩
set_option maxRecDepth 100000 in
set_option maxHeartbeats 8000000 in
theorem drPrint_any (pv : Value) (P : Pln) (w : World) (ht : Tabs w) (hP : IsPln w pv P) (hk : PlnOk P) (hfl : (P.ls.flatMap (·.es)).length ≤ 1000000) :
    Calls Tryz.prog 34 #[pv] w fun e w' => e = .returned (.tuple #[.string (if chk P = 0 then printT P else ⟨#[]⟩), .int .i64 (chk P)]) ∧ Gr w w' := by
  have HCK := Lib.hid (fun (w' : World) (g : Gr w w') => check_any _ P w' (hP.gr g) hk hfl)
  have HPI := Lib.hid hP
  obtain ⟨a1, c1, a2, c2, a3, c3, a4, c4, rfl, h1, h2, h3, h4⟩ := hP
  have m1 := IsRow.len h1
  have m2 := IsRow.len h2
  have m3 := IsRow.len h3
  have H1 := Lib.hid h1
  have H2 := Lib.hid h2
  have H3 := Lib.hid h3
  have H4 := Lib.hid h4
  have g0 : Gr w (w.alloc (.cells #[.slice a1 P.es.length c1, .slice a2 P.js.length c2, .slice a3 P.ss.length c3, .slice a4 P.ls.length c4, .int .i64 P.top, .int .i64 P.brake, .int .i64 P.margin, .int .i64 P.throw, .bool P.hard] 28)) := (Gr.refl _).alloc _
  have HB := Lib.hid (fun (w' : World) (g : Gr (w.alloc (.cells #[.slice a1 P.es.length c1, .slice a2 P.js.length c2, .slice a3 P.ss.length c3, .slice a4 P.ls.length c4, .int .i64 P.top, .int .i64 P.brake, .int .i64 P.margin, .int .i64 P.throw, .bool P.hard] 28)) w') => (PBox.new w P (.slice a1 P.es.length c1) (.slice a2 P.js.length c2) (.slice a3 P.ss.length c3) (.slice a4 P.ls.length c4)).gr g)
  unfold plnV at *
  obtain ⟨zb, p0, p1, p2, p3, p4, p5, p6, p7, p8⟩ := HB.out _ (Gr.refl _)
  by_cases hE : chk P = 0
  rotate_left
  · rw [if_neg hE]
    generalize chk P = E at *
    have tE : (E != 0) = true := bneT hE
    clear hE
    go_enter Tryz.func34, Tryz.ntmps34
    go_wp2_with (first | (go_at_call 39; (with_reducible refine (HCK.out _ g0).mono ?_); rintro e w1 ⟨rfl, g1⟩) | fail)
    go_ret2
    exact ⟨rfl, g0.trans g1⟩
  rw [if_pos hE]
  have HKP := Lib.hid hE
  have hsz := print_size hE
  obtain ⟨s0, s1, s2, s3, s4⟩ := plan5 hE
  obtain ⟨⟨b1, b2, b3, b4⟩, -⟩ := fine_all hE
  obtain ⟨n1, n2, n3, n4⟩ := nums_in hE
  have HD1 := Lib.hid (fun (w' : World) (g : Gr w w') => digits_of ht (n := P.top) (by omega) (by omega) w' g)
  have HD2 := Lib.hid (fun (w' : World) (g : Gr w w') => digits_of ht (n := P.brake) (by omega) (by omega) w' g)
  have HD3 := Lib.hid (fun (w' : World) (g : Gr w w') => digits_of ht (n := P.margin) (by omega) (by omega) w' g)
  have HD4 := Lib.hid (fun (w' : World) (g : Gr w w') => digits_of ht (n := P.throw) (by omega) (by omega) w' g)
  have HT := Lib.hid ht
  have HTD : Hid (∀ (x : Prt) w', Gr w w' → Calls Tryz.prog 36 #[.agg #[.slice a1 P.es.length c1, .slice a2 P.js.length c2, .slice a3 P.ss.length c3, .slice a4 P.ls.length c4, .int .i64 P.top, .int .i64 P.brake, .int .i64 P.margin, .int .i64 P.throw, .bool P.hard], .agg #[.int .i64 x.e, .int .i64 x.x]] w' fun e w'' => e = .returned (.string (toldT P x)) ∧ Gr w' w'') := fun x w' g => dtold_any _ P x w' (ht.gr g) (HPI.out.gr g) (fun e he => by have := nm_size (fine_ele hE e he).1; omega)
  have S1 := Lib.hid s1
  have S2 := Lib.hid s2
  have S3 := Lib.hid s3
  have S4 := Lib.hid s4
  rw [hE] at HCK ⊢
  clear h1 h2 h3 h4 ht hk hfl s1 s2 s3 s4 hE
  go_enter Tryz.func34, Tryz.ntmps34
  go_upto_region 4 with (first | (go_at_call 39; (with_reducible refine (HCK.out _ g0).mono ?_); rintro e w1 ⟨rfl, g1⟩) | fail)
  have GW1 := Lib.hid (g0.trans g1)
  have HPX := Lib.hid (fun (w' : World) (g : Gr w1 w') => HB.out w' (g1.trans g))
  have G12 : Gr w1 (w1.alloc (.cells #[.slice none 0 0] 57)) := (Gr.refl _).alloc _
  have HS0 := Lib.hid (SayS.new (w := w1))
  have hbw : w1.heap.size ≤ w1.heap.size := Nat.le_refl _
  clear zb p0 p1 p2 p3 p4 p5 p6 p7 p8 HCK
  obtain ⟨zb, p0, p1, p2, p3, p4, p5, p6, p7, p8⟩ := HPX.out _ (G12)
  have hhd : ∃ hd, (if P.hard = true then bHard else bSoft) = hd := ⟨_, rfl⟩
  obtain ⟨hd, hhd⟩ := hhd
  have HHD := Lib.hid hhd
  go_upto_if 28 with fail
  generalize (w1.alloc (.cells #[.slice none 0 0] 57)) = w2 at *
  go_cut [7] from 27 to 28 (fun x wc => x = .string hd ∧ wc = w2)
  case first =>
    clear HHD
    go_wp2_with fail
    all_goals go_meet
    all_goals
      refine ⟨?_, rfl⟩
      rw [← hhd]
      first | (rw [if_pos (by assumption)]; rfl) | (rw [if_neg (by assumption)]; rfl) | (rw [if_neg (by simp [*])]; rfl)
  case rest =>
    obtain ⟨rfl, hwc⟩ := hcut
    obtain rfl := hwc.symm
    have h0 : Hid (∀ w', Gr w1 w' → SayS w1.heap.size (w1.heap.size + 1) w' [] → Calls Tryz.prog 69 #[.slice (some ⟨w'.heap.size, 0, none⟩) 6 6, .pointer (some ⟨w1.heap.size, 0, none⟩)] (w'.alloc (.cells #[.string ⟨#[112, 108, 97, 110]⟩, .string (dgs P.top), .string (dgs P.brake), .string (dgs P.margin), .string (dgs P.throw), .string hd] 9)) fun e w'' => e = .returned (.tuple #[]) ∧ Gr w1 w'' ∧ SayS w1.heap.size (w1.heap.size + 1) w'' (rowsN P 1) ∧ Kept w1.heap.size (w'.alloc (.cells #[.string ⟨#[112, 108, 97, 110]⟩, .string (dgs P.top), .string (dgs P.brake), .string (dgs P.margin), .string (dgs P.throw), .string hd] 9)) w'') := fun w' g h => by
      have hw : wordsH P = [bPlan, dgs P.top, dgs P.brake, dgs P.margin, dgs P.throw, hd] := by unfold wordsH; rw [hhd]
      have := say_lit (w0 := w1) (wordsH P) hbw g h (by simp [wordsH]) (by omega) (by simp [wordsH]) (by simp)
      rw [rowsN_succ (rowsT_0 P)]
      show Calls _ _ _ _ _
      rw [hw] at this ⊢
      exact this
    have HSAY := Lib.hid h0.out
    have HSY := HS0
    have HGc := Lib.hid G12
    clear h0 hhd HHD HS0
    obtain ⟨zb, p0, p1, p2, p3, p4, p5, p6, p7, p8⟩ := HPX.out _ (HGc.out)
    have HS := Lib.hid (fun (w' : World) (g : Gr w1 w') => (show w'.cell? ⟨w.heap.size, 4, none⟩ = some (.int .i64 P.top) ∧ w'.cell? ⟨w.heap.size, 5, none⟩ = some (.int .i64 P.brake) ∧ w'.cell? ⟨w.heap.size, 6, none⟩ = some (.int .i64 P.margin) ∧ w'.cell? ⟨w.heap.size, 7, none⟩ = some (.int .i64 P.throw) from by
      obtain ⟨zb, p0, p1, p2, p3, p4, p5, p6, p7, p8⟩ := HPX.out _ g
      exact ⟨p4, p5, p6, p7⟩))
    go_upto_region 9 with fail
    replace HGc := Lib.hid HGc.out.drew
    replace HSY := Lib.hid (HSY.out.gr ((Gr.refl _).drew))
    clear zb p0 p1 p2 p3 p4 p5 p6 p7 p8
    go_region_held3 (fun w' => w'.cell? ⟨w.heap.size, 4, none⟩ = some (.int .i64 P.top) ∧ w'.cell? ⟨w.heap.size, 5, none⟩ = some (.int .i64 P.brake) ∧ w'.cell? ⟨w.heap.size, 6, none⟩ = some (.int .i64 P.margin) ∧ w'.cell? ⟨w.heap.size, 7, none⟩ = some (.int .i64 P.throw)) (first | exact HS.out _ HGc.out | exact HS.out _ (HGc.out.alloc _) | exact HS.out _ g6) (first | (go_at_call 67; first | (with_reducible refine (HD1.out _ (GW1.out.trans HGc.out)).mono ?_; rintro e w5 ⟨rfl, g5⟩; replace HGc := Lib.hid (HGc.out.trans g5); replace HSY := Lib.hid (HSY.out.gr g5)) | (with_reducible refine (HD2.out _ (GW1.out.trans HGc.out)).mono ?_; rintro e w5 ⟨rfl, g5⟩; replace HGc := Lib.hid (HGc.out.trans g5); replace HSY := Lib.hid (HSY.out.gr g5)) | (with_reducible refine (HD3.out _ (GW1.out.trans HGc.out)).mono ?_; rintro e w5 ⟨rfl, g5⟩; replace HGc := Lib.hid (HGc.out.trans g5); replace HSY := Lib.hid (HSY.out.gr g5)) | (with_reducible refine (HD4.out _ (GW1.out.trans HGc.out)).mono ?_; rintro e w5 ⟨rfl, g5⟩; replace HGc := Lib.hid (HGc.out.trans g5); replace HSY := Lib.hid (HSY.out.gr g5))) | (go_at_call 69; (with_reducible refine (HSAY.out _ HGc.out HSY.out).mono ?_); rintro e w6 ⟨rfl, g6, h6, k6⟩))
    all_goals clear HSAY HSY HS HGc HD1 HD2 HD3 HD4 k6
    obtain ⟨zb, p0, p1, p2, p3, p4, p5, p6, p7, p8⟩ := HPX.out _ (g6)
    go_wp2_with fail
    clear zb p0 p1 p2 p3 p4 p5 p6 p7 p8
    go_loopw [9, 48] (fun _ x wr => ∃ k : Nat, x = .int .i64 k ∧ k ≤ P.es.length ∧ Gr w1 wr ∧ SayS w1.heap.size (w1.heap.size + 1) wr (rowsN P (1 + k))) (fun _ x _ => P.es.length - (intOf x).toNat)
    case atStart => exact ⟨0, rfl, Nat.zero_le _, g6, h6⟩
    case round =>
      obtain ⟨k, rfl, hk, g, hsy⟩ := hrel
      have gw := GW1.out.trans g
      by_cases hlt : k < P.es.length
      · have hk1 : (k : Int) < (P.es.length : Int) := by omega
        obtain ⟨bb, o, hs, z, y0, y1, y2⟩ := IsEles.at (H1.out.gr gw) k hlt
        subst hs
        have hfe := fine_ele HKP.out _ (List.getElem_mem hlt)
        have hwe := S1.out _ (List.getElem_mem hlt)
        have hrw := rowsN_succ (rowsT_e (P := P) hlt)
        generalize P.es[k] = x at y0 y1 y2 hfe hwe hrw
        obtain ⟨nm, ek, el⟩ := x
        obtain ⟨-, hkk, hl0, hl1, -, -⟩ := hfe
        dsimp only at y0 y1 y2 hkk hl0 hl1 hwe hrw
        have HDE := Lib.hid (fun (w' : World) (g : Gr w w') => digits_of HT.out (n := el) (by omega) (by omega) w' g)
        have hlen := rowsN_len P (1 + k)
        have hebn : wr.heap.size ≠ w1.heap.size := by have := hsy.2.1; omega
        have gq : Gr wr (wr.alloc (.cells #[.string nm, .int .i64 ek, .int .i64 el] 80)) := (Gr.refl _).alloc _
        have hHEB : (wr.alloc (.cells #[.string nm, .int .i64 ek, .int .i64 el] 80)).heap[wr.heap.size]? = some (.cells #[.string nm, .int .i64 ek, .int .i64 el] 80) := heap_alloc_new wr _
        have hHSAY : ∀ (W : List ByteArray), wordsE ⟨nm, ek, el⟩ = W → W.length ≤ 1000 → W ≠ [] → Hid (∀ w' gg, gg = w'.heap.size → Gr w1 w' → SayS w1.heap.size (w1.heap.size + 1) w' (rowsN P (1 + k)) → Calls Tryz.prog 69 #[.slice (some ⟨gg, 0, none⟩) W.length W.length, .pointer (some ⟨w1.heap.size, 0, none⟩)] (w'.alloc (.cells (W.map Value.string).toArray 9)) fun e w'' => e = .returned (.tuple #[]) ∧ Gr w1 w'' ∧ SayS w1.heap.size (w1.heap.size + 1) w'' (rowsN P (1 + (k + 1))) ∧ Kept w1.heap.size (w'.alloc (.cells (W.map Value.string).toArray 9)) w'') := fun W hW hl hne w' gg hgg g h => by
          subst hgg
          have := say_lit (w0 := w1) W hbw g h hne (by rw [← hW]; omega) hl (by omega)
          rw [← hW, ← hrw, hW] at this
          exact this
        clear hwe hrw hlen
        go_upto_region 13 with fail
        have HGc := Lib.hid (g.trans gq)
        have HSY := Lib.hid (hsy.gr gq)
        obtain ⟨x0, x1, x2⟩ := three_at (wr.alloc (.cells #[.string nm, .int .i64 ek, .int .i64 el] 80)) wr.heap.size _ _ _ _ hHEB
        have HEB := Lib.hid hHEB
        clear hHEB gq hsy y0 y1 y2
        generalize wr.alloc (.cells #[.string nm, .int .i64 ek, .int .i64 el] 80) = wq at *
        generalize wr.heap.size = eb at *
        have zx : eb < wq.heap.size := World.block_lt_of_cell? wq _ x0
        have hk4 : ek = 1 ∨ ek = 2 ∨ ek = 3 ∨ ek = 4 := by omega
        clear hkk
        rcases hk4 with h4 | h4 | h4 | h4
        · subst h4
          have HSAY : Hid (∀ w' gg, gg = w'.heap.size → Gr w1 w' → SayS w1.heap.size (w1.heap.size + 1) w' (rowsN P (1 + k)) → Calls Tryz.prog 69 #[.slice (some ⟨gg, 0, none⟩) 3 3, .pointer (some ⟨w1.heap.size, 0, none⟩)] (w'.alloc (.cells #[.string ⟨#[116, 114, 97, 99, 107]⟩, .string nm, .string (dgs el)] 9)) fun e w'' => e = .returned (.tuple #[]) ∧ Gr w1 w'' ∧ SayS w1.heap.size (w1.heap.size + 1) w'' (rowsN P (1 + (k + 1))) ∧ Kept w1.heap.size (w'.alloc (.cells #[.string ⟨#[116, 114, 97, 99, 107]⟩, .string nm, .string (dgs el)] 9)) w'') := hHSAY [bTrack, nm, dgs el] rfl (by simp) (by simp)
          clear hHSAY
          have hS0 : ∀ (w' : World), w'.heap[eb]? = some (.cells #[.string nm, .int .i64 1, .int .i64 el] 80) → w'.cell? ⟨eb, 0, none⟩ = some (.string nm) ∧ w'.cell? ⟨eb, 1, none⟩ = some (.int .i64 1) ∧ w'.cell? ⟨eb, 2, none⟩ = some (.int .i64 el) := fun w' h => three_at w' eb _ _ _ _ h
          have HS := Lib.hid hS0
          clear hS0
          go_upto_region 15 with fail
          replace HGc := Lib.hid HGc.out.drew
          replace HSY := Lib.hid (HSY.out.gr ((Gr.refl _).drew))
          replace HEB := Lib.hid (blk_gr ((Gr.refl _).drew) HEB.out)
          refine wp_region_held_drew (S := fun w' => w'.cell? ⟨eb, 0, none⟩ = some (.string nm) ∧ w'.cell? ⟨eb, 1, none⟩ = some (.int .i64 1) ∧ w'.cell? ⟨eb, 2, none⟩ = some (.int .i64 el)) (by kernel_rfl) (HS.out _ HEB.out) (fun hHeld => ?_)
          clear x0 x1 x2 zx
          generalize wq.drew = x0 at *
          (refine wpAnyH_take (i := 0) (v := ?_) rfl (by kernel_rfl) (by kernel_rfl) (by kernel_rfl) (fun _ _ _ h => h) (Or.inl ⟨by rfl, ?_⟩) (by assumption) ?_; rotate_left; (focus (intro w hSw; (try dsimp only at hSw); go_simp; try with_reducible rfl)); try simp only [Act.put, List.getElem_toArray, List.getElem_cons_zero, List.getElem_cons_succ, List.setIfInBounds_toArray, List.set_cons_zero, List.set_cons_succ])
          (refine wpAnyH_take (i := 2) (v := ?_) rfl (by kernel_rfl) (by kernel_rfl) (by kernel_rfl) (fun _ _ _ h => h) (Or.inl ⟨by rfl, ?_⟩) (by assumption) ?_; rotate_left; (focus (intro w hSw; (try dsimp only at hSw); go_simp; try with_reducible rfl)); try simp only [Act.put, List.getElem_toArray, List.getElem_cons_zero, List.getElem_cons_succ, List.setIfInBounds_toArray, List.set_cons_zero, List.set_cons_succ])
          (refine wpAnyH_take (i := 3) (v := ?_) rfl (by kernel_rfl) (by kernel_rfl) (by kernel_rfl) (fun _ _ _ h => h) (Or.inl ⟨by rfl, ?_⟩) (by assumption) ?_; rotate_left; (focus (intro w hSw; (try dsimp only at hSw); go_simp; try with_reducible rfl)); try simp only [Act.put, List.getElem_toArray, List.getElem_cons_zero, List.getElem_cons_succ, List.setIfInBounds_toArray, List.set_cons_zero, List.set_cons_succ])
          (refine wpAnyH_take (i := 6) (v := ?_) rfl (by kernel_rfl) (by kernel_rfl) (by kernel_rfl) (fun _ _ _ h => h) (Or.inl ⟨by rfl, ?_⟩) (by assumption) ?_; rotate_left; (focus (intro w hSw; (try dsimp only at hSw); go_simp; try with_reducible rfl)); try simp only [Act.put, List.getElem_toArray, List.getElem_cons_zero, List.getElem_cons_succ, List.setIfInBounds_toArray, List.set_cons_zero, List.set_cons_succ])
          (refine wpAnyH_take (i := 7) (v := ?_) rfl (by kernel_rfl) (by kernel_rfl) (by kernel_rfl) (fun _ _ _ h => h) (Or.inl ⟨by rfl, ?_⟩) (by assumption) ?_; rotate_left; (focus (intro w hSw; (try dsimp only at hSw); go_simp; try with_reducible rfl)); try simp only [Act.put, List.getElem_toArray, List.getElem_cons_zero, List.getElem_cons_succ, List.setIfInBounds_toArray, List.set_cons_zero, List.set_cons_succ])
          (refine wpAnyH_take (i := 8) (v := ?_) rfl (by kernel_rfl) (by kernel_rfl) (by kernel_rfl) (fun _ _ _ h => h) (Or.inl ⟨by rfl, ?_⟩) (by assumption) ?_; rotate_left; (focus (intro w hSw; (try dsimp only at hSw); go_simp; try with_reducible rfl)); try simp only [Act.put, List.getElem_toArray, List.getElem_cons_zero, List.getElem_cons_succ, List.setIfInBounds_toArray, List.set_cons_zero, List.set_cons_succ])
          (refine wpAnyH_take (i := 9) (v := ?_) rfl (by kernel_rfl) (by kernel_rfl) (by kernel_rfl) (fun _ _ _ h => h) (Or.inl ⟨by rfl, ?_⟩) (by assumption) ?_; rotate_left; (focus (intro w hSw; (try dsimp only at hSw); go_simp; try with_reducible rfl)); try simp only [Act.put, List.getElem_toArray, List.getElem_cons_zero, List.getElem_cons_succ, List.setIfInBounds_toArray, List.set_cons_zero, List.set_cons_succ])
          refine wpAnyH_ready (rs := [1, 10]) (by kernel_rfl) (by simp) ?_
          refine AllReadyH.cons rfl (fun K hK => ?_) (AllReadyH.cons rfl (fun K hK => ?_) AllReadyH.nil)
          · go_simp
            refine hK.out _ _ (HS.out _ (blk_gr ((Gr.refl _).alloc _) HEB.out)) (fun hHeld2 => ?_)
            clear hK K hHeld
            have hHeld := hHeld2
            clear hHeld2
            try simp only [Act.put, List.getElem_toArray, List.getElem_cons_zero, List.getElem_cons_succ, List.setIfInBounds_toArray, List.set_cons_zero, List.set_cons_succ]
            have GA : Gr x0 (x0.alloc (.cells #[.string ⟨#[]⟩, .string ⟨#[116, 114, 97, 99, 107]⟩, .string ⟨#[112, 111, 105, 110, 116, 115]⟩, .string ⟨#[99, 114, 111, 115, 115]⟩] 9)) := (Gr.refl _).alloc _
            have q1 : (x0.alloc (.cells #[.string ⟨#[]⟩, .string ⟨#[116, 114, 97, 99, 107]⟩, .string ⟨#[112, 111, 105, 110, 116, 115]⟩, .string ⟨#[99, 114, 111, 115, 115]⟩] 9)).cell? ⟨x0.heap.size, 1, none⟩ = some (.string ⟨#[116, 114, 97, 99, 107]⟩) := by rw [World.cell?_alloc_mark]; rfl
            replace HGc := Lib.hid (HGc.out.trans GA)
            replace HSY := Lib.hid (HSY.out.gr GA)
            replace HEB := Lib.hid (blk_gr GA HEB.out)
            clear GA
            generalize (x0.alloc (.cells #[.string ⟨#[]⟩, .string ⟨#[116, 114, 97, 99, 107]⟩, .string ⟨#[112, 111, 105, 110, 116, 115]⟩, .string ⟨#[99, 114, 111, 115, 115]⟩] 9)) = x1 at *
            generalize x0.heap.size = lb at *
            have zl : lb < x1.heap.size := World.block_lt_of_cell? _ _ q1
            (refine wpAnyH_take (i := 4) (v := ?_) rfl (by kernel_rfl) (by kernel_rfl) (by kernel_rfl) (fun _ _ _ h => h) (Or.inl ⟨by rfl, ?_⟩) (by assumption) ?_; rotate_left; (focus (intro w hSw; (try dsimp only at hSw); go_simp; try with_reducible rfl)); try simp only [Act.put, List.getElem_toArray, List.getElem_cons_zero, List.getElem_cons_succ, List.setIfInBounds_toArray, List.set_cons_zero, List.set_cons_succ])
            refine wpAnyH_ready (rs := [5, 10]) (by kernel_rfl) (by simp) ?_
            refine AllReadyH.cons rfl (fun K hK => ?_) (AllReadyH.cons rfl (fun K hK => ?_) AllReadyH.nil)
            · go_simp
              refine hK.out _ _ hHeld (fun hHeld2 => ?_)
              clear hK K hHeld
              have hHeld := hHeld2
              clear hHeld2
              try simp only [Act.put, List.getElem_toArray, List.getElem_cons_zero, List.getElem_cons_succ, List.setIfInBounds_toArray, List.set_cons_zero, List.set_cons_succ]
              clear q1 zl
              refine wpAnyH_ready (rs := [10]) (by kernel_rfl) (by simp) ?_
              refine AllReadyH.cons rfl (fun K hK => ?_) AllReadyH.nil
              · go_simp
                go_at_call 67
                (with_reducible refine (HDE.out _ (GW1.out.trans HGc.out)).mono ?_)
                rintro e x3 ⟨rfl, g5⟩
                try go_wp2_with fail
                replace HGc := Lib.hid (HGc.out.trans g5)
                replace HSY := Lib.hid (HSY.out.gr g5)
                replace HEB := Lib.hid (blk_gr g5 HEB.out)
                clear g5
                refine hK.out _ _ (HS.out _ HEB.out) (fun hHeld2 => ?_)
                clear hK K hHeld
                have hHeld := hHeld2
                clear hHeld2
                try simp only [Act.put, List.getElem_toArray, List.getElem_cons_zero, List.getElem_cons_succ, List.setIfInBounds_toArray, List.set_cons_zero, List.set_cons_succ]
                refine wpAnyH_ready (rs := [11]) (by kernel_rfl) (by simp) ?_
                refine AllReadyH.cons rfl (fun K hK => ?_) AllReadyH.nil
                · go_simp
                  refine hK.out _ _ (HS.out _ (blk_gr ((Gr.refl _).alloc _) HEB.out)) (fun hHeld2 => ?_)
                  clear hK K hHeld
                  have hHeld := hHeld2
                  clear hHeld2
                  try simp only [Act.put, List.getElem_toArray, List.getElem_cons_zero, List.getElem_cons_succ, List.setIfInBounds_toArray, List.set_cons_zero, List.set_cons_succ]
                  refine wpAnyH_ready (rs := [12]) (by kernel_rfl) (by simp) ?_
                  refine AllReadyH.cons rfl (fun K hK => ?_) AllReadyH.nil
                  · go_simp
                    go_at_call 69
                    (with_reducible refine (HSAY.out _ _ rfl HGc.out HSY.out).mono ?_)
                    rintro e w6 ⟨rfl, g6, h6, k6⟩
                    try go_wp2_with fail
                    refine hK.out _ _ (HS.out _ (k6.2 _ _ _ (blk_gr ((Gr.refl _).alloc _) HEB.out) (by decide) hebn)) (fun hHeld2 => ?_)
                    clear hK K hHeld
                    have hHeld := hHeld2
                    clear hHeld2
                    try simp only [Act.put, List.getElem_toArray, List.getElem_cons_zero, List.getElem_cons_succ, List.setIfInBounds_toArray, List.set_cons_zero, List.set_cons_succ]
                    refine wpAnyH_done (by kernel_rfl) ?_ _
                    go_wp2_with fail
                    go_roundw
                    case rel => exact ⟨k + 1, by go_num, hlt, g6, h6⟩
                    case measure => simp [intOf]; omega
            · go_simp
              go_at_call 67
              (with_reducible refine (HDE.out _ (GW1.out.trans HGc.out)).mono ?_)
              rintro e x6 ⟨rfl, g5⟩
              try go_wp2_with fail
              replace HGc := Lib.hid (HGc.out.trans g5)
              replace HSY := Lib.hid (HSY.out.gr g5)
              replace HEB := Lib.hid (blk_gr g5 HEB.out)
              replace q1 := (g5.cell _ _ zl).trans q1
              replace zl := Nat.lt_of_lt_of_le zl g5.size
              clear g5
              refine hK.out _ _ (HS.out _ HEB.out) (fun hHeld2 => ?_)
              clear hK K hHeld
              have hHeld := hHeld2
              clear hHeld2
              try simp only [Act.put, List.getElem_toArray, List.getElem_cons_zero, List.getElem_cons_succ, List.setIfInBounds_toArray, List.set_cons_zero, List.set_cons_succ]
              refine wpAnyH_ready (rs := [5]) (by kernel_rfl) (by simp) ?_
              refine AllReadyH.cons rfl (fun K hK => ?_) AllReadyH.nil
              · go_simp
                refine hK.out _ _ hHeld (fun hHeld2 => ?_)
                clear hK K hHeld
                have hHeld := hHeld2
                clear hHeld2
                try simp only [Act.put, List.getElem_toArray, List.getElem_cons_zero, List.getElem_cons_succ, List.setIfInBounds_toArray, List.set_cons_zero, List.set_cons_succ]
                clear q1 zl
                refine wpAnyH_ready (rs := [11]) (by kernel_rfl) (by simp) ?_
                refine AllReadyH.cons rfl (fun K hK => ?_) AllReadyH.nil
                · go_simp
                  refine hK.out _ _ (HS.out _ (blk_gr ((Gr.refl _).alloc _) HEB.out)) (fun hHeld2 => ?_)
                  clear hK K hHeld
                  have hHeld := hHeld2
                  clear hHeld2
                  try simp only [Act.put, List.getElem_toArray, List.getElem_cons_zero, List.getElem_cons_succ, List.setIfInBounds_toArray, List.set_cons_zero, List.set_cons_succ]
                  refine wpAnyH_ready (rs := [12]) (by kernel_rfl) (by simp) ?_
                  refine AllReadyH.cons rfl (fun K hK => ?_) AllReadyH.nil
                  · go_simp
                    go_at_call 69
                    (with_reducible refine (HSAY.out _ _ rfl HGc.out HSY.out).mono ?_)
                    rintro e w6 ⟨rfl, g6, h6, k6⟩
                    try go_wp2_with fail
                    refine hK.out _ _ (HS.out _ (k6.2 _ _ _ (blk_gr ((Gr.refl _).alloc _) HEB.out) (by decide) hebn)) (fun hHeld2 => ?_)
                    clear hK K hHeld
                    have hHeld := hHeld2
                    clear hHeld2
                    try simp only [Act.put, List.getElem_toArray, List.getElem_cons_zero, List.getElem_cons_succ, List.setIfInBounds_toArray, List.set_cons_zero, List.set_cons_succ]
                    refine wpAnyH_done (by kernel_rfl) ?_ _
                    go_wp2_with fail
                    go_roundw
                    case rel => exact ⟨k + 1, by go_num, hlt, g6, h6⟩
                    case measure => simp [intOf]; omega
          · go_simp
            go_at_call 67
            (with_reducible refine (HDE.out _ (GW1.out.trans HGc.out)).mono ?_)
            rintro e x10 ⟨rfl, g5⟩
            try go_wp2_with fail
            replace HGc := Lib.hid (HGc.out.trans g5)
            replace HSY := Lib.hid (HSY.out.gr g5)
            replace HEB := Lib.hid (blk_gr g5 HEB.out)
            clear g5
            refine hK.out _ _ (HS.out _ HEB.out) (fun hHeld2 => ?_)
            clear hK K hHeld
            have hHeld := hHeld2
            clear hHeld2
            try simp only [Act.put, List.getElem_toArray, List.getElem_cons_zero, List.getElem_cons_succ, List.setIfInBounds_toArray, List.set_cons_zero, List.set_cons_succ]
            refine wpAnyH_ready (rs := [1]) (by kernel_rfl) (by simp) ?_
            refine AllReadyH.cons rfl (fun K hK => ?_) AllReadyH.nil
            · go_simp
              refine hK.out _ _ (HS.out _ (blk_gr ((Gr.refl _).alloc _) HEB.out)) (fun hHeld2 => ?_)
              clear hK K hHeld
              have hHeld := hHeld2
              clear hHeld2
              try simp only [Act.put, List.getElem_toArray, List.getElem_cons_zero, List.getElem_cons_succ, List.setIfInBounds_toArray, List.set_cons_zero, List.set_cons_succ]
              have GA : Gr x10 (x10.alloc (.cells #[.string ⟨#[]⟩, .string ⟨#[116, 114, 97, 99, 107]⟩, .string ⟨#[112, 111, 105, 110, 116, 115]⟩, .string ⟨#[99, 114, 111, 115, 115]⟩] 9)) := (Gr.refl _).alloc _
              have q1 : (x10.alloc (.cells #[.string ⟨#[]⟩, .string ⟨#[116, 114, 97, 99, 107]⟩, .string ⟨#[112, 111, 105, 110, 116, 115]⟩, .string ⟨#[99, 114, 111, 115, 115]⟩] 9)).cell? ⟨x10.heap.size, 1, none⟩ = some (.string ⟨#[116, 114, 97, 99, 107]⟩) := by rw [World.cell?_alloc_mark]; rfl
              replace HGc := Lib.hid (HGc.out.trans GA)
              replace HSY := Lib.hid (HSY.out.gr GA)
              replace HEB := Lib.hid (blk_gr GA HEB.out)
              clear GA
              generalize (x10.alloc (.cells #[.string ⟨#[]⟩, .string ⟨#[116, 114, 97, 99, 107]⟩, .string ⟨#[112, 111, 105, 110, 116, 115]⟩, .string ⟨#[99, 114, 111, 115, 115]⟩] 9)) = x11 at *
              generalize x10.heap.size = lb at *
              have zl : lb < x11.heap.size := World.block_lt_of_cell? _ _ q1
              (refine wpAnyH_take (i := 4) (v := ?_) rfl (by kernel_rfl) (by kernel_rfl) (by kernel_rfl) (fun _ _ _ h => h) (Or.inl ⟨by rfl, ?_⟩) (by assumption) ?_; rotate_left; (focus (intro w hSw; (try dsimp only at hSw); go_simp; try with_reducible rfl)); try simp only [Act.put, List.getElem_toArray, List.getElem_cons_zero, List.getElem_cons_succ, List.setIfInBounds_toArray, List.set_cons_zero, List.set_cons_succ])
              refine wpAnyH_ready (rs := [5]) (by kernel_rfl) (by simp) ?_
              refine AllReadyH.cons rfl (fun K hK => ?_) AllReadyH.nil
              · go_simp
                refine hK.out _ _ hHeld (fun hHeld2 => ?_)
                clear hK K hHeld
                have hHeld := hHeld2
                clear hHeld2
                try simp only [Act.put, List.getElem_toArray, List.getElem_cons_zero, List.getElem_cons_succ, List.setIfInBounds_toArray, List.set_cons_zero, List.set_cons_succ]
                clear q1 zl
                refine wpAnyH_ready (rs := [11]) (by kernel_rfl) (by simp) ?_
                refine AllReadyH.cons rfl (fun K hK => ?_) AllReadyH.nil
                · go_simp
                  refine hK.out _ _ (HS.out _ (blk_gr ((Gr.refl _).alloc _) HEB.out)) (fun hHeld2 => ?_)
                  clear hK K hHeld
                  have hHeld := hHeld2
                  clear hHeld2
                  try simp only [Act.put, List.getElem_toArray, List.getElem_cons_zero, List.getElem_cons_succ, List.setIfInBounds_toArray, List.set_cons_zero, List.set_cons_succ]
                  refine wpAnyH_ready (rs := [12]) (by kernel_rfl) (by simp) ?_
                  refine AllReadyH.cons rfl (fun K hK => ?_) AllReadyH.nil
                  · go_simp
                    go_at_call 69
                    (with_reducible refine (HSAY.out _ _ rfl HGc.out HSY.out).mono ?_)
                    rintro e w6 ⟨rfl, g6, h6, k6⟩
                    try go_wp2_with fail
                    refine hK.out _ _ (HS.out _ (k6.2 _ _ _ (blk_gr ((Gr.refl _).alloc _) HEB.out) (by decide) hebn)) (fun hHeld2 => ?_)
                    clear hK K hHeld
                    have hHeld := hHeld2
                    clear hHeld2
                    try simp only [Act.put, List.getElem_toArray, List.getElem_cons_zero, List.getElem_cons_succ, List.setIfInBounds_toArray, List.set_cons_zero, List.set_cons_succ]
                    refine wpAnyH_done (by kernel_rfl) ?_ _
                    go_wp2_with fail
                    go_roundw
                    case rel => exact ⟨k + 1, by go_num, hlt, g6, h6⟩
                    case measure => simp [intOf]; omega
        · subst h4
          have HSAY : Hid (∀ w' gg, gg = w'.heap.size → Gr w1 w' → SayS w1.heap.size (w1.heap.size + 1) w' (rowsN P (1 + k)) → Calls Tryz.prog 69 #[.slice (some ⟨gg, 0, none⟩) 3 3, .pointer (some ⟨w1.heap.size, 0, none⟩)] (w'.alloc (.cells #[.string ⟨#[112, 111, 105, 110, 116, 115]⟩, .string nm, .string (dgs el)] 9)) fun e w'' => e = .returned (.tuple #[]) ∧ Gr w1 w'' ∧ SayS w1.heap.size (w1.heap.size + 1) w'' (rowsN P (1 + (k + 1))) ∧ Kept w1.heap.size (w'.alloc (.cells #[.string ⟨#[112, 111, 105, 110, 116, 115]⟩, .string nm, .string (dgs el)] 9)) w'') := hHSAY [bPoints, nm, dgs el] rfl (by simp) (by simp)
          clear hHSAY
          have hS0 : ∀ (w' : World), w'.heap[eb]? = some (.cells #[.string nm, .int .i64 2, .int .i64 el] 80) → w'.cell? ⟨eb, 0, none⟩ = some (.string nm) ∧ w'.cell? ⟨eb, 1, none⟩ = some (.int .i64 2) ∧ w'.cell? ⟨eb, 2, none⟩ = some (.int .i64 el) := fun w' h => three_at w' eb _ _ _ _ h
          have HS := Lib.hid hS0
          clear hS0
          go_upto_region 15 with fail
          replace HGc := Lib.hid HGc.out.drew
          replace HSY := Lib.hid (HSY.out.gr ((Gr.refl _).drew))
          replace HEB := Lib.hid (blk_gr ((Gr.refl _).drew) HEB.out)
          refine wp_region_held_drew (S := fun w' => w'.cell? ⟨eb, 0, none⟩ = some (.string nm) ∧ w'.cell? ⟨eb, 1, none⟩ = some (.int .i64 2) ∧ w'.cell? ⟨eb, 2, none⟩ = some (.int .i64 el)) (by kernel_rfl) (HS.out _ HEB.out) (fun hHeld => ?_)
          clear x0 x1 x2 zx
          generalize wq.drew = x0 at *
          (refine wpAnyH_take (i := 0) (v := ?_) rfl (by kernel_rfl) (by kernel_rfl) (by kernel_rfl) (fun _ _ _ h => h) (Or.inl ⟨by rfl, ?_⟩) (by assumption) ?_; rotate_left; (focus (intro w hSw; (try dsimp only at hSw); go_simp; try with_reducible rfl)); try simp only [Act.put, List.getElem_toArray, List.getElem_cons_zero, List.getElem_cons_succ, List.setIfInBounds_toArray, List.set_cons_zero, List.set_cons_succ])
          (refine wpAnyH_take (i := 2) (v := ?_) rfl (by kernel_rfl) (by kernel_rfl) (by kernel_rfl) (fun _ _ _ h => h) (Or.inl ⟨by rfl, ?_⟩) (by assumption) ?_; rotate_left; (focus (intro w hSw; (try dsimp only at hSw); go_simp; try with_reducible rfl)); try simp only [Act.put, List.getElem_toArray, List.getElem_cons_zero, List.getElem_cons_succ, List.setIfInBounds_toArray, List.set_cons_zero, List.set_cons_succ])
          (refine wpAnyH_take (i := 3) (v := ?_) rfl (by kernel_rfl) (by kernel_rfl) (by kernel_rfl) (fun _ _ _ h => h) (Or.inl ⟨by rfl, ?_⟩) (by assumption) ?_; rotate_left; (focus (intro w hSw; (try dsimp only at hSw); go_simp; try with_reducible rfl)); try simp only [Act.put, List.getElem_toArray, List.getElem_cons_zero, List.getElem_cons_succ, List.setIfInBounds_toArray, List.set_cons_zero, List.set_cons_succ])
          (refine wpAnyH_take (i := 6) (v := ?_) rfl (by kernel_rfl) (by kernel_rfl) (by kernel_rfl) (fun _ _ _ h => h) (Or.inl ⟨by rfl, ?_⟩) (by assumption) ?_; rotate_left; (focus (intro w hSw; (try dsimp only at hSw); go_simp; try with_reducible rfl)); try simp only [Act.put, List.getElem_toArray, List.getElem_cons_zero, List.getElem_cons_succ, List.setIfInBounds_toArray, List.set_cons_zero, List.set_cons_succ])
          (refine wpAnyH_take (i := 7) (v := ?_) rfl (by kernel_rfl) (by kernel_rfl) (by kernel_rfl) (fun _ _ _ h => h) (Or.inl ⟨by rfl, ?_⟩) (by assumption) ?_; rotate_left; (focus (intro w hSw; (try dsimp only at hSw); go_simp; try with_reducible rfl)); try simp only [Act.put, List.getElem_toArray, List.getElem_cons_zero, List.getElem_cons_succ, List.setIfInBounds_toArray, List.set_cons_zero, List.set_cons_succ])
          (refine wpAnyH_take (i := 8) (v := ?_) rfl (by kernel_rfl) (by kernel_rfl) (by kernel_rfl) (fun _ _ _ h => h) (Or.inl ⟨by rfl, ?_⟩) (by assumption) ?_; rotate_left; (focus (intro w hSw; (try dsimp only at hSw); go_simp; try with_reducible rfl)); try simp only [Act.put, List.getElem_toArray, List.getElem_cons_zero, List.getElem_cons_succ, List.setIfInBounds_toArray, List.set_cons_zero, List.set_cons_succ])
          (refine wpAnyH_take (i := 9) (v := ?_) rfl (by kernel_rfl) (by kernel_rfl) (by kernel_rfl) (fun _ _ _ h => h) (Or.inl ⟨by rfl, ?_⟩) (by assumption) ?_; rotate_left; (focus (intro w hSw; (try dsimp only at hSw); go_simp; try with_reducible rfl)); try simp only [Act.put, List.getElem_toArray, List.getElem_cons_zero, List.getElem_cons_succ, List.setIfInBounds_toArray, List.set_cons_zero, List.set_cons_succ])
          refine wpAnyH_ready (rs := [1, 10]) (by kernel_rfl) (by simp) ?_
          refine AllReadyH.cons rfl (fun K hK => ?_) (AllReadyH.cons rfl (fun K hK => ?_) AllReadyH.nil)
          · go_simp
            refine hK.out _ _ (HS.out _ (blk_gr ((Gr.refl _).alloc _) HEB.out)) (fun hHeld2 => ?_)
            clear hK K hHeld
            have hHeld := hHeld2
            clear hHeld2
            try simp only [Act.put, List.getElem_toArray, List.getElem_cons_zero, List.getElem_cons_succ, List.setIfInBounds_toArray, List.set_cons_zero, List.set_cons_succ]
            have GA : Gr x0 (x0.alloc (.cells #[.string ⟨#[]⟩, .string ⟨#[116, 114, 97, 99, 107]⟩, .string ⟨#[112, 111, 105, 110, 116, 115]⟩, .string ⟨#[99, 114, 111, 115, 115]⟩] 9)) := (Gr.refl _).alloc _
            have q1 : (x0.alloc (.cells #[.string ⟨#[]⟩, .string ⟨#[116, 114, 97, 99, 107]⟩, .string ⟨#[112, 111, 105, 110, 116, 115]⟩, .string ⟨#[99, 114, 111, 115, 115]⟩] 9)).cell? ⟨x0.heap.size, 2, none⟩ = some (.string ⟨#[112, 111, 105, 110, 116, 115]⟩) := by rw [World.cell?_alloc_mark]; rfl
            replace HGc := Lib.hid (HGc.out.trans GA)
            replace HSY := Lib.hid (HSY.out.gr GA)
            replace HEB := Lib.hid (blk_gr GA HEB.out)
            clear GA
            generalize (x0.alloc (.cells #[.string ⟨#[]⟩, .string ⟨#[116, 114, 97, 99, 107]⟩, .string ⟨#[112, 111, 105, 110, 116, 115]⟩, .string ⟨#[99, 114, 111, 115, 115]⟩] 9)) = x1 at *
            generalize x0.heap.size = lb at *
            have zl : lb < x1.heap.size := World.block_lt_of_cell? _ _ q1
            (refine wpAnyH_take (i := 4) (v := ?_) rfl (by kernel_rfl) (by kernel_rfl) (by kernel_rfl) (fun _ _ _ h => h) (Or.inl ⟨by rfl, ?_⟩) (by assumption) ?_; rotate_left; (focus (intro w hSw; (try dsimp only at hSw); go_simp; try with_reducible rfl)); try simp only [Act.put, List.getElem_toArray, List.getElem_cons_zero, List.getElem_cons_succ, List.setIfInBounds_toArray, List.set_cons_zero, List.set_cons_succ])
            refine wpAnyH_ready (rs := [5, 10]) (by kernel_rfl) (by simp) ?_
            refine AllReadyH.cons rfl (fun K hK => ?_) (AllReadyH.cons rfl (fun K hK => ?_) AllReadyH.nil)
            · go_simp
              refine hK.out _ _ hHeld (fun hHeld2 => ?_)
              clear hK K hHeld
              have hHeld := hHeld2
              clear hHeld2
              try simp only [Act.put, List.getElem_toArray, List.getElem_cons_zero, List.getElem_cons_succ, List.setIfInBounds_toArray, List.set_cons_zero, List.set_cons_succ]
              clear q1 zl
              refine wpAnyH_ready (rs := [10]) (by kernel_rfl) (by simp) ?_
              refine AllReadyH.cons rfl (fun K hK => ?_) AllReadyH.nil
              · go_simp
                go_at_call 67
                (with_reducible refine (HDE.out _ (GW1.out.trans HGc.out)).mono ?_)
                rintro e x3 ⟨rfl, g5⟩
                try go_wp2_with fail
                replace HGc := Lib.hid (HGc.out.trans g5)
                replace HSY := Lib.hid (HSY.out.gr g5)
                replace HEB := Lib.hid (blk_gr g5 HEB.out)
                clear g5
                refine hK.out _ _ (HS.out _ HEB.out) (fun hHeld2 => ?_)
                clear hK K hHeld
                have hHeld := hHeld2
                clear hHeld2
                try simp only [Act.put, List.getElem_toArray, List.getElem_cons_zero, List.getElem_cons_succ, List.setIfInBounds_toArray, List.set_cons_zero, List.set_cons_succ]
                refine wpAnyH_ready (rs := [11]) (by kernel_rfl) (by simp) ?_
                refine AllReadyH.cons rfl (fun K hK => ?_) AllReadyH.nil
                · go_simp
                  refine hK.out _ _ (HS.out _ (blk_gr ((Gr.refl _).alloc _) HEB.out)) (fun hHeld2 => ?_)
                  clear hK K hHeld
                  have hHeld := hHeld2
                  clear hHeld2
                  try simp only [Act.put, List.getElem_toArray, List.getElem_cons_zero, List.getElem_cons_succ, List.setIfInBounds_toArray, List.set_cons_zero, List.set_cons_succ]
                  refine wpAnyH_ready (rs := [12]) (by kernel_rfl) (by simp) ?_
                  refine AllReadyH.cons rfl (fun K hK => ?_) AllReadyH.nil
                  · go_simp
                    go_at_call 69
                    (with_reducible refine (HSAY.out _ _ rfl HGc.out HSY.out).mono ?_)
                    rintro e w6 ⟨rfl, g6, h6, k6⟩
                    try go_wp2_with fail
                    refine hK.out _ _ (HS.out _ (k6.2 _ _ _ (blk_gr ((Gr.refl _).alloc _) HEB.out) (by decide) hebn)) (fun hHeld2 => ?_)
                    clear hK K hHeld
                    have hHeld := hHeld2
                    clear hHeld2
                    try simp only [Act.put, List.getElem_toArray, List.getElem_cons_zero, List.getElem_cons_succ, List.setIfInBounds_toArray, List.set_cons_zero, List.set_cons_succ]
                    refine wpAnyH_done (by kernel_rfl) ?_ _
                    go_wp2_with fail
                    go_roundw
                    case rel => exact ⟨k + 1, by go_num, hlt, g6, h6⟩
                    case measure => simp [intOf]; omega
            · go_simp
              go_at_call 67
              (with_reducible refine (HDE.out _ (GW1.out.trans HGc.out)).mono ?_)
              rintro e x6 ⟨rfl, g5⟩
              try go_wp2_with fail
              replace HGc := Lib.hid (HGc.out.trans g5)
              replace HSY := Lib.hid (HSY.out.gr g5)
              replace HEB := Lib.hid (blk_gr g5 HEB.out)
              replace q1 := (g5.cell _ _ zl).trans q1
              replace zl := Nat.lt_of_lt_of_le zl g5.size
              clear g5
              refine hK.out _ _ (HS.out _ HEB.out) (fun hHeld2 => ?_)
              clear hK K hHeld
              have hHeld := hHeld2
              clear hHeld2
              try simp only [Act.put, List.getElem_toArray, List.getElem_cons_zero, List.getElem_cons_succ, List.setIfInBounds_toArray, List.set_cons_zero, List.set_cons_succ]
              refine wpAnyH_ready (rs := [5]) (by kernel_rfl) (by simp) ?_
              refine AllReadyH.cons rfl (fun K hK => ?_) AllReadyH.nil
              · go_simp
                refine hK.out _ _ hHeld (fun hHeld2 => ?_)
                clear hK K hHeld
                have hHeld := hHeld2
                clear hHeld2
                try simp only [Act.put, List.getElem_toArray, List.getElem_cons_zero, List.getElem_cons_succ, List.setIfInBounds_toArray, List.set_cons_zero, List.set_cons_succ]
                clear q1 zl
                refine wpAnyH_ready (rs := [11]) (by kernel_rfl) (by simp) ?_
                refine AllReadyH.cons rfl (fun K hK => ?_) AllReadyH.nil
                · go_simp
                  refine hK.out _ _ (HS.out _ (blk_gr ((Gr.refl _).alloc _) HEB.out)) (fun hHeld2 => ?_)
                  clear hK K hHeld
                  have hHeld := hHeld2
                  clear hHeld2
                  try simp only [Act.put, List.getElem_toArray, List.getElem_cons_zero, List.getElem_cons_succ, List.setIfInBounds_toArray, List.set_cons_zero, List.set_cons_succ]
                  refine wpAnyH_ready (rs := [12]) (by kernel_rfl) (by simp) ?_
                  refine AllReadyH.cons rfl (fun K hK => ?_) AllReadyH.nil
                  · go_simp
                    go_at_call 69
                    (with_reducible refine (HSAY.out _ _ rfl HGc.out HSY.out).mono ?_)
                    rintro e w6 ⟨rfl, g6, h6, k6⟩
                    try go_wp2_with fail
                    refine hK.out _ _ (HS.out _ (k6.2 _ _ _ (blk_gr ((Gr.refl _).alloc _) HEB.out) (by decide) hebn)) (fun hHeld2 => ?_)
                    clear hK K hHeld
                    have hHeld := hHeld2
                    clear hHeld2
                    try simp only [Act.put, List.getElem_toArray, List.getElem_cons_zero, List.getElem_cons_succ, List.setIfInBounds_toArray, List.set_cons_zero, List.set_cons_succ]
                    refine wpAnyH_done (by kernel_rfl) ?_ _
                    go_wp2_with fail
                    go_roundw
                    case rel => exact ⟨k + 1, by go_num, hlt, g6, h6⟩
                    case measure => simp [intOf]; omega
          · go_simp
            go_at_call 67
            (with_reducible refine (HDE.out _ (GW1.out.trans HGc.out)).mono ?_)
            rintro e x10 ⟨rfl, g5⟩
            try go_wp2_with fail
            replace HGc := Lib.hid (HGc.out.trans g5)
            replace HSY := Lib.hid (HSY.out.gr g5)
            replace HEB := Lib.hid (blk_gr g5 HEB.out)
            clear g5
            refine hK.out _ _ (HS.out _ HEB.out) (fun hHeld2 => ?_)
            clear hK K hHeld
            have hHeld := hHeld2
            clear hHeld2
            try simp only [Act.put, List.getElem_toArray, List.getElem_cons_zero, List.getElem_cons_succ, List.setIfInBounds_toArray, List.set_cons_zero, List.set_cons_succ]
            refine wpAnyH_ready (rs := [1]) (by kernel_rfl) (by simp) ?_
            refine AllReadyH.cons rfl (fun K hK => ?_) AllReadyH.nil
            · go_simp
              refine hK.out _ _ (HS.out _ (blk_gr ((Gr.refl _).alloc _) HEB.out)) (fun hHeld2 => ?_)
              clear hK K hHeld
              have hHeld := hHeld2
              clear hHeld2
              try simp only [Act.put, List.getElem_toArray, List.getElem_cons_zero, List.getElem_cons_succ, List.setIfInBounds_toArray, List.set_cons_zero, List.set_cons_succ]
              have GA : Gr x10 (x10.alloc (.cells #[.string ⟨#[]⟩, .string ⟨#[116, 114, 97, 99, 107]⟩, .string ⟨#[112, 111, 105, 110, 116, 115]⟩, .string ⟨#[99, 114, 111, 115, 115]⟩] 9)) := (Gr.refl _).alloc _
              have q1 : (x10.alloc (.cells #[.string ⟨#[]⟩, .string ⟨#[116, 114, 97, 99, 107]⟩, .string ⟨#[112, 111, 105, 110, 116, 115]⟩, .string ⟨#[99, 114, 111, 115, 115]⟩] 9)).cell? ⟨x10.heap.size, 2, none⟩ = some (.string ⟨#[112, 111, 105, 110, 116, 115]⟩) := by rw [World.cell?_alloc_mark]; rfl
              replace HGc := Lib.hid (HGc.out.trans GA)
              replace HSY := Lib.hid (HSY.out.gr GA)
              replace HEB := Lib.hid (blk_gr GA HEB.out)
              clear GA
              generalize (x10.alloc (.cells #[.string ⟨#[]⟩, .string ⟨#[116, 114, 97, 99, 107]⟩, .string ⟨#[112, 111, 105, 110, 116, 115]⟩, .string ⟨#[99, 114, 111, 115, 115]⟩] 9)) = x11 at *
              generalize x10.heap.size = lb at *
              have zl : lb < x11.heap.size := World.block_lt_of_cell? _ _ q1
              (refine wpAnyH_take (i := 4) (v := ?_) rfl (by kernel_rfl) (by kernel_rfl) (by kernel_rfl) (fun _ _ _ h => h) (Or.inl ⟨by rfl, ?_⟩) (by assumption) ?_; rotate_left; (focus (intro w hSw; (try dsimp only at hSw); go_simp; try with_reducible rfl)); try simp only [Act.put, List.getElem_toArray, List.getElem_cons_zero, List.getElem_cons_succ, List.setIfInBounds_toArray, List.set_cons_zero, List.set_cons_succ])
              refine wpAnyH_ready (rs := [5]) (by kernel_rfl) (by simp) ?_
              refine AllReadyH.cons rfl (fun K hK => ?_) AllReadyH.nil
              · go_simp
                refine hK.out _ _ hHeld (fun hHeld2 => ?_)
                clear hK K hHeld
                have hHeld := hHeld2
                clear hHeld2
                try simp only [Act.put, List.getElem_toArray, List.getElem_cons_zero, List.getElem_cons_succ, List.setIfInBounds_toArray, List.set_cons_zero, List.set_cons_succ]
                clear q1 zl
                refine wpAnyH_ready (rs := [11]) (by kernel_rfl) (by simp) ?_
                refine AllReadyH.cons rfl (fun K hK => ?_) AllReadyH.nil
                · go_simp
                  refine hK.out _ _ (HS.out _ (blk_gr ((Gr.refl _).alloc _) HEB.out)) (fun hHeld2 => ?_)
                  clear hK K hHeld
                  have hHeld := hHeld2
                  clear hHeld2
                  try simp only [Act.put, List.getElem_toArray, List.getElem_cons_zero, List.getElem_cons_succ, List.setIfInBounds_toArray, List.set_cons_zero, List.set_cons_succ]
                  refine wpAnyH_ready (rs := [12]) (by kernel_rfl) (by simp) ?_
                  refine AllReadyH.cons rfl (fun K hK => ?_) AllReadyH.nil
                  · go_simp
                    go_at_call 69
                    (with_reducible refine (HSAY.out _ _ rfl HGc.out HSY.out).mono ?_)
                    rintro e w6 ⟨rfl, g6, h6, k6⟩
                    try go_wp2_with fail
                    refine hK.out _ _ (HS.out _ (k6.2 _ _ _ (blk_gr ((Gr.refl _).alloc _) HEB.out) (by decide) hebn)) (fun hHeld2 => ?_)
                    clear hK K hHeld
                    have hHeld := hHeld2
                    clear hHeld2
                    try simp only [Act.put, List.getElem_toArray, List.getElem_cons_zero, List.getElem_cons_succ, List.setIfInBounds_toArray, List.set_cons_zero, List.set_cons_succ]
                    refine wpAnyH_done (by kernel_rfl) ?_ _
                    go_wp2_with fail
                    go_roundw
                    case rel => exact ⟨k + 1, by go_num, hlt, g6, h6⟩
                    case measure => simp [intOf]; omega
        · subst h4
          have HSAY : Hid (∀ w' gg, gg = w'.heap.size → Gr w1 w' → SayS w1.heap.size (w1.heap.size + 1) w' (rowsN P (1 + k)) → Calls Tryz.prog 69 #[.slice (some ⟨gg, 0, none⟩) 3 3, .pointer (some ⟨w1.heap.size, 0, none⟩)] (w'.alloc (.cells #[.string ⟨#[99, 114, 111, 115, 115]⟩, .string nm, .string (dgs el)] 9)) fun e w'' => e = .returned (.tuple #[]) ∧ Gr w1 w'' ∧ SayS w1.heap.size (w1.heap.size + 1) w'' (rowsN P (1 + (k + 1))) ∧ Kept w1.heap.size (w'.alloc (.cells #[.string ⟨#[99, 114, 111, 115, 115]⟩, .string nm, .string (dgs el)] 9)) w'') := hHSAY [bCross, nm, dgs el] rfl (by simp) (by simp)
          clear hHSAY
          have hS0 : ∀ (w' : World), w'.heap[eb]? = some (.cells #[.string nm, .int .i64 3, .int .i64 el] 80) → w'.cell? ⟨eb, 0, none⟩ = some (.string nm) ∧ w'.cell? ⟨eb, 1, none⟩ = some (.int .i64 3) ∧ w'.cell? ⟨eb, 2, none⟩ = some (.int .i64 el) := fun w' h => three_at w' eb _ _ _ _ h
          have HS := Lib.hid hS0
          clear hS0
          go_upto_region 15 with fail
          replace HGc := Lib.hid HGc.out.drew
          replace HSY := Lib.hid (HSY.out.gr ((Gr.refl _).drew))
          replace HEB := Lib.hid (blk_gr ((Gr.refl _).drew) HEB.out)
          refine wp_region_held_drew (S := fun w' => w'.cell? ⟨eb, 0, none⟩ = some (.string nm) ∧ w'.cell? ⟨eb, 1, none⟩ = some (.int .i64 3) ∧ w'.cell? ⟨eb, 2, none⟩ = some (.int .i64 el)) (by kernel_rfl) (HS.out _ HEB.out) (fun hHeld => ?_)
          clear x0 x1 x2 zx
          generalize wq.drew = x0 at *
          (refine wpAnyH_take (i := 0) (v := ?_) rfl (by kernel_rfl) (by kernel_rfl) (by kernel_rfl) (fun _ _ _ h => h) (Or.inl ⟨by rfl, ?_⟩) (by assumption) ?_; rotate_left; (focus (intro w hSw; (try dsimp only at hSw); go_simp; try with_reducible rfl)); try simp only [Act.put, List.getElem_toArray, List.getElem_cons_zero, List.getElem_cons_succ, List.setIfInBounds_toArray, List.set_cons_zero, List.set_cons_succ])
          (refine wpAnyH_take (i := 2) (v := ?_) rfl (by kernel_rfl) (by kernel_rfl) (by kernel_rfl) (fun _ _ _ h => h) (Or.inl ⟨by rfl, ?_⟩) (by assumption) ?_; rotate_left; (focus (intro w hSw; (try dsimp only at hSw); go_simp; try with_reducible rfl)); try simp only [Act.put, List.getElem_toArray, List.getElem_cons_zero, List.getElem_cons_succ, List.setIfInBounds_toArray, List.set_cons_zero, List.set_cons_succ])
          (refine wpAnyH_take (i := 3) (v := ?_) rfl (by kernel_rfl) (by kernel_rfl) (by kernel_rfl) (fun _ _ _ h => h) (Or.inl ⟨by rfl, ?_⟩) (by assumption) ?_; rotate_left; (focus (intro w hSw; (try dsimp only at hSw); go_simp; try with_reducible rfl)); try simp only [Act.put, List.getElem_toArray, List.getElem_cons_zero, List.getElem_cons_succ, List.setIfInBounds_toArray, List.set_cons_zero, List.set_cons_succ])
          (refine wpAnyH_take (i := 6) (v := ?_) rfl (by kernel_rfl) (by kernel_rfl) (by kernel_rfl) (fun _ _ _ h => h) (Or.inl ⟨by rfl, ?_⟩) (by assumption) ?_; rotate_left; (focus (intro w hSw; (try dsimp only at hSw); go_simp; try with_reducible rfl)); try simp only [Act.put, List.getElem_toArray, List.getElem_cons_zero, List.getElem_cons_succ, List.setIfInBounds_toArray, List.set_cons_zero, List.set_cons_succ])
          (refine wpAnyH_take (i := 7) (v := ?_) rfl (by kernel_rfl) (by kernel_rfl) (by kernel_rfl) (fun _ _ _ h => h) (Or.inl ⟨by rfl, ?_⟩) (by assumption) ?_; rotate_left; (focus (intro w hSw; (try dsimp only at hSw); go_simp; try with_reducible rfl)); try simp only [Act.put, List.getElem_toArray, List.getElem_cons_zero, List.getElem_cons_succ, List.setIfInBounds_toArray, List.set_cons_zero, List.set_cons_succ])
          (refine wpAnyH_take (i := 8) (v := ?_) rfl (by kernel_rfl) (by kernel_rfl) (by kernel_rfl) (fun _ _ _ h => h) (Or.inl ⟨by rfl, ?_⟩) (by assumption) ?_; rotate_left; (focus (intro w hSw; (try dsimp only at hSw); go_simp; try with_reducible rfl)); try simp only [Act.put, List.getElem_toArray, List.getElem_cons_zero, List.getElem_cons_succ, List.setIfInBounds_toArray, List.set_cons_zero, List.set_cons_succ])
          (refine wpAnyH_take (i := 9) (v := ?_) rfl (by kernel_rfl) (by kernel_rfl) (by kernel_rfl) (fun _ _ _ h => h) (Or.inl ⟨by rfl, ?_⟩) (by assumption) ?_; rotate_left; (focus (intro w hSw; (try dsimp only at hSw); go_simp; try with_reducible rfl)); try simp only [Act.put, List.getElem_toArray, List.getElem_cons_zero, List.getElem_cons_succ, List.setIfInBounds_toArray, List.set_cons_zero, List.set_cons_succ])
          refine wpAnyH_ready (rs := [1, 10]) (by kernel_rfl) (by simp) ?_
          refine AllReadyH.cons rfl (fun K hK => ?_) (AllReadyH.cons rfl (fun K hK => ?_) AllReadyH.nil)
          · go_simp
            refine hK.out _ _ (HS.out _ (blk_gr ((Gr.refl _).alloc _) HEB.out)) (fun hHeld2 => ?_)
            clear hK K hHeld
            have hHeld := hHeld2
            clear hHeld2
            try simp only [Act.put, List.getElem_toArray, List.getElem_cons_zero, List.getElem_cons_succ, List.setIfInBounds_toArray, List.set_cons_zero, List.set_cons_succ]
            have GA : Gr x0 (x0.alloc (.cells #[.string ⟨#[]⟩, .string ⟨#[116, 114, 97, 99, 107]⟩, .string ⟨#[112, 111, 105, 110, 116, 115]⟩, .string ⟨#[99, 114, 111, 115, 115]⟩] 9)) := (Gr.refl _).alloc _
            have q1 : (x0.alloc (.cells #[.string ⟨#[]⟩, .string ⟨#[116, 114, 97, 99, 107]⟩, .string ⟨#[112, 111, 105, 110, 116, 115]⟩, .string ⟨#[99, 114, 111, 115, 115]⟩] 9)).cell? ⟨x0.heap.size, 3, none⟩ = some (.string ⟨#[99, 114, 111, 115, 115]⟩) := by rw [World.cell?_alloc_mark]; rfl
            replace HGc := Lib.hid (HGc.out.trans GA)
            replace HSY := Lib.hid (HSY.out.gr GA)
            replace HEB := Lib.hid (blk_gr GA HEB.out)
            clear GA
            generalize (x0.alloc (.cells #[.string ⟨#[]⟩, .string ⟨#[116, 114, 97, 99, 107]⟩, .string ⟨#[112, 111, 105, 110, 116, 115]⟩, .string ⟨#[99, 114, 111, 115, 115]⟩] 9)) = x1 at *
            generalize x0.heap.size = lb at *
            have zl : lb < x1.heap.size := World.block_lt_of_cell? _ _ q1
            (refine wpAnyH_take (i := 4) (v := ?_) rfl (by kernel_rfl) (by kernel_rfl) (by kernel_rfl) (fun _ _ _ h => h) (Or.inl ⟨by rfl, ?_⟩) (by assumption) ?_; rotate_left; (focus (intro w hSw; (try dsimp only at hSw); go_simp; try with_reducible rfl)); try simp only [Act.put, List.getElem_toArray, List.getElem_cons_zero, List.getElem_cons_succ, List.setIfInBounds_toArray, List.set_cons_zero, List.set_cons_succ])
            refine wpAnyH_ready (rs := [5, 10]) (by kernel_rfl) (by simp) ?_
            refine AllReadyH.cons rfl (fun K hK => ?_) (AllReadyH.cons rfl (fun K hK => ?_) AllReadyH.nil)
            · go_simp
              refine hK.out _ _ hHeld (fun hHeld2 => ?_)
              clear hK K hHeld
              have hHeld := hHeld2
              clear hHeld2
              try simp only [Act.put, List.getElem_toArray, List.getElem_cons_zero, List.getElem_cons_succ, List.setIfInBounds_toArray, List.set_cons_zero, List.set_cons_succ]
              clear q1 zl
              refine wpAnyH_ready (rs := [10]) (by kernel_rfl) (by simp) ?_
              refine AllReadyH.cons rfl (fun K hK => ?_) AllReadyH.nil
              · go_simp
                go_at_call 67
                (with_reducible refine (HDE.out _ (GW1.out.trans HGc.out)).mono ?_)
                rintro e x3 ⟨rfl, g5⟩
                try go_wp2_with fail
                replace HGc := Lib.hid (HGc.out.trans g5)
                replace HSY := Lib.hid (HSY.out.gr g5)
                replace HEB := Lib.hid (blk_gr g5 HEB.out)
                clear g5
                refine hK.out _ _ (HS.out _ HEB.out) (fun hHeld2 => ?_)
                clear hK K hHeld
                have hHeld := hHeld2
                clear hHeld2
                try simp only [Act.put, List.getElem_toArray, List.getElem_cons_zero, List.getElem_cons_succ, List.setIfInBounds_toArray, List.set_cons_zero, List.set_cons_succ]
                refine wpAnyH_ready (rs := [11]) (by kernel_rfl) (by simp) ?_
                refine AllReadyH.cons rfl (fun K hK => ?_) AllReadyH.nil
                · go_simp
                  refine hK.out _ _ (HS.out _ (blk_gr ((Gr.refl _).alloc _) HEB.out)) (fun hHeld2 => ?_)
                  clear hK K hHeld
                  have hHeld := hHeld2
                  clear hHeld2
                  try simp only [Act.put, List.getElem_toArray, List.getElem_cons_zero, List.getElem_cons_succ, List.setIfInBounds_toArray, List.set_cons_zero, List.set_cons_succ]
                  refine wpAnyH_ready (rs := [12]) (by kernel_rfl) (by simp) ?_
                  refine AllReadyH.cons rfl (fun K hK => ?_) AllReadyH.nil
                  · go_simp
                    go_at_call 69
                    (with_reducible refine (HSAY.out _ _ rfl HGc.out HSY.out).mono ?_)
                    rintro e w6 ⟨rfl, g6, h6, k6⟩
                    try go_wp2_with fail
                    refine hK.out _ _ (HS.out _ (k6.2 _ _ _ (blk_gr ((Gr.refl _).alloc _) HEB.out) (by decide) hebn)) (fun hHeld2 => ?_)
                    clear hK K hHeld
                    have hHeld := hHeld2
                    clear hHeld2
                    try simp only [Act.put, List.getElem_toArray, List.getElem_cons_zero, List.getElem_cons_succ, List.setIfInBounds_toArray, List.set_cons_zero, List.set_cons_succ]
                    refine wpAnyH_done (by kernel_rfl) ?_ _
                    go_wp2_with fail
                    go_roundw
                    case rel => exact ⟨k + 1, by go_num, hlt, g6, h6⟩
                    case measure => simp [intOf]; omega
            · go_simp
              go_at_call 67
              (with_reducible refine (HDE.out _ (GW1.out.trans HGc.out)).mono ?_)
              rintro e x6 ⟨rfl, g5⟩
              try go_wp2_with fail
              replace HGc := Lib.hid (HGc.out.trans g5)
              replace HSY := Lib.hid (HSY.out.gr g5)
              replace HEB := Lib.hid (blk_gr g5 HEB.out)
              replace q1 := (g5.cell _ _ zl).trans q1
              replace zl := Nat.lt_of_lt_of_le zl g5.size
              clear g5
              refine hK.out _ _ (HS.out _ HEB.out) (fun hHeld2 => ?_)
              clear hK K hHeld
              have hHeld := hHeld2
              clear hHeld2
              try simp only [Act.put, List.getElem_toArray, List.getElem_cons_zero, List.getElem_cons_succ, List.setIfInBounds_toArray, List.set_cons_zero, List.set_cons_succ]
              refine wpAnyH_ready (rs := [5]) (by kernel_rfl) (by simp) ?_
              refine AllReadyH.cons rfl (fun K hK => ?_) AllReadyH.nil
              · go_simp
                refine hK.out _ _ hHeld (fun hHeld2 => ?_)
                clear hK K hHeld
                have hHeld := hHeld2
                clear hHeld2
                try simp only [Act.put, List.getElem_toArray, List.getElem_cons_zero, List.getElem_cons_succ, List.setIfInBounds_toArray, List.set_cons_zero, List.set_cons_succ]
                clear q1 zl
                refine wpAnyH_ready (rs := [11]) (by kernel_rfl) (by simp) ?_
                refine AllReadyH.cons rfl (fun K hK => ?_) AllReadyH.nil
                · go_simp
                  refine hK.out _ _ (HS.out _ (blk_gr ((Gr.refl _).alloc _) HEB.out)) (fun hHeld2 => ?_)
                  clear hK K hHeld
                  have hHeld := hHeld2
                  clear hHeld2
                  try simp only [Act.put, List.getElem_toArray, List.getElem_cons_zero, List.getElem_cons_succ, List.setIfInBounds_toArray, List.set_cons_zero, List.set_cons_succ]
                  refine wpAnyH_ready (rs := [12]) (by kernel_rfl) (by simp) ?_
                  refine AllReadyH.cons rfl (fun K hK => ?_) AllReadyH.nil
                  · go_simp
                    go_at_call 69
                    (with_reducible refine (HSAY.out _ _ rfl HGc.out HSY.out).mono ?_)
                    rintro e w6 ⟨rfl, g6, h6, k6⟩
                    try go_wp2_with fail
                    refine hK.out _ _ (HS.out _ (k6.2 _ _ _ (blk_gr ((Gr.refl _).alloc _) HEB.out) (by decide) hebn)) (fun hHeld2 => ?_)
                    clear hK K hHeld
                    have hHeld := hHeld2
                    clear hHeld2
                    try simp only [Act.put, List.getElem_toArray, List.getElem_cons_zero, List.getElem_cons_succ, List.setIfInBounds_toArray, List.set_cons_zero, List.set_cons_succ]
                    refine wpAnyH_done (by kernel_rfl) ?_ _
                    go_wp2_with fail
                    go_roundw
                    case rel => exact ⟨k + 1, by go_num, hlt, g6, h6⟩
                    case measure => simp [intOf]; omega
          · go_simp
            go_at_call 67
            (with_reducible refine (HDE.out _ (GW1.out.trans HGc.out)).mono ?_)
            rintro e x10 ⟨rfl, g5⟩
            try go_wp2_with fail
            replace HGc := Lib.hid (HGc.out.trans g5)
            replace HSY := Lib.hid (HSY.out.gr g5)
            replace HEB := Lib.hid (blk_gr g5 HEB.out)
            clear g5
            refine hK.out _ _ (HS.out _ HEB.out) (fun hHeld2 => ?_)
            clear hK K hHeld
            have hHeld := hHeld2
            clear hHeld2
            try simp only [Act.put, List.getElem_toArray, List.getElem_cons_zero, List.getElem_cons_succ, List.setIfInBounds_toArray, List.set_cons_zero, List.set_cons_succ]
            refine wpAnyH_ready (rs := [1]) (by kernel_rfl) (by simp) ?_
            refine AllReadyH.cons rfl (fun K hK => ?_) AllReadyH.nil
            · go_simp
              refine hK.out _ _ (HS.out _ (blk_gr ((Gr.refl _).alloc _) HEB.out)) (fun hHeld2 => ?_)
              clear hK K hHeld
              have hHeld := hHeld2
              clear hHeld2
              try simp only [Act.put, List.getElem_toArray, List.getElem_cons_zero, List.getElem_cons_succ, List.setIfInBounds_toArray, List.set_cons_zero, List.set_cons_succ]
              have GA : Gr x10 (x10.alloc (.cells #[.string ⟨#[]⟩, .string ⟨#[116, 114, 97, 99, 107]⟩, .string ⟨#[112, 111, 105, 110, 116, 115]⟩, .string ⟨#[99, 114, 111, 115, 115]⟩] 9)) := (Gr.refl _).alloc _
              have q1 : (x10.alloc (.cells #[.string ⟨#[]⟩, .string ⟨#[116, 114, 97, 99, 107]⟩, .string ⟨#[112, 111, 105, 110, 116, 115]⟩, .string ⟨#[99, 114, 111, 115, 115]⟩] 9)).cell? ⟨x10.heap.size, 3, none⟩ = some (.string ⟨#[99, 114, 111, 115, 115]⟩) := by rw [World.cell?_alloc_mark]; rfl
              replace HGc := Lib.hid (HGc.out.trans GA)
              replace HSY := Lib.hid (HSY.out.gr GA)
              replace HEB := Lib.hid (blk_gr GA HEB.out)
              clear GA
              generalize (x10.alloc (.cells #[.string ⟨#[]⟩, .string ⟨#[116, 114, 97, 99, 107]⟩, .string ⟨#[112, 111, 105, 110, 116, 115]⟩, .string ⟨#[99, 114, 111, 115, 115]⟩] 9)) = x11 at *
              generalize x10.heap.size = lb at *
              have zl : lb < x11.heap.size := World.block_lt_of_cell? _ _ q1
              (refine wpAnyH_take (i := 4) (v := ?_) rfl (by kernel_rfl) (by kernel_rfl) (by kernel_rfl) (fun _ _ _ h => h) (Or.inl ⟨by rfl, ?_⟩) (by assumption) ?_; rotate_left; (focus (intro w hSw; (try dsimp only at hSw); go_simp; try with_reducible rfl)); try simp only [Act.put, List.getElem_toArray, List.getElem_cons_zero, List.getElem_cons_succ, List.setIfInBounds_toArray, List.set_cons_zero, List.set_cons_succ])
              refine wpAnyH_ready (rs := [5]) (by kernel_rfl) (by simp) ?_
              refine AllReadyH.cons rfl (fun K hK => ?_) AllReadyH.nil
              · go_simp
                refine hK.out _ _ hHeld (fun hHeld2 => ?_)
                clear hK K hHeld
                have hHeld := hHeld2
                clear hHeld2
                try simp only [Act.put, List.getElem_toArray, List.getElem_cons_zero, List.getElem_cons_succ, List.setIfInBounds_toArray, List.set_cons_zero, List.set_cons_succ]
                clear q1 zl
                refine wpAnyH_ready (rs := [11]) (by kernel_rfl) (by simp) ?_
                refine AllReadyH.cons rfl (fun K hK => ?_) AllReadyH.nil
                · go_simp
                  refine hK.out _ _ (HS.out _ (blk_gr ((Gr.refl _).alloc _) HEB.out)) (fun hHeld2 => ?_)
                  clear hK K hHeld
                  have hHeld := hHeld2
                  clear hHeld2
                  try simp only [Act.put, List.getElem_toArray, List.getElem_cons_zero, List.getElem_cons_succ, List.setIfInBounds_toArray, List.set_cons_zero, List.set_cons_succ]
                  refine wpAnyH_ready (rs := [12]) (by kernel_rfl) (by simp) ?_
                  refine AllReadyH.cons rfl (fun K hK => ?_) AllReadyH.nil
                  · go_simp
                    go_at_call 69
                    (with_reducible refine (HSAY.out _ _ rfl HGc.out HSY.out).mono ?_)
                    rintro e w6 ⟨rfl, g6, h6, k6⟩
                    try go_wp2_with fail
                    refine hK.out _ _ (HS.out _ (k6.2 _ _ _ (blk_gr ((Gr.refl _).alloc _) HEB.out) (by decide) hebn)) (fun hHeld2 => ?_)
                    clear hK K hHeld
                    have hHeld := hHeld2
                    clear hHeld2
                    try simp only [Act.put, List.getElem_toArray, List.getElem_cons_zero, List.getElem_cons_succ, List.setIfInBounds_toArray, List.set_cons_zero, List.set_cons_succ]
                    refine wpAnyH_done (by kernel_rfl) ?_ _
                    go_wp2_with fail
                    go_roundw
                    case rel => exact ⟨k + 1, by go_num, hlt, g6, h6⟩
                    case measure => simp [intOf]; omega
        · subst h4
          have HSAY : Hid (∀ w' gg, gg = w'.heap.size → Gr w1 w' → SayS w1.heap.size (w1.heap.size + 1) w' (rowsN P (1 + k)) → Calls Tryz.prog 69 #[.slice (some ⟨gg, 0, none⟩) 2 2, .pointer (some ⟨w1.heap.size, 0, none⟩)] (w'.alloc (.cells #[.string ⟨#[103, 97, 116, 101]⟩, .string nm] 9)) fun e w'' => e = .returned (.tuple #[]) ∧ Gr w1 w'' ∧ SayS w1.heap.size (w1.heap.size + 1) w'' (rowsN P (1 + (k + 1))) ∧ Kept w1.heap.size (w'.alloc (.cells #[.string ⟨#[103, 97, 116, 101]⟩, .string nm] 9)) w'') := hHSAY [bGateE, nm] rfl (by simp) (by simp)
          clear hHSAY
          go_wp2_with (first | (go_at_call 69; (with_reducible refine (HSAY.out _ _ rfl HGc.out HSY.out).mono ?_); rintro e w6' ⟨rfl, g6', h6', k6⟩) | fail)
          go_roundw
          case rel => exact ⟨k + 1, by go_num, hlt, g6', h6'⟩
          case measure => simp [intOf]; omega
      have hk1 : ¬ (k : Int) < (P.es.length : Int) := by omega
      obtain rfl : k = P.es.length := by omega
      obtain ⟨zb, p0, p1, p2, p3, p4, p5, p6, p7, p8⟩ := HPX.out _ (g)
      go_wp2_with fail
      clear zb p0 p1 p2 p3 p4 p5 p6 p7 p8 hk hlt hk1
      go_loopw [11, 77] (fun _ x wr => ∃ k : Nat, x = .int .i64 k ∧ k ≤ P.js.length ∧ Gr w1 wr ∧ SayS w1.heap.size (w1.heap.size + 1) wr (rowsN P (1 + P.es.length + k))) (fun _ x _ => P.js.length - (intOf x).toNat)
      case atStart => exact ⟨0, rfl, Nat.zero_le _, g, hsy⟩
      case round =>
        clear gw g hsy
        obtain ⟨k, rfl, hk, g, hsy⟩ := hrel
        have gw := GW1.out.trans g
        by_cases hlt : k < P.js.length
        · have hk1 : (k : Int) < (P.js.length : Int) := by omega
          obtain ⟨bb, o, hs, z, y0, y1, y2, y3⟩ := IsJns.at (H2.out.gr gw) k hlt
          subst hs
          have hwe := S2.out _ (List.getElem_mem hlt)
          have hrw := rowsN_succ (rowsT_j (P := P) hlt)
          generalize P.js[k] = x at y0 y1 y2 y3 hwe hrw
          have HTA := Lib.hid (HTD.out x.a)
          have HTB := Lib.hid (HTD.out x.b)
          have hwj : wordsJ P x = [bJoin, toldT P x.a, toldT P x.b] := rfl
          generalize toldT P x.a = ta at HTA hwj
          generalize toldT P x.b = tb at HTB hwj
          have hlen := rowsN_len P (1 + P.es.length + k)
          have HSAY : Hid (∀ w', Gr w1 w' → SayS w1.heap.size (w1.heap.size + 1) w' (rowsN P (1 + P.es.length + k)) → Calls Tryz.prog 69 #[.slice (some ⟨w'.heap.size, 0, none⟩) 3 3, .pointer (some ⟨w1.heap.size, 0, none⟩)] (w'.alloc (.cells #[.string ⟨#[106, 111, 105, 110]⟩, .string ta, .string tb] 9)) fun e w'' => e = .returned (.tuple #[]) ∧ Gr w1 w'' ∧ SayS w1.heap.size (w1.heap.size + 1) w'' (rowsN P (1 + P.es.length + (k + 1))) ∧ Kept w1.heap.size (w'.alloc (.cells #[.string ⟨#[106, 111, 105, 110]⟩, .string ta, .string tb] 9)) w'') := fun w' g h => by
            have := say_lit (w0 := w1) [bJoin, ta, tb] hbw g h (by simp) (by rw [← hwj]; omega) (by simp) (by omega)
            rw [← hwj, ← hrw, hwj] at this
            exact this
          obtain ⟨⟨ae, ax⟩, ⟨be, bx⟩⟩ := x
          dsimp only at y0 y1 y2 y3 HTA HTB
          have hebn : wr.heap.size ≠ w1.heap.size := by have := hsy.2.1; omega
          have gq : Gr wr (wr.alloc (.cells #[.int .i64 ae, .int .i64 ax, .int .i64 be, .int .i64 bx] 82)) := (Gr.refl _).alloc _
          have hHEB : (wr.alloc (.cells #[.int .i64 ae, .int .i64 ax, .int .i64 be, .int .i64 bx] 82)).heap[wr.heap.size]? = some (.cells #[.int .i64 ae, .int .i64 ax, .int .i64 be, .int .i64 bx] 82) := heap_alloc_new wr _
          clear hwe hrw hlen hwj
          go_upto_region 20 with fail
          have HGc := Lib.hid ((g.trans gq).drew)
          have HSY := Lib.hid (hsy.gr gq.drew)
          have HEB := Lib.hid (blk_gr ((Gr.refl _).drew) hHEB)
          clear hHEB gq hsy y0 y1 y2 y3
          generalize wr.alloc (.cells #[.int .i64 ae, .int .i64 ax, .int .i64 be, .int .i64 bx] 82) = wq at *
          generalize wr.heap.size = eb at *
          have HS : Hid (∀ w', Gr w1 w' → w'.heap[eb]? = some (.cells #[.int .i64 ae, .int .i64 ax, .int .i64 be, .int .i64 bx] 82) → w'.cell? ⟨w.heap.size, 0, none⟩ = some (.slice a1 P.es.length c1) ∧ w'.cell? ⟨w.heap.size, 1, none⟩ = some (.slice (some ⟨bb, o, none⟩) P.js.length c2) ∧ w'.cell? ⟨w.heap.size, 2, none⟩ = some (.slice a3 P.ss.length c3) ∧ w'.cell? ⟨w.heap.size, 3, none⟩ = some (.slice a4 P.ls.length c4) ∧ w'.cell? ⟨w.heap.size, 4, none⟩ = some (.int .i64 P.top) ∧ w'.cell? ⟨w.heap.size, 5, none⟩ = some (.int .i64 P.brake) ∧ w'.cell? ⟨w.heap.size, 6, none⟩ = some (.int .i64 P.margin) ∧ w'.cell? ⟨w.heap.size, 7, none⟩ = some (.int .i64 P.throw) ∧ w'.cell? ⟨w.heap.size, 8, none⟩ = some (.bool P.hard) ∧ w'.cell? ⟨eb, 0, none⟩ = some (.int .i64 ae) ∧ w'.cell? ⟨eb, 1, none⟩ = some (.int .i64 ax) ∧ w'.cell? ⟨eb, 2, none⟩ = some (.int .i64 be) ∧ w'.cell? ⟨eb, 3, none⟩ = some (.int .i64 bx)) := fun w' g h => by
            obtain ⟨zb, p0, p1, p2, p3, p4, p5, p6, p7, p8⟩ := HPX.out _ g
            obtain ⟨q0, q1, q2, q3⟩ := four_at4 w' eb _ _ _ _ _ h
            exact ⟨p0, p1, p2, p3, p4, p5, p6, p7, p8, q0, q1, q2, q3⟩
          go_region_held3 (fun w' => w'.cell? ⟨w.heap.size, 0, none⟩ = some (.slice a1 P.es.length c1) ∧ w'.cell? ⟨w.heap.size, 1, none⟩ = some (.slice (some ⟨bb, o, none⟩) P.js.length c2) ∧ w'.cell? ⟨w.heap.size, 2, none⟩ = some (.slice a3 P.ss.length c3) ∧ w'.cell? ⟨w.heap.size, 3, none⟩ = some (.slice a4 P.ls.length c4) ∧ w'.cell? ⟨w.heap.size, 4, none⟩ = some (.int .i64 P.top) ∧ w'.cell? ⟨w.heap.size, 5, none⟩ = some (.int .i64 P.brake) ∧ w'.cell? ⟨w.heap.size, 6, none⟩ = some (.int .i64 P.margin) ∧ w'.cell? ⟨w.heap.size, 7, none⟩ = some (.int .i64 P.throw) ∧ w'.cell? ⟨w.heap.size, 8, none⟩ = some (.bool P.hard) ∧ w'.cell? ⟨eb, 0, none⟩ = some (.int .i64 ae) ∧ w'.cell? ⟨eb, 1, none⟩ = some (.int .i64 ax) ∧ w'.cell? ⟨eb, 2, none⟩ = some (.int .i64 be) ∧ w'.cell? ⟨eb, 3, none⟩ = some (.int .i64 bx)) (first | exact HS.out _ HGc.out HEB.out | exact HS.out _ (HGc.out.alloc _) (blk_gr ((Gr.refl _).alloc _) HEB.out) | exact HS.out _ g6 (k6.2 _ _ _ (blk_gr ((Gr.refl _).alloc _) HEB.out) (by decide) hebn)) (first | (go_at_call 36; first | (with_reducible refine (HTA.out _ (GW1.out.trans HGc.out)).mono ?_; rintro e w5 ⟨rfl, g5⟩; replace HGc := Lib.hid (HGc.out.trans g5); replace HSY := Lib.hid (HSY.out.gr g5); replace HEB := Lib.hid (blk_gr g5 HEB.out)) | (with_reducible refine (HTB.out _ (GW1.out.trans HGc.out)).mono ?_; rintro e w5 ⟨rfl, g5⟩; replace HGc := Lib.hid (HGc.out.trans g5); replace HSY := Lib.hid (HSY.out.gr g5); replace HEB := Lib.hid (blk_gr g5 HEB.out))) | (go_at_call 69; (with_reducible refine (HSAY.out _ HGc.out HSY.out).mono ?_); rintro e w6 ⟨rfl, g6, h6, k6⟩))
          go_wp2_with fail
          go_roundw
          case rel => exact ⟨k + 1, by go_num, hlt, g6, h6⟩
          case measure => simp [intOf]; omega
        have hk1 : ¬ (k : Int) < (P.js.length : Int) := by omega
        obtain rfl : k = P.js.length := by omega
        obtain ⟨zb, p0, p1, p2, p3, p4, p5, p6, p7, p8⟩ := HPX.out _ (g)
        go_wp2_with fail
        clear zb p0 p1 p2 p3 p4 p5 p6 p7 p8 hk hlt hk1
        go_loopw [13, 14, 96] (fun _ _ x wr => ∃ k : Nat, x = .int .i64 k ∧ k ≤ P.ss.length ∧ Gr w1 wr ∧ SayS w1.heap.size (w1.heap.size + 1) wr (rowsN P (1 + P.es.length + P.js.length + k))) (fun _ _ x _ => P.ss.length - (intOf x).toNat)
        case atStart => exact ⟨0, rfl, Nat.zero_le _, g, hsy⟩
        case round =>
          clear gw g hsy
          obtain ⟨k, rfl, hk, g, hsy⟩ := hrel
          have gw := GW1.out.trans g
          by_cases hlt : k < P.ss.length
          · have hk1 : (k : Int) < (P.ss.length : Int) := by omega
            obtain ⟨bb, o, hs, z, y0, y1, y2, y3⟩ := IsSgs.at (H3.out.gr gw) k hlt
            subst hs
            have hwe := S3.out _ (List.getElem_mem hlt)
            have hrw := rowsN_succ (rowsT_s (P := P) hlt)
            generalize P.ss[k] = x at y0 y1 y2 y3 hwe hrw
            have HTA := Lib.hid (HTD.out x.at_)
            have hwj : wordsG P x = [bSignal, x.n, toldT P x.at_] ++ (if x.auto = true then [bAuto] else []) := rfl
            have hlen := rowsN_len P (1 + P.es.length + P.js.length + k)
            obtain ⟨nm, ⟨ae, ax⟩, au⟩ := x
            dsimp only at y0 y1 y2 y3 HTA hwj
            generalize toldT P ⟨ae, ax⟩ = ta at HTA hwj
            have HSO : Hid (∀ (W : List ByteArray) (v : Value) (bz : Nat) (w' : World), [bSignal, nm, ta] ++ (if au = true then [bAuto] else []) = W → Gr w1 w' → SayS w1.heap.size (w1.heap.size + 1) w' (rowsN P (1 + P.es.length + P.js.length + k)) → OwnS bz w' v W → Calls Tryz.prog 69 #[v, .pointer (some ⟨w1.heap.size, 0, none⟩)] w' fun e w'' => e = .returned (.tuple #[]) ∧ Gr w1 w'' ∧ SayS w1.heap.size (w1.heap.size + 1) w'' (rowsN P (1 + P.es.length + P.js.length + (k + 1)))) := fun W v bz w' hW g h ho => by
              have hW2 : wordsG P ⟨nm, ⟨ae, ax⟩, au⟩ = W := hwj.trans hW
              have := say_own (w0 := w1) W hbw g h ho (by rw [← hW]; simp) (by rw [← hW2]; omega) (by rw [← hW]; cases au <;> simp) (by omega)
              rw [← hW2, ← hrw] at this
              exact this.mono fun e w2 hh => ⟨hh.1, hh.2.1, hh.2.2.1⟩
            have hebn : wr.heap.size ≠ w1.heap.size := by have := hsy.2.1; omega
            have gq : Gr wr (wr.alloc (.cells #[.string nm, .int .i64 ae, .int .i64 ax, .bool au] 84)) := (Gr.refl _).alloc _
            have hHEB : (wr.alloc (.cells #[.string nm, .int .i64 ae, .int .i64 ax, .bool au] 84)).heap[wr.heap.size]? = some (.cells #[.string nm, .int .i64 ae, .int .i64 ax, .bool au] 84) := heap_alloc_new wr _
            clear hwe hrw hlen hwj
            go_upto_region 25 with fail
            have HGc := Lib.hid ((g.trans gq).drew)
            have HSY := Lib.hid (hsy.gr gq.drew)
            have HEB := Lib.hid (blk_gr ((Gr.refl _).drew) hHEB)
            clear hHEB gq hsy y0 y1 y2 y3
            generalize wr.alloc (.cells #[.string nm, .int .i64 ae, .int .i64 ax, .bool au] 84) = wq at *
            generalize wr.heap.size = eb at *
            have HS : Hid (∀ w', Gr w1 w' → w'.heap[eb]? = some (.cells #[.string nm, .int .i64 ae, .int .i64 ax, .bool au] 84) → w'.cell? ⟨w.heap.size, 0, none⟩ = some (.slice a1 P.es.length c1) ∧ w'.cell? ⟨w.heap.size, 1, none⟩ = some (.slice a2 P.js.length c2) ∧ w'.cell? ⟨w.heap.size, 2, none⟩ = some (.slice (some ⟨bb, o, none⟩) P.ss.length c3) ∧ w'.cell? ⟨w.heap.size, 3, none⟩ = some (.slice a4 P.ls.length c4) ∧ w'.cell? ⟨w.heap.size, 4, none⟩ = some (.int .i64 P.top) ∧ w'.cell? ⟨w.heap.size, 5, none⟩ = some (.int .i64 P.brake) ∧ w'.cell? ⟨w.heap.size, 6, none⟩ = some (.int .i64 P.margin) ∧ w'.cell? ⟨w.heap.size, 7, none⟩ = some (.int .i64 P.throw) ∧ w'.cell? ⟨w.heap.size, 8, none⟩ = some (.bool P.hard) ∧ w'.cell? ⟨eb, 0, none⟩ = some (.string nm) ∧ w'.cell? ⟨eb, 1, none⟩ = some (.int .i64 ae) ∧ w'.cell? ⟨eb, 2, none⟩ = some (.int .i64 ax) ∧ w'.cell? ⟨eb, 3, none⟩ = some (.bool au)) := fun w' g h => by
              obtain ⟨zb, p0, p1, p2, p3, p4, p5, p6, p7, p8⟩ := HPX.out _ g
              obtain ⟨q0, q1, q2, q3⟩ := four_at4 w' eb _ _ _ _ _ h
              exact ⟨p0, p1, p2, p3, p4, p5, p6, p7, p8, q0, q1, q2, q3⟩
            go_region_held3 (fun w' => w'.cell? ⟨w.heap.size, 0, none⟩ = some (.slice a1 P.es.length c1) ∧ w'.cell? ⟨w.heap.size, 1, none⟩ = some (.slice a2 P.js.length c2) ∧ w'.cell? ⟨w.heap.size, 2, none⟩ = some (.slice (some ⟨bb, o, none⟩) P.ss.length c3) ∧ w'.cell? ⟨w.heap.size, 3, none⟩ = some (.slice a4 P.ls.length c4) ∧ w'.cell? ⟨w.heap.size, 4, none⟩ = some (.int .i64 P.top) ∧ w'.cell? ⟨w.heap.size, 5, none⟩ = some (.int .i64 P.brake) ∧ w'.cell? ⟨w.heap.size, 6, none⟩ = some (.int .i64 P.margin) ∧ w'.cell? ⟨w.heap.size, 7, none⟩ = some (.int .i64 P.throw) ∧ w'.cell? ⟨w.heap.size, 8, none⟩ = some (.bool P.hard) ∧ w'.cell? ⟨eb, 0, none⟩ = some (.string nm) ∧ w'.cell? ⟨eb, 1, none⟩ = some (.int .i64 ae) ∧ w'.cell? ⟨eb, 2, none⟩ = some (.int .i64 ax) ∧ w'.cell? ⟨eb, 3, none⟩ = some (.bool au)) (first | exact HS.out _ HGc.out HEB.out | exact HS.out _ (HGc.out.alloc _) (blk_gr ((Gr.refl _).alloc _) HEB.out)) (first | (go_at_call 36; (with_reducible refine (HTA.out _ (GW1.out.trans HGc.out)).mono ?_; rintro e w5 ⟨rfl, g5⟩; replace HGc := Lib.hid (HGc.out.trans g5); replace HSY := Lib.hid (HSY.out.gr g5); replace HEB := Lib.hid (blk_gr g5 HEB.out))))
            have gL : Gr w5 (w5.alloc (.cells #[.string ⟨#[115, 105, 103, 110, 97, 108]⟩, .string nm, .string ta] 9)) := (Gr.refl _).alloc _
            have hOW : OwnS w5.heap.size (w5.alloc (.cells #[.string ⟨#[115, 105, 103, 110, 97, 108]⟩, .string nm, .string ta] 9)) (.slice (some ⟨w5.heap.size, 0, none⟩) 3 3) [bSignal, nm, ta] := own_lit (Nat.le_refl _) [bSignal, nm, ta] (by simp) (by simp)
            have HOW := Lib.hid hOW
            have HG5 := Lib.hid gL
            have HE5 := blk_gr gL HEB.out
            obtain ⟨-, -, -, x3⟩ := four_at4 _ eb _ _ _ _ _ HE5
            have zx : eb < (w5.alloc (.cells #[.string ⟨#[115, 105, 103, 110, 97, 108]⟩, .string nm, .string ta] 9)).heap.size := World.block_lt_of_cell? _ _ x3
            have HGP := HGc
            replace HGc := Lib.hid (HGc.out.trans gL)
            have HSL := Lib.hid (HSY.out.gr gL)
            clear hOW gL HE5 HS HEB g5
            generalize (w5.alloc (.cells #[.string ⟨#[115, 105, 103, 110, 97, 108]⟩, .string nm, .string ta] 9)) = wl at *
            have hbq : ∃ bz, w5.heap.size = bz := ⟨_, rfl⟩
            obtain ⟨bz, hbz⟩ := hbq
            rw [hbz] at HOW ⊢
            have HBZ := Lib.hid (Nat.le_of_eq hbz)
            clear hbz
            cases au
            · have hW : [bSignal, nm, ta] ++ (if false = true then [bAuto] else []) = [bSignal, nm, ta] := rfl
              go_wp2_with (first | (go_at_call 69; (with_reducible refine (HSO.out _ _ _ _ hW HGc.out HSL.out HOW.out).mono ?_); rintro e w6 ⟨rfl, g6, h6⟩) | fail)
              go_roundw
              case rel => exact ⟨k + 1, by go_num, hlt, g6, h6⟩
              case measure => simp [intOf]; omega
            · have hW : [bSignal, nm, ta] ++ (if true = true then [bAuto] else []) = [bSignal, nm, ta, bAuto] := rfl
              obtain ⟨i0, hi0, hi1, hi2, hi3⟩ := info_parts Tryz.infoS
              have hbzl : bz ≤ wl.heap.size := by
                have := own_lt HOW.out bz rfl
                omega
              go_wp2_with (first | (at_builtin; refine wpList_append_own _ rfl _ _ 57 rfl bz 9 i0 (.string ByteArray.empty) 1 16 Tryz.underlying57 hi0 hi1 hi2 hi3 rfl (by decide) _ 3 ([bSignal, nm, ta].map Value.string) rfl (own_gr HOW.out ((Gr.refl _).alloc _)) ⟨wl.heap.size, 0, none⟩ 1 1 [.string ⟨#[97, 117, 116, 111]⟩] rfl rfl (by exact cell_one_new _ _ _) (by simp [Value.oneCell']) (by unfold maxLen; omega) (by omega) (by simp; omega) ?_) | fail)
              intro v' w7 hown' hgrow _
              have g7 : Gr w5 w7 := Gr.grown (HG5.out.alloc _) hgrow (own_base_le HOW.out HBZ.out)
              obtain ⟨na, nc, rfl⟩ := own_form hown'
              have hO7 : OwnS bz w7 (.slice na 4 nc) [bSignal, nm, ta, bAuto] := hown'
              have HO7 := Lib.hid hO7
              have HG7 := Lib.hid (HGP.out.trans g7)
              have HSY7 := Lib.hid (HSY.out.gr g7)
              clear hown' hO7 hgrow
              go_wp2_with (first | (go_at_call 69; (with_reducible refine (HSO.out _ _ _ _ hW HG7.out HSY7.out HO7.out).mono ?_); rintro e w6 ⟨rfl, g6, h6⟩) | fail)
              go_roundw
              case rel => exact ⟨k + 1, by go_num, hlt, g6, h6⟩
              case measure => simp [intOf]; omega
          have hk1 : ¬ (k : Int) < (P.ss.length : Int) := by omega
          obtain rfl : k = P.ss.length := by omega
          obtain ⟨zb, p0, p1, p2, p3, p4, p5, p6, p7, p8⟩ := HPX.out _ (g)
          go_wp2_with fail
          clear zb p0 p1 p2 p3 p4 p5 p6 p7 p8 hk hlt hk1
          go_loopw [16, 17, 19, 119] (fun _ _ _ x wr => ∃ k : Nat, x = .int .i64 k ∧ k ≤ P.ls.length ∧ Gr w1 wr ∧ SayS w1.heap.size (w1.heap.size + 1) wr (rowsN P (1 + P.es.length + P.js.length + P.ss.length + k))) (fun _ _ _ x _ => P.ls.length - (intOf x).toNat)
          case atStart => exact ⟨0, rfl, Nat.zero_le _, g, hsy⟩
          case round =>
            clear gw g hsy
            obtain ⟨k, rfl, hk, g, hsy⟩ := hrel
            have gw := GW1.out.trans g
            by_cases hlt : k < P.ls.length
            · have hk1 : (k : Int) < (P.ls.length : Int) := by omega
              obtain ⟨bb, o, us, hs, z, y0, y1, hvu⟩ := IsLns.at (H4.out.gr gw) k hlt
              subst hs
              have hwe := S4.out _ (List.getElem_mem hlt)
              have hrw := rowsN_succ (rowsT_l (P := P) hlt)
              have hlp := line_parts HKP.out (List.getElem_mem hlt)
              generalize P.ls[k] = x at y0 y1 hvu hwe hrw hlp
              obtain ⟨nm, es⟩ := x
              obtain ⟨-, -, h40, hbd⟩ := hlp
              dsimp only at y0 y1 hvu h40 hbd
              have HBD := Lib.hid hbd
              have hwj : wordsN P ⟨nm, es⟩ = bLine :: nm :: es.map (fun e => (P.es.getD e.toNat default).n) := rfl
              have hlen := rowsN_len P (1 + P.es.length + P.js.length + P.ss.length + k)
              have HSO : Hid (∀ (v : Value) (bz : Nat) (w' : World), Gr w1 w' → SayS w1.heap.size (w1.heap.size + 1) w' (rowsN P (1 + P.es.length + P.js.length + P.ss.length + k)) → OwnS bz w' v (bLine :: nm :: es.map (fun e => (P.es.getD e.toNat default).n)) → Calls Tryz.prog 69 #[v, .pointer (some ⟨w1.heap.size, 0, none⟩)] w' fun e w'' => e = .returned (.tuple #[]) ∧ Gr w1 w'' ∧ SayS w1.heap.size (w1.heap.size + 1) w'' (rowsN P (1 + P.es.length + P.js.length + P.ss.length + (k + 1)))) := fun v bz w' g h ho => by
                have := say_own (w0 := w1) _ hbw g h ho (by simp) (by rw [← hwj]; omega) (by simp; omega) (by omega)
                rw [← hwj, ← hrw] at this
                exact this.mono fun e w2 hh => ⟨hh.1, hh.2.1, hh.2.2.1⟩
              have HVU := Lib.hid hvu
              obtain ⟨ua, uc, rfl, -, -⟩ := hvu
              rw [List.length_map] at HVU y1
              have gq : Gr wr (wr.alloc (.cells #[.string nm, .slice ua es.length uc] 86)) := (Gr.refl _).alloc _
              clear hwe hrw hlen hwj hbd
              go_upto_region 33 with fail
              obtain ⟨x0, x1⟩ := two_at (wr.alloc (.cells #[.string nm, .slice ua es.length uc] 86)) wr.heap.size _ _ _ (heap_alloc_new wr _)
              have HGc := Lib.hid (g.trans gq)
              have HSY := Lib.hid (hsy.gr gq)
              have HGW := Lib.hid (gw.trans gq)
              have HGQ := Lib.hid gq
              clear gq hsy y0 y1
              generalize wr.alloc (.cells #[.string nm, .slice ua es.length uc] 86) = wq at *
              generalize wr.heap.size = eb at *
              have zx : eb < wq.heap.size := World.block_lt_of_cell? wq _ x0
              go_upto_region 34 with fail
              have gL : Gr wq (wq.alloc (.cells #[.string ⟨#[108, 105, 110, 101]⟩, .string nm] 9)) := (Gr.refl _).alloc _
              have hOW : OwnS wq.heap.size (wq.alloc (.cells #[.string ⟨#[108, 105, 110, 101]⟩, .string nm] 9)) (.slice (some ⟨wq.heap.size, 0, none⟩) 2 2) [bLine, nm] := own_lit (Nat.le_refl _) [bLine, nm] (by simp) (by simp)
              have HOW := Lib.hid hOW
              replace x1 := (gL.cell _ _ zx).trans x1
              have zl : eb < (wq.alloc (.cells #[.string ⟨#[108, 105, 110, 101]⟩, .string nm] 9)).heap.size := Nat.lt_of_lt_of_le zx gL.size
              have HG5 := Lib.hid gL
              clear hOW gL x0 zx
              generalize (wq.alloc (.cells #[.string ⟨#[108, 105, 110, 101]⟩, .string nm] 9)) = wl at *
              go_wp2_with fail
              obtain ⟨i0, hi0, hi1, hi2, hi3⟩ := info_parts Tryz.infoS
              clear x1
              go_loopw [17, 19, 129] (fun v _ y wi => ∃ j : Nat, y = .int .i64 j ∧ j ≤ es.length ∧ Gr wq wi ∧ OwnS wq.heap.size wi v (bLine :: nm :: (es.take j).map (fun e => (P.es.getD e.toNat default).n))) (fun _ _ y _ => es.length - (intOf y).toNat)
              case atStart => exact ⟨0, rfl, Nat.zero_le _, HG5.out, HOW.out⟩
              case round =>
                obtain ⟨j, rfl, hj, gi, ho⟩ := hrel
                have hll : (bLine :: nm :: (es.take j).map (fun e => (P.es.getD e.toNat default).n)).length = j + 2 := by simp; omega
                obtain ⟨va, vc, rfl⟩ := own_form ho
                rw [hll]
                by_cases hlj : j < es.length
                · have hj1 : (j : Int) < (es.length : Int) := by omega
                  obtain ⟨b3, o3, hs3, z3, u0⟩ := ints_at (HVU.out.gr (HGQ.out.trans gi)) j hlj
                  subst hs3
                  obtain ⟨q0, q1⟩ := HBD.out _ (List.getElem_mem hlj)
                  have HM : Hid (bLine :: nm :: (es.take (j + 1)).map (fun e => (P.es.getD e.toNat default).n) = (bLine :: nm :: (es.take j).map (fun e => (P.es.getD e.toNat default).n)) ++ [(P.es.getD (es[j]).toNat default).n]) := by
                    show _ = _
                    rw [List.take_succ_eq_append_getElem hlj, List.map_append]; rfl
                  generalize es[j] = ev at u0 q0 q1 HM
                  obtain ⟨m, rfl⟩ := Int.eq_ofNat_of_zero_le q0
                  have hm : m < P.es.length := by omega
                  obtain ⟨b5, o5, hs5, z5, t0, -, -⟩ := IsEles.at (H1.out.gr (HGW.out.trans gi)) m hm
                  subst hs5
                  rw [Int.toNat_natCast, getD_at _ _ hm] at HM
                  obtain ⟨zb, p0, p1, p2, p3, p4, p5, p6, p7, p8⟩ := HPX.out _ (HGc.out.trans gi)
                  generalize P.es[m].n = en at t0 HM
                  generalize bLine :: nm :: (es.take j).map (fun e => (P.es.getD e.toNat default).n) = A at ho hll HM
                  have ho2 := ho
                  rw [hll] at ho2
                  have HO2 : Hid (wr.ownsRow wq.heap.size 9 1 (.slice va (j + 2) vc) (j + 2) (A.map Value.string)) := by
                    have h9 := ho2
                    unfold OwnS at h9
                    rw [hll] at h9
                    exact h9
                  have hzi : wq.heap.size ≤ wr.heap.size := gi.size
                  clear ho ho2
                  go_wp2_with (first | (at_builtin; refine wpList_append_own _ rfl _ _ 57 rfl wq.heap.size 9 i0 (.string ByteArray.empty) 1 16 Tryz.underlying57 hi0 hi1 hi2 hi3 rfl (by decide) _ (j + 2) (A.map Value.string) rfl (own_gr HO2.out ((Gr.refl _).alloc _)) ⟨wr.heap.size, 0, none⟩ 1 1 [.string en] rfl rfl (by exact cell_one_new _ _ _) (by simp [Value.oneCell']) (by unfold maxLen; omega) (by omega) (by simp; omega) ?_) | fail)
                  intro v' w7 hown' hgrow _
                  have g7 : Gr wq w7 := Gr.grown (gi.alloc _) hgrow HO2.out
                  rw [← hll] at hown'
                  have h8 := OwnS.snoc hown'
                  have HO8 := Lib.hid h8
                  clear hown' hgrow h8
                  go_wp2_with fail
                  go_roundw
                  case rel => exact ⟨j + 1, by go_num, hlj, g7, by rw [HM.out]; exact HO8.out⟩
                  case measure => simp [intOf]; omega
                · have hj1 : ¬ (j : Int) < (es.length : Int) := by omega
                  rw [hll] at ho
                  rw [List.take_of_length_le (show es.length ≤ j by omega)] at ho
                  have HOS := Lib.hid ho
                  have HGS := Lib.hid (HGc.out.trans gi)
                  have HSS := Lib.hid (HSY.out.gr gi)
                  clear ho
                  go_wp2_with (first | (go_at_call 69; (with_reducible refine (HSO.out _ _ _ HGS.out HSS.out HOS.out).mono ?_); rintro e w6 ⟨rfl, g6, h6⟩) | fail)
                  go_roundw
                  case rel => exact ⟨k + 1, by go_num, hlt, g6, h6⟩
                  case measure => simp [intOf]; omega
            have hk1 : ¬ (k : Int) < (P.ls.length : Int) := by omega
            obtain rfl : k = P.ls.length := by omega
            rw [rowsN_all] at hsy
            obtain ⟨-, -, ov, hoh, hoo⟩ := hsy
            have HJN := Lib.hid (join_all (b := 0) hoo (by unfold rowsT; simp) (by show (printT P).size ≤ _; omega) (by rw [rows_len]; omega))
            obtain ⟨oa, oc, rfl⟩ := own_form hoo
            have o0 := cell_of_row wr w1.heap.size 0 _ _ _ hoh
            have hpt : unl (rowsT P) = printT P := rfl
            rw [hpt, List.length_map] at HJN
            rw [List.length_map] at o0
            generalize (rowsT P).length = nl at HJN o0
            obtain ⟨T, hT⟩ : ∃ T, T = printT P := ⟨_, rfl⟩
            rw [← hT] at HJN hsz
            have HTT := Lib.hid hT
            clear hT
            have q1 : ¬ (32768 : Int) < (T.size : Int) := by omega
            have zo : w1.heap.size < wr.heap.size := World.block_lt_of_cell? wr _ o0
            clear hoh hoo hpt
            go_wp2_with (first | (go_at_call 56; (with_reducible refine (HJN.out).mono ?_); rintro e w9 ⟨rfl, g9⟩) | fail)
            go_ret2
            exact ⟨(show Ending.returned (.tuple #[.string T, .int .i64 0]) = .returned (.tuple #[.string (printT P), .int .i64 0]) from by rw [HTT.out]), gw.trans g9⟩
end Go.Proofs.YtknmngejjoohdaaGreatDoor
