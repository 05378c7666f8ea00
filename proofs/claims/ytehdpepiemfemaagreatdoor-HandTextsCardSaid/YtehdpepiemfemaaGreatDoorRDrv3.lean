/- hand.Print, the reference's PrintDriver. -/
import Derived.Test.YtehdpepiemfemaaGreatDoorRows
import Derived.Test.YtehdpepiemfemaaGreatDoorRDrv2
import Derived.Test.YtehdpepiemfemaaGreatDoorRWrd6
import Derived.Test.YtehdpepiemfemaaGreatDoorRSeeP
import Derived.Deep.Cut
namespace Go.Proofs.YtehdpepiemfemaaGreatDoor
open Go.ChangeShapes Go.WideShapes Go.ChangeAt Go.RowKit
set_option linter.unusedVariables false
set_option linter.unusedSimpArgs false
/-- the tape as a text, behind what stands -/
def tapeS (b : ByteArray) : List Int → ByteArray
  | [] => b
  | x :: t => tapeS (b ++ ⟨#[32]⟩ ++ dgs x) t
def printD (D : Drv) : ByteArray :=
  if mayD D then (if D.kind = 1 then bEager else if D.kind = 2 then bCareful else tapeS bTape D.tape) else ⟨#[]⟩
theorem tapeS_snoc : ∀ (b : ByteArray) (l : List Int) (x : Int), tapeS b (l ++ [x]) = tapeS b l ++ ⟨#[32]⟩ ++ dgs x
  | b, [], x => rfl
  | b, a :: t, x => tapeS_snoc _ t x
theorem tapeS_size : ∀ (l : List Int) (b : ByteArray), (∀ x ∈ l, -999 ≤ x ∧ x ≤ 1000) → (tapeS b l).size ≤ b.size + l.length * 1003
  | [], b, _ => by simp [tapeS]
  | a :: t, b, h => by
    have h1 := h a (List.mem_cons_self ..)
    have h2 := tapeS_size t (b ++ ⟨#[32]⟩ ++ dgs a) (fun x hx => h x (List.mem_cons_of_mem _ hx))
    have h3 := dgs_len a
    have h4 : (b ++ ⟨#[32]⟩ ++ dgs a).size = b.size + 1 + (dgs a).size := by
      rw [ByteArray.size_append, ByteArray.size_append]; rfl
    show (tapeS (b ++ ⟨#[32]⟩ ++ dgs a) t).size ≤ _
    rw [h4] at h2
    simp only [List.length_cons]
    omega
theorem join_tape : ∀ (l : List Int) (b : ByteArray), (⟨(Lib.join ((b :: l.map dgs).map (·.data.toList)) [32]).toArray⟩ : ByteArray) = tapeS b l
  | [], b => by
    show (⟨(Lib.join [b.data.toList] [32]).toArray⟩ : ByteArray) = b
    rw [Lib.join_one]
  | a :: t, b => by
    have ih := join_tape t (b ++ ⟨#[32]⟩ ++ dgs a)
    show _ = tapeS (b ++ ⟨#[32]⟩ ++ dgs a) t
    rw [← ih]
    congr 2
    show Lib.join (b.data.toList :: (dgs a).data.toList :: (t.map dgs).map (·.data.toList)) [32] = Lib.join ((b ++ ⟨#[32]⟩ ++ dgs a).data.toList :: (t.map dgs).map (·.data.toList)) [32]
    have e : (b ++ ⟨#[32]⟩ ++ dgs a).data.toList = b.data.toList ++ [32] ++ (dgs a).data.toList := by
      simp [ByteArray.data_append]
    rw [e]
    unfold Lib.join
    cases (t.map dgs).map (·.data.toList) with
    | nil => simp [List.intercalate]
    | cons c u => simp [List.intercalate, List.intersperse]
theorem mayD_all {D : Drv} (h : mayD D = true) (h3 : D.kind = 3) : (∀ x ∈ D.tape, -999 ≤ x ∧ x ≤ 1000) ∧ D.tape.length ≤ 64 := by
  rw [mayD_tape h3] at h
  simp only [Bool.and_eq_true, List.all_eq_true, decide_eq_true_eq] at h
  exact h
theorem mayD_kind {D : Drv} (h : mayD D = true) : D.kind = 1 ∨ D.kind = 2 ∨ D.kind = 3 := by
  unfold mayD at h
  split at h
  · omega
  · split at h
    · omega
    · cases h
theorem OwnS.one {w : World} {x : ByteArray} {B : Nat} (hB : B ≤ w.heap.size) : OwnS B (w.alloc (.cells #[.string x] 9)) (.slice (some ⟨w.heap.size, 0, none⟩) 1 1) [x] :=
  World.ownsRow_lit w #[.string x] 1 hB (by unfold maxLen; simp) rfl
set_option maxRecDepth 100000 in
set_option maxHeartbeats 1000000 in
theorem refPrintD_any (v : Value) (D : Drv) (w : World) (hD : IsDrv w v D) :
    Calls Tryz.prog 18 #[v] w fun e w' => e = .returned (.string (printD D)) ∧ Gr w w' := by
  obtain ⟨a, c, rfl, hd⟩ := hD
  have hD : ∀ w', Gr w w' → IsDrv w' (.agg #[.int .i64 D.kind, .slice a D.tape.length c]) D := fun w' g => ⟨a, c, rfl, hd.gr g⟩
  have hm : D.tape.length ≤ maxLen := by obtain ⟨_, _, e, hm, -⟩ := hd; simpa using hm
  unfold maxLen at hm
  have HV := Lib.hid hd
  have hall := mayD_all (D := D)
  have hkk := mayD_kind (D := D)
  have HP : Hid (printD D = if mayD D then (if D.kind = 1 then bEager else if D.kind = 2 then bCareful else tapeS bTape D.tape) else ⟨#[]⟩) := rfl
  have g0 : Gr w (w.alloc (.cells #[.int .i64 D.kind, .slice a D.tape.length c] 35)) := (Gr.refl _).alloc _
  have HMY := Lib.hid (refMayD_any _ D _ (hD _ g0))
  have HBX : Hid (∀ w', Gr (w.alloc (.cells #[.int .i64 D.kind, .slice a D.tape.length c] 35)) w' → w'.cell? ⟨w.heap.size, 0, none⟩ = some (.int .i64 D.kind) ∧ w'.cell? ⟨w.heap.size, 1, none⟩ = some (.slice a D.tape.length c) ∧ w.heap.size < w'.heap.size) := by
    intro w1 g
    have hz : w.heap.size < (w.alloc (.cells #[.int .i64 D.kind, .slice a D.tape.length c] 35)).heap.size := by simp
    exact ⟨(g.cell _ _ hz).trans (by rw [World.cell?_alloc_mark]; rfl), (g.cell _ _ hz).trans (by rw [World.cell?_alloc_mark]; rfl), Nat.lt_of_lt_of_le hz g.size⟩
  generalize printD D = R at HP ⊢
  generalize mayD D = m at HP HMY hall hkk
  obtain ⟨kind, tape⟩ := D
  unfold drvV
  dsimp only at *
  clear hD hd
  cases m
  · have HQ : Hid (R = ⟨#[]⟩) := HP.out
    clear HP hall hkk
    go_enter Tryz.func18, Tryz.ntmps18
    go_wp2_with (first | (go_at_call 10; (with_reducible refine (HMY.out).mono ?_); rintro e w1 ⟨rfl, g1⟩; obtain ⟨q0, q1, hzq⟩ := HBX.out _ g1) | fail)
    go_ret
    exact ⟨ret_str HQ.out.symm, g0.trans g1⟩
  · have HP1 : Hid (R = if kind = 1 then bEager else if kind = 2 then bCareful else tapeS bTape tape) := HP.out
    clear HP
    by_cases k1 : kind = 1
    · have HQ : Hid (R = bEager) := by show _ = _; rw [HP1.out, if_pos k1]
      subst k1
      clear HP1 hall hkk
      go_enter Tryz.func18, Tryz.ntmps18
      go_wp2_with (first | (go_at_call 10; (with_reducible refine (HMY.out).mono ?_); rintro e w1 ⟨rfl, g1⟩; obtain ⟨q0, q1, hzq⟩ := HBX.out _ g1) | fail)
      go_ret
      exact ⟨ret_str HQ.out.symm, g0.trans g1⟩
    by_cases k2 : kind = 2
    · have HQ : Hid (R = bCareful) := by show _ = _; rw [HP1.out, if_neg k1, if_pos k2]
      subst k2
      clear HP1 hall hkk
      go_enter Tryz.func18, Tryz.ntmps18
      go_wp2_with (first | (go_at_call 10; (with_reducible refine (HMY.out).mono ?_); rintro e w1 ⟨rfl, g1⟩; obtain ⟨q0, q1, hzq⟩ := HBX.out _ g1) | fail)
      go_ret
      exact ⟨ret_str HQ.out.symm, g0.trans g1⟩
    have k3 : kind = 3 := by have := hkk rfl; omega
    have HQ : Hid (R = tapeS bTape tape) := by show _ = _; rw [HP1.out, if_neg k1, if_neg k2]
    obtain ⟨hA, hlen⟩ := hall rfl k3
    have HA := Lib.hid hA
    subst k3
    clear HP1 hkk hall k1 k2 hA
    go_enter Tryz.func18, Tryz.ntmps18
    go_wp2_with (first | (go_at_call 10; (with_reducible refine (HMY.out).mono ?_); rintro e w1 ⟨rfl, g1⟩; obtain ⟨q0, q1, hzq⟩ := HBX.out _ g1) | fail)
    have gw1 := g0.trans g1
    go_loopw [3, 18] (fun o x wr => ∃ k : Nat, o = .string (tapeS bTape (tape.take k)) ∧ x = .int .i64 k ∧ k ≤ tape.length ∧ Gr w wr) (fun _ x _ => tape.length - (intOf x).toNat)
    case atStart => exact ⟨0, rfl, rfl, Nat.zero_le _, gw1⟩
    case round =>
      obtain ⟨k, rfl, rfl, hk, g⟩ := hrel
      by_cases hlt : k < tape.length
      · have hk1 : (k : Int) < (tape.length : Int) := by omega
        obtain ⟨bb, o, hs, z, y0⟩ := ints_at (HV.out.gr g) k hlt
        subst hs
        have hx := HA.out tape[k] (List.getElem_mem hlt)
        have HN : Hid (tapeS bTape (tape.take (k + 1)) = tapeS bTape (tape.take k) ++ ⟨#[32]⟩ ++ dgs tape[k]) := by
          show _ = _
          rw [List.take_succ_eq_append_getElem hlt]; exact tapeS_snoc _ _ _
        have hsz := tapeS_size (tape.take k) bTape (fun x hx => HA.out x (List.mem_of_mem_take hx))
        rw [List.length_take, Nat.min_eq_left hk] at hsz
        have hb4 : bTape.size = 4 := rfl
        generalize tapeS bTape (tape.take k) = S1 at HN hsz ⊢
        generalize tape[k] = x at y0 hx HN
        have hdl := dgs_len x
        have HD := Lib.hid (fun w' => refDigits_any x.natAbs x w' (Nat.le_refl _) (by omega) (by omega))
        have hs1 : S1.size ≤ 70000 := by omega
        have hs2 : (dgs x).size ≤ 1002 := by omega
        generalize dgs x = d at HN HD hs2 hdl
        clear hb4 hsz hdl
        have q1 : ¬ 9223372036854775807 < S1.size + 1 := by omega
        have q2 : ¬ 9223372036854775807 < S1.size + 1 + d.size := by omega
        go_wp2_with (first | (go_at_call 46; (with_reducible refine (HD.out _).mono ?_); rintro e w3 ⟨rfl, g3⟩) | fail)
        go_roundw
        case rel => exact ⟨k + 1, congrArg Value.string HN.out.symm, by go_num, hlt, g.trans g3⟩
        case measure => simp [intOf]; omega
      · have hk1 : ¬ (k : Int) < (tape.length : Int) := by omega
        have HQ2 : Hid (R = tapeS bTape (tape.take k)) := by show _ = _; rw [List.take_of_length_le (by omega)]; exact HQ.out
        go_wp2_with fail
        go_ret
        exact ⟨ret_str HQ2.out.symm, g⟩
set_option maxRecDepth 100000 in
set_option maxHeartbeats 1000000 in
theorem print_any (v : Value) (D : Drv) (w : World) (hD : IsDrv w v D) (ht : Tabs w) :
    Calls Tryz.prog 16 #[v] w fun e w' => e = .returned (.string (printD D)) ∧ Gr w w' := by
  obtain ⟨a, c, rfl, hd⟩ := hD
  have hD : ∀ w', Gr w w' → IsDrv w' (.agg #[.int .i64 D.kind, .slice a D.tape.length c]) D := fun w' g => ⟨a, c, rfl, hd.gr g⟩
  have hm : D.tape.length ≤ maxLen := by obtain ⟨_, _, e, hm, -⟩ := hd; simpa using hm
  unfold maxLen at hm
  have HV := Lib.hid hd
  have hall := mayD_all (D := D)
  have hkk := mayD_kind (D := D)
  have HP : Hid (printD D = if mayD D then (if D.kind = 1 then bEager else if D.kind = 2 then bCareful else tapeS bTape D.tape) else ⟨#[]⟩) := rfl
  have g0 : Gr w (w.alloc (.cells #[.int .i64 D.kind, .slice a D.tape.length c] 35)) := (Gr.refl _).alloc _
  have HMY := Lib.hid (hmay_any _ D _ (hD _ g0))
  have HBX : Hid (∀ w', Gr (w.alloc (.cells #[.int .i64 D.kind, .slice a D.tape.length c] 35)) w' → w'.cell? ⟨w.heap.size, 0, none⟩ = some (.int .i64 D.kind) ∧ w'.cell? ⟨w.heap.size, 1, none⟩ = some (.slice a D.tape.length c) ∧ w.heap.size < w'.heap.size) := by
    intro w1 g
    have hz : w.heap.size < (w.alloc (.cells #[.int .i64 D.kind, .slice a D.tape.length c] 35)).heap.size := by simp
    exact ⟨(g.cell _ _ hz).trans (by rw [World.cell?_alloc_mark]; rfl), (g.cell _ _ hz).trans (by rw [World.cell?_alloc_mark]; rfl), Nat.lt_of_lt_of_le hz g.size⟩
  generalize printD D = R at HP ⊢
  generalize mayD D = m at HP HMY hall hkk
  obtain ⟨kind, tape⟩ := D
  unfold drvV
  dsimp only at *
  clear hD hd
  cases m
  · have HQ : Hid (R = ⟨#[]⟩) := HP.out
    clear HP hall hkk
    go_enter Tryz.func16, Tryz.ntmps16
    go_wp2_with (first | (go_at_call 17; (with_reducible refine (HMY.out).mono ?_); rintro e w1 ⟨rfl, g1⟩; obtain ⟨q0, q1, hzq⟩ := HBX.out _ g1) | fail)
    go_ret
    exact ⟨ret_str HQ.out.symm, g0.trans g1⟩
  · have HP1 : Hid (R = if kind = 1 then bEager else if kind = 2 then bCareful else tapeS bTape tape) := HP.out
    clear HP
    by_cases k1 : kind = 1
    · have HQ : Hid (R = bEager) := by show _ = _; rw [HP1.out, if_pos k1]
      subst k1
      clear HP1 hall hkk
      go_enter Tryz.func16, Tryz.ntmps16
      go_wp2_with (first | (go_at_call 17; (with_reducible refine (HMY.out).mono ?_); rintro e w1 ⟨rfl, g1⟩; obtain ⟨q0, q1, hzq⟩ := HBX.out _ g1) | fail)
      go_ret
      exact ⟨ret_str HQ.out.symm, g0.trans g1⟩
    by_cases k2 : kind = 2
    · have HQ : Hid (R = bCareful) := by show _ = _; rw [HP1.out, if_neg k1, if_pos k2]
      subst k2
      clear HP1 hall hkk
      go_enter Tryz.func16, Tryz.ntmps16
      go_wp2_with (first | (go_at_call 17; (with_reducible refine (HMY.out).mono ?_); rintro e w1 ⟨rfl, g1⟩; obtain ⟨q0, q1, hzq⟩ := HBX.out _ g1) | fail)
      go_ret
      exact ⟨ret_str HQ.out.symm, g0.trans g1⟩
    have k3 : kind = 3 := by have := hkk rfl; omega
    have HQ : Hid (R = tapeS bTape tape) := by show _ = _; rw [HP1.out, if_neg k1, if_neg k2]
    obtain ⟨hA, hlen⟩ := hall rfl k3
    have HA := Lib.hid hA
    subst k3
    clear HP1 hkk hall k1 k2 hA
    go_enter Tryz.func16, Tryz.ntmps16
    go_wp2_with (first | (go_at_call 17; (with_reducible refine (HMY.out).mono ?_); rintro e w1 ⟨rfl, g1⟩; obtain ⟨q0, q1, hzq⟩ := HBX.out _ g1) | fail)
    have gw1 := g0.trans g1
    have hz1 : w.heap.size ≤ w1.heap.size := gw1.size
    have HO0 : Hid (OwnS w.heap.size (w1.alloc (.cells #[.string bTape] 9)) (.slice (some ⟨w1.heap.size, 0, none⟩) 1 1) [bTape]) := OwnS.one hz1
    obtain ⟨i0, hi0, hi1, hi2, hi3⟩ := info_parts Tryz.infoS
    have hww : w.heap.size < w1.heap.size := Nat.lt_of_lt_of_le (by simp) g1.size
    go_loopw [3, 19] (fun v x wr => ∃ k : Nat, x = .int .i64 k ∧ k ≤ tape.length ∧ Gr w wr ∧ OwnS w.heap.size wr v (bTape :: (tape.take k).map dgs)) (fun _ x _ => tape.length - (intOf x).toNat)
    case atStart => exact ⟨0, rfl, Nat.zero_le _, gw1.alloc _, HO0.out⟩
    case round =>
      rename_i v0 x0
      obtain ⟨k, rfl, hk, g, ho⟩ := hrel
      obtain ⟨va, vc, rfl⟩ := own_form ho
      clear HO0
      by_cases hlt : k < tape.length
      · have hk1 : (k : Int) < (tape.length : Int) := by omega
        obtain ⟨bb, o, hs, z, y0⟩ := ints_at (HV.out.gr g) k hlt
        subst hs
        have hx := HA.out tape[k] (List.getElem_mem hlt)
        have HN : Hid (bTape :: (tape.take (k + 1)).map dgs = (bTape :: (tape.take k).map dgs) ++ [dgs tape[k]]) := by
          show _ = _
          rw [List.take_succ_eq_append_getElem hlt, List.map_append]; rfl
        have hll : (bTape :: (tape.take k).map dgs).length ≤ 65 := by simp; omega
        generalize bTape :: (tape.take k).map dgs = L1 at HN ho hll
        generalize tape[k] = x at y0 hx HN
        have HDG := Lib.hid (fun w' (gt : Gr w w') => digits_word x (I64_of (by omega) (by omega)) w' (ht.gr gt))
        generalize dgs x = d at HN HDG
        have HO : Hid (wr.ownsRow w.heap.size 9 1 (.slice va L1.length vc) L1.length (L1.map Value.string)) := ho
        clear ho
        go_wp2_with (first | (go_at_call 44; (with_reducible refine (HDG.out _ g).mono ?_); rintro e w3 ⟨rfl, g3⟩; have HOz := Lib.hid (own_gr HO.out g3)) | (at_builtin; refine wpList_append_own _ rfl _ _ 78 rfl w.heap.size 9 i0 (.string ByteArray.empty) 1 16 Tryz.underlying78 hi0 hi1 hi2 hi3 rfl (by decide) _ _ _ rfl (HOz.out.alloc _) ⟨w3.heap.size, 0, none⟩ 1 1 [.string d] rfl rfl ?c1 ?c2 ?c3 ?c4 ?c5 ?_))
        case c1 => exact cell_one_new _ _ _
        case c2 => simp [Value.oneCell']
        case c3 => unfold maxLen; omega
        case c4 => omega
        case c5 => have := (g.trans g3).size; simp; omega
        intro v' w4 hown' hgrow _
        have hg1 : Gr w w4 := Gr.grown ((g.trans g3).alloc _) hgrow HO.out
        have ho1 := Lib.hid (OwnS.snoc hown')
        rw [← HN.out] at ho1
        clear hown' hgrow
        go_wp2_with fail
        go_roundw
        case rel => exact ⟨k + 1, by go_num, hlt, hg1, ho1.out⟩
        case measure => simp [intOf]; omega
      · have hk1 : ¬ (k : Int) < (tape.length : Int) := by omega
        obtain rfl : k = tape.length := by omega
        rw [List.take_length] at ho ⊢
        have hjt := join_tape tape bTape
        have hsz := tapeS_size tape bTape HA.out
        have hb4 : bTape.size = 4 := rfl
        have hv := ho.vals (by unfold maxLen; simp; omega)
        have hcp := ho.cap _ _ _ rfl
        obtain ⟨a', c', e', -, hx⟩ := hv
        simp only [Value.slice.injEq] at e'
        obtain ⟨rfl, -, rfl⟩ := e'
        rcases hx with hx | ⟨bb, o, rfl, hbb, hcell⟩
        · cases hx
        have HJ : Hid (Calls Tryz.prog 45 #[.slice (some ⟨bb, o, none⟩) (bTape :: tape.map dgs).length vc, .string ⟨#[32]⟩] wr fun e w' => e = .returned (.string (tapeS bTape tape)) ∧ Gr wr w') := by
          have := Tryz.strings_Join bb o vc (bTape :: tape.map dgs) ⟨#[32]⟩ wr (fun j x hj => hcell j _ (by rw [List.getElem?_map, hj]; rfl)) hbb (by simp; omega) hcp (by
            have h1 : (Lib.join ((bTape :: tape.map dgs).map (·.data.toList)) [32]).length = (tapeS bTape tape).size := by rw [← hjt]; rfl
            show (Lib.join _ [32]).length ≤ _
            rw [h1]; omega)
          rw [← hjt]
          exact this
        clear hjt hsz hb4 hcell hcp ho
        generalize (bTape :: tape.map dgs).length = nl at HJ ⊢
        go_wp2_with (first | (go_at_call 45; (with_reducible refine (HJ.out).mono ?_); rintro e w5 ⟨rfl, g5⟩) | fail)
        go_ret
        exact ⟨ret_str HQ.out.symm, g.trans g5⟩
end Go.Proofs.YtehdpepiemfemaaGreatDoor
