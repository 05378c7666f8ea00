/- stock.Print and the reference's. -/
import Derived.Test.YtaanepadgoefhaaGreatDoorRows
import Derived.Test.YtaanepadgoefhaaGreatDoorRStM
import Derived.Test.YtaanepadgoefhaaGreatDoorRStX
import Derived.Test.YtaanepadgoefhaaGreatDoorRStY
namespace Go.Proofs.YtaanepadgoefhaaGreatDoor
open Go.ChangeShapes Go.WideShapes Go.ChangeAt Go.RowKit Go.Maps
set_option linter.unusedVariables false
set_option linter.unusedSimpArgs false
set_option maxRecDepth 100000 in
set_option maxHeartbeats 1000000 in
theorem stPrint_any (v : Value) (L : List Stk) (w : World) (ht : Tabs w) (hL : IsStks w v L) (hok : ∀ s ∈ L, s.nm.size ≤ maxLen) :
    Calls Tryz.prog 24 #[v] w fun e w' => e = .returned (.tuple #[.string (if plainE L = 0 then printS L else ⟨#[]⟩), .int .i64 (plainE L)]) ∧ Gr w w' := by
  have HL := Lib.hid hL
  obtain ⟨a, c, rfl, hm, hc⟩ := hL.form
  unfold maxLen at hm
  have HW := Lib.hid (wrong_any _ L w hL hok)
  have HP := Lib.hid (fun (h : plainE L = 0) => plain_ok h)
  generalize plainE L = E at HW HP ⊢
  clear hL hok
  by_cases hE : E = 0
  · obtain ⟨hlen, hmay, -⟩ := HP.out hE
    have HM := Lib.hid hmay
    have HSZ := Lib.hid (fun (k : Nat) => printS_size (L := L.take k) (fun s hs => hmay s (List.mem_of_mem_take hs)))
    rw [if_pos hE]
    subst hE
    clear HP hmay
    go_enter Tryz.func24, Tryz.ntmps24
    go_wp2_with (first | (go_at_call 60; (with_reducible refine (HW.out).mono ?_); rintro e w2 ⟨rfl, g2⟩) | fail)
    go_loopw [5, 15] (fun x y wr => ∃ k : Nat, x = .string (printS (L.take k)) ∧ y = .int .i64 k ∧ k ≤ L.length ∧ Gr w wr) (fun _ y _ => L.length - (intOf y).toNat)
    case atStart => exact ⟨0, rfl, rfl, Nat.zero_le _, g2⟩
    case round =>
      obtain ⟨k, rfl, rfl, hk, g⟩ := hrel
      by_cases hlt : k < L.length
      · have hk1 : (k : Int) < (L.length : Int) := by omega
        obtain ⟨bb, o, hs, z, y0, y1, y2, y3, y4⟩ := (HL.out.gr g).at k hlt
        subst hs
        have hmk := HM.out _ (List.getElem_mem hlt)
        have hls := lineS_size hmk
        have HLN := Lib.hid (fun (w' : World) (gt : Gr w w') => stLine_any L[k].nm L[k].l L[k].t L[k].a L[k].b w' (ht.gr gt) hmk)
        have HN : Hid (printS (L.take (k + 1)) = printS (L.take k) ++ (lineS L[k] ++ ⟨#[10]⟩)) := by
          show _ = _
          rw [List.take_succ_eq_append_getElem hlt, printS_snoc]
          apply ByteArray.ext; simp [ByteArray.data_append]
        have hsz := HSZ.out k
        rw [List.length_take, Nat.min_eq_left hk] at hsz
        have es : L[k] = ⟨L[k].nm, L[k].l, L[k].t, L[k].a, L[k].b⟩ := rfl
        rw [← es] at HLN
        clear es hmk
        generalize printS (L.take k) = S1 at HN hsz ⊢
        generalize lineS L[k] = d at HLN HN hls
        generalize hL0 : L[k] = s at y0 y1 y2 y3 y4 HLN
        clear hL0
        obtain ⟨nm, l, t, a', b⟩ := s
        dsimp only at y0 y1 y2 y3 y4 HLN
        have hS : S1.size ≤ 200 := by omega
        have q1 : ¬ 9223372036854775807 < d.size + 1 := by omega
        have q2 : ¬ 9223372036854775807 < S1.size + (d.size + 1) := by omega
        go_wp2_with (first | (go_at_call 61; (with_reducible refine (HLN.out _ (g.alloc _)).mono ?_); rintro e w3 ⟨rfl, g3⟩) | fail)
        go_roundw
        case rel => exact ⟨k + 1, congrArg Value.string HN.out.symm, by go_num, hlt, (g.alloc _).trans g3⟩
        case measure => simp [intOf]; omega
      · have hk1 : ¬ (k : Int) < (L.length : Int) := by omega
        have HQ : Hid (printS (L.take k) = printS L) := by show _ = _; rw [List.take_of_length_le (by omega)]
        go_wp2_with fail
        go_ret2
        exact ⟨by rw [HQ.out]; rfl, g⟩
  · have tE : (E != 0) = true := bneT hE
    rw [if_neg hE]
    clear hE HP
    go_enter Tryz.func24, Tryz.ntmps24
    go_wp2_with (first | (go_at_call 60; (with_reducible refine (HW.out).mono ?_); rintro e w2 ⟨rfl, g2⟩) | fail)
    go_ret2
    exact ⟨rfl, g2⟩
set_option maxRecDepth 100000 in
set_option maxHeartbeats 1000000 in
theorem refPrintS_any (v : Value) (L : List Stk) (w : World) (hL : IsStks w v L) (hok : ∀ s ∈ L, s.nm.size ≤ maxLen) :
    Calls Tryz.prog 25 #[v] w fun e w' => e = .returned (.tuple #[.string (if plainE L = 0 then printS L else ⟨#[]⟩), .int .i64 (plainE L)]) ∧ Gr w w' := by
  have HL := Lib.hid hL
  obtain ⟨a, c, rfl, hm, hc⟩ := hL.form
  unfold maxLen at hm
  have HW := Lib.hid (plain_any _ L w hL hok)
  have HP := Lib.hid (fun (h : plainE L = 0) => plain_ok h)
  generalize plainE L = E at HW HP ⊢
  clear hL hok
  by_cases hE : E = 0
  · obtain ⟨hlen, hmay, -⟩ := HP.out hE
    have HM := Lib.hid hmay
    have HSZ := Lib.hid (fun (k : Nat) => printS_size (L := L.take k) (fun s hs => hmay s (List.mem_of_mem_take hs)))
    rw [if_pos hE]
    subst hE
    clear HP hmay
    go_enter Tryz.func25, Tryz.ntmps25
    go_wp2_with (first | (go_at_call 62; (with_reducible refine (HW.out).mono ?_); rintro e w2 ⟨rfl, g2⟩) | fail)
    go_loopw [5, 15] (fun x y wr => ∃ k : Nat, x = .string (printS (L.take k)) ∧ y = .int .i64 k ∧ k ≤ L.length ∧ Gr w wr) (fun _ y _ => L.length - (intOf y).toNat)
    case atStart => exact ⟨0, rfl, rfl, Nat.zero_le _, g2⟩
    case round =>
      obtain ⟨k, rfl, rfl, hk, g⟩ := hrel
      by_cases hlt : k < L.length
      · have hk1 : (k : Int) < (L.length : Int) := by omega
        obtain ⟨bb, o, hs, z, y0, y1, y2, y3, y4⟩ := (HL.out.gr g).at k hlt
        subst hs
        have hmk := HM.out _ (List.getElem_mem hlt)
        have hls := lineS_size hmk
        have HLN := Lib.hid (fun (w' : World) (gt : Gr w w') => refLine_any L[k].nm L[k].l L[k].t L[k].a L[k].b w'  hmk)
        have HN : Hid (printS (L.take (k + 1)) = printS (L.take k) ++ (lineS L[k] ++ ⟨#[10]⟩)) := by
          show _ = _
          rw [List.take_succ_eq_append_getElem hlt, printS_snoc]
          apply ByteArray.ext; simp [ByteArray.data_append]
        have hsz := HSZ.out k
        rw [List.length_take, Nat.min_eq_left hk] at hsz
        have es : L[k] = ⟨L[k].nm, L[k].l, L[k].t, L[k].a, L[k].b⟩ := rfl
        rw [← es] at HLN
        clear es hmk
        generalize printS (L.take k) = S1 at HN hsz ⊢
        generalize lineS L[k] = d at HLN HN hls
        generalize hL0 : L[k] = s at y0 y1 y2 y3 y4 HLN
        clear hL0
        obtain ⟨nm, l, t, a', b⟩ := s
        dsimp only at y0 y1 y2 y3 y4 HLN
        have hS : S1.size ≤ 200 := by omega
        have h1 : (⟨#[10]⟩ : ByteArray).size = 1 := rfl
        have q2 : ¬ 9223372036854775807 < S1.size + (d.size + 1) := by omega
        go_wp2_with (first | (go_at_call 63; (with_reducible refine (HLN.out _ (g.alloc _)).mono ?_); rintro e w3 ⟨rfl, g3⟩) | fail)
        go_roundw
        case rel => exact ⟨k + 1, congrArg Value.string HN.out.symm, by go_num, hlt, (g.alloc _).trans g3⟩
        case measure => simp [intOf]; omega
      · have hk1 : ¬ (k : Int) < (L.length : Int) := by omega
        have HQ : Hid (printS (L.take k) = printS L) := by show _ = _; rw [List.take_of_length_le (by omega)]
        go_wp2_with fail
        go_ret2
        exact ⟨by rw [HQ.out]; rfl, g⟩
  · have tE : (E != 0) = true := bneT hE
    rw [if_neg hE]
    clear hE HP
    go_enter Tryz.func25, Tryz.ntmps25
    go_wp2_with (first | (go_at_call 62; (with_reducible refine (HW.out).mono ?_); rintro e w2 ⟨rfl, g2⟩) | fail)
    go_ret2
    exact ⟨rfl, g2⟩
end Go.Proofs.YtaanepadgoefhaaGreatDoor
