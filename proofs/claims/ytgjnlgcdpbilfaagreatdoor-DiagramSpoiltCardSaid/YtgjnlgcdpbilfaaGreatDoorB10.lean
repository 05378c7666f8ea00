/- DgN: The signal, the element of a name: the program's and the reference's.
Clk1: Clock: what each function of clock and of its reference gives.
Clk2: Clock: printing.
Clk3: Clock: Parse, Add, Till and the reference's. -/
import Derived.Test.YtgjnlgcdpbilfaaGreatDoorRows
import Derived.Test.YtgjnlgcdpbilfaaGreatDoorB7
import Derived.Test.YtgjnlgcdpbilfaaGreatDoorB6
import Derived.LoopN
namespace Go.Proofs.YtgjnlgcdpbilfaaGreatDoor
open Go.ChangeShapes Go.WideShapes Go.ChangeAt Go.RowKit Go.Maps
set_option linter.unusedVariables false
set_option linter.unusedSimpArgs false
def Sg.val (s : Sg) : Value := .agg #[.string s.n, .int .i64 s.at_.e, .int .i64 s.at_.x, .bool s.auto]
def Ele.val (e : Ele) : Value := .agg #[.string e.n, .int .i64 e.k, .int .i64 e.l]
theorem sig1_any (s : Sg) (n : ByteArray) (B : Nat) (w : World) (hb : B < w.heap.size) (hc : w.cell? ⟨B, 0, none⟩ = some (.string n)) :
    Calls Tryz.prog 130 #[s.val, .pointer (some ⟨B, 0, none⟩)] w fun e w' => e = .returned (.bool (decide (s.n = n))) ∧ Gr w w' := by
  obtain ⟨nm, ⟨pe, px⟩, au⟩ := s
  unfold Sg.val
  dsimp only
  go_enter Tryz.func130, Tryz.ntmps130
  go_wp2_with fail
  go_ret
  exact ⟨ret_bool (str_dec _ _), (Gr.refl _).alloc _⟩
set_option maxHeartbeats 400000 in
theorem sigidx_any (L : List Sg) (p : Sg → Bool) (v cap : Value) (w : World) (hL : IsSgs w v L)
    (hc : ∀ (w' : World), Gr w w' → ∀ (i : Nat) (hi : i < L.length), Calls Tryz.prog 130 #[L[i].val, cap] w' fun e w'' => e = .returned (.bool (p L[i])) ∧ Gr w' w'') :
    Calls Tryz.prog 129 #[v, .func (.func 130) #[] #[cap]] w fun e w' => e = .returned (.int .i64 (fstN p L)) ∧ Gr w w' := by
  have HL := Lib.hid hL
  obtain ⟨a, c, rfl, hm, -⟩ := hL
  unfold maxLen at hm
  have HC := Lib.hid hc
  clear hc
  go_enter Tryz.func129, Tryz.ntmps129
  go_wp2_with fail
  go_loopw [5, 8] (fun _ x wr => ∃ k : Nat, x = .int .i64 k ∧ k ≤ L.length ∧ Gr w wr ∧ Hid (∀ i (hi : i < L.length), i < k → p L[i] = false)) (fun _ x _ => L.length - (intOf x).toNat)
  case atStart => exact ⟨0, rfl, Nat.zero_le _, Gr.refl _, fun i _ h => by omega⟩
  case round =>
    obtain ⟨k, rfl, hk, g, HA⟩ := hrel
    by_cases hlt : k < L.length
    · have hk1 : (k : Int) < (L.length : Int) := by omega
      obtain ⟨bb, o, hs, z, y0, y1, y2, y3⟩ := (IsSgs.gr HL.out g).at k hlt
      subst hs
      have HP := Lib.hid (fun w' (h : Gr w w') => HC.out w' h k hlt)
      have HY : Hid (p L[k] = true → fstN p L = k) := fun h => fstN_go p hlt h fun i hi hik => HA.out i hi hik
      have HN : Hid (p L[k] = false → ∀ i (hi : i < L.length), i < k + 1 → p L[i] = false) := fun h i hi hik => by
        by_cases e : i = k
        · subst e; exact h
        · exact HA.out i hi (by omega)
      clear HA
      generalize p L[k] = q at HP HY HN
      generalize L[k] = s at y0 y1 y2 y3 HP
      obtain ⟨nm, ⟨pe, px⟩, au⟩ := s
      unfold Sg.val at HP
      dsimp only at y0 y1 y2 y3 HP
      skip
      cases q
      · have HN2 := Lib.hid (HN.out rfl)
        clear HY HN
        go_wp2_with (first | (go_at_call 130; (with_reducible refine (HP.out _ g).mono ?_); rintro e w2 ⟨rfl, g2⟩) | fail)
        go_roundw
        case rel => exact ⟨k + 1, by go_num, hlt, g.trans g2, HN2.out⟩
        case measure => simp [intOf]; omega
      · have HY2 := Lib.hid (HY.out rfl)
        clear HY HN
        go_wp2_with (first | (go_at_call 130; (with_reducible refine (HP.out _ g).mono ?_); rintro e w2 ⟨rfl, g2⟩) | fail)
        go_ret
        exact ⟨ret_int HY2.out.symm, g.trans g2⟩
    · have hk1 : ¬ (k : Int) < (L.length : Int) := by omega
      have HR := Lib.hid (fstN_no p fun i hi => HA.out i hi (by omega))
      go_wp2_with fail
      go_ret
      exact ⟨ret_int HR.out.symm, g⟩
set_option maxHeartbeats 400000 in
theorem sig_any (v : Value) (P : Pln) (n : ByteArray) (w : World) (hP : IsPln w v P) :
    Calls Tryz.prog 117 #[v, .string n] w fun e w' => e = .returned (.int .i64 (sigN P n)) ∧ Gr w w' := by
  obtain ⟨a1, c1, a2, c2, a3, c3, a4, c4, rfl, h1, h2, h3, h4⟩ := hP
  have g1 : Gr w (w.alloc (.cells #[.slice a1 P.es.length c1, .slice a2 P.js.length c2, .slice a3 P.ss.length c3, .slice a4 P.ls.length c4, .int .i64 P.top, .int .i64 P.brake, .int .i64 P.margin, .int .i64 P.throw, .bool P.hard] 27)) := (Gr.refl _).alloc _
  have g0 : Gr w ((w.alloc (.cells #[.slice a1 P.es.length c1, .slice a2 P.js.length c2, .slice a3 P.ss.length c3, .slice a4 P.ls.length c4, .int .i64 P.top, .int .i64 P.brake, .int .i64 P.margin, .int .i64 P.throw, .bool P.hard] 27)).alloc (.cells #[.string n] 9)) := g1.alloc _
  have hz0 : (w.alloc (.cells #[.slice a1 P.es.length c1, .slice a2 P.js.length c2, .slice a3 P.ss.length c3, .slice a4 P.ls.length c4, .int .i64 P.top, .int .i64 P.brake, .int .i64 P.margin, .int .i64 P.throw, .bool P.hard] 27)).heap.size = w.heap.size + 1 := by simp
  have HI := Lib.hid (sigidx_any P.ss (fun s => decide (s.n = n)) _ (.pointer (some ⟨w.heap.size + 1, 0, none⟩)) _ (IsSgs.gr h3 g0) (fun w' g i hi => by
    have hz : w.heap.size + 1 < ((w.alloc (.cells #[.slice a1 P.es.length c1, .slice a2 P.js.length c2, .slice a3 P.ss.length c3, .slice a4 P.ls.length c4, .int .i64 P.top, .int .i64 P.brake, .int .i64 P.margin, .int .i64 P.throw, .bool P.hard] 27)).alloc (.cells #[.string n] 9)).heap.size := by simp
    exact sig1_any P.ss[i] n (w.heap.size + 1) w' (Nat.lt_of_lt_of_le hz g.size) ((g.cell _ _ hz).trans (by rw [← hz0, World.cell?_alloc_mark]; rfl))))
  have HD : Hid (fstN (fun s => decide (s.n = n)) P.ss = sigN P n) := rfl
  generalize sigN P n = R at HD ⊢
  rw [HD.out] at HI
  unfold plnV
  clear h1 h2 h3 h4 HD
  go_enter Tryz.func117, Tryz.ntmps117
  go_wp2_with (first | (go_at_call 129; (with_reducible refine (HI.out).mono ?_); rintro e w2 ⟨rfl, g2⟩) | fail)
  go_ret
  exact ⟨rfl, g0.trans g2⟩
set_option maxHeartbeats 400000 in
theorem sigRef_any (v : Value) (P : Pln) (n : ByteArray) (w : World) (hP : IsPln w v P) :
    Calls Tryz.prog 90 #[v, .string n] w fun e w' => e = .returned (.int .i64 (sigN P n)) ∧ Gr w w' := by
  obtain ⟨a1, c1, a2, c2, a3, c3, a4, c4, rfl, h1, h2, h3, h4⟩ := hP
  have HL := Lib.hid h3
  obtain ⟨-, -, -, hm, -⟩ := HL.out
  unfold maxLen at hm
  have HB := Lib.hid (PBox.new w P (.slice a1 P.es.length c1) (.slice a2 P.js.length c2) (.slice a3 P.ss.length c3) (.slice a4 P.ls.length c4))
  have g1 : Gr w (w.alloc (.cells #[.slice a1 P.es.length c1, .slice a2 P.js.length c2, .slice a3 P.ss.length c3, .slice a4 P.ls.length c4, .int .i64 P.top, .int .i64 P.brake, .int .i64 P.margin, .int .i64 P.throw, .bool P.hard] 27)) := (Gr.refl _).alloc _
  have HF : Hid ((∀ k (hk : k < P.ss.length), decide (P.ss[k].n = n) = true → (∀ i (hi : i < P.ss.length), i < k → decide (P.ss[i].n = n) = false) → sigN P n = k) ∧ ((∀ i (hi : i < P.ss.length), decide (P.ss[i].n = n) = false) → sigN P n = -1)) := ⟨fun k hk h hn => fstN_go _ hk h hn, fun h => fstN_no _ h⟩
  generalize sigN P n = R at HF ⊢
  unfold plnV
  clear h1 h2 h3 h4
  go_enter Tryz.func90, Tryz.ntmps90
  go_wp2_with fail
  go_loopw [5] (fun x wr => ∃ k : Nat, x = .int .i64 k ∧ k ≤ P.ss.length ∧ Gr (w.alloc (.cells #[.slice a1 P.es.length c1, .slice a2 P.js.length c2, .slice a3 P.ss.length c3, .slice a4 P.ls.length c4, .int .i64 P.top, .int .i64 P.brake, .int .i64 P.margin, .int .i64 P.throw, .bool P.hard] 27)) wr ∧ Hid (∀ i (hi : i < P.ss.length), i < k → decide (P.ss[i].n = n) = false)) (fun x _ => P.ss.length - (intOf x).toNat)
  case atStart => exact ⟨0, rfl, Nat.zero_le _, Gr.refl _, fun i _ h => by omega⟩
  case round =>
    obtain ⟨k, rfl, hk, g, HA⟩ := hrel
    obtain ⟨zb, b0, b1, b2, b3, b4, b5, b6, b7, b8⟩ := HB.out.gr g
    by_cases hlt : k < P.ss.length
    · have hk1 : (k : Int) < (P.ss.length : Int) := by omega
      have hl2 := HL.out.gr (g1.trans g)
      obtain ⟨bb, o, hs, z, y0, y1, y2, y3⟩ := IsSgs.at hl2 k hlt
      subst hs
      have HY : Hid (decide (P.ss[k].n = n) = true → R = k) := fun h => HF.out.1 k hlt h fun i hi hik => HA.out i hi hik
      have HN : Hid (decide (P.ss[k].n = n) = false → ∀ i (hi : i < P.ss.length), i < k + 1 → decide (P.ss[i].n = n) = false) := fun h i hi hik => by
        by_cases e : i = k
        · subst e; exact h
        · exact HA.out i hi (by omega)
      clear HA hl2
      generalize P.ss[k] = s at y0 y1 y2 y3 HY HN
      obtain ⟨nm, ⟨pe, px⟩, au⟩ := s
      dsimp only at y0 y1 y2 y3 HY HN
      have hd := str_dec nm n
      cases hq : decide (nm = n)
      · rw [hq] at hd HN
        have HN2 := Lib.hid (HN.out rfl)
        clear HY HN hq
        go_wp2_with fail
        go_roundw
        case rel => exact ⟨k + 1, by go_num, hlt, g, HN2.out⟩
        case measure => simp [intOf]; omega
      · rw [hq] at hd HY
        have HY2 := Lib.hid (HY.out rfl)
        clear HY HN hq
        go_wp2_with fail
        go_ret
        exact ⟨ret_int HY2.out.symm, g1.trans g⟩
    · have hk1 : ¬ (k : Int) < (P.ss.length : Int) := by omega
      have HR := Lib.hid (HF.out.2 fun i hi => HA.out i hi (by omega))
      go_wp2_with fail
      go_ret
      exact ⟨ret_int HR.out.symm, g1.trans g⟩
theorem ele1_any (s : Ele) (n : ByteArray) (B : Nat) (w : World) (hb : B < w.heap.size) (hc : w.cell? ⟨B, 0, none⟩ = some (.string n)) :
    Calls Tryz.prog 132 #[s.val, .pointer (some ⟨B, 0, none⟩)] w fun e w' => e = .returned (.bool (decide (s.n = n))) ∧ Gr w w' := by
  obtain ⟨nm, ek, el⟩ := s
  unfold Ele.val
  dsimp only
  go_enter Tryz.func132, Tryz.ntmps132
  go_wp2_with fail
  go_ret
  exact ⟨ret_bool (str_dec _ _), (Gr.refl _).alloc _⟩
set_option maxHeartbeats 400000 in
theorem eleidx_any (L : List Ele) (p : Ele → Bool) (v cap : Value) (w : World) (hL : IsEles w v L)
    (hc : ∀ (w' : World), Gr w w' → ∀ (i : Nat) (hi : i < L.length), Calls Tryz.prog 132 #[L[i].val, cap] w' fun e w'' => e = .returned (.bool (p L[i])) ∧ Gr w' w'') :
    Calls Tryz.prog 131 #[v, .func (.func 132) #[] #[cap]] w fun e w' => e = .returned (.int .i64 (fstN p L)) ∧ Gr w w' := by
  have HL := Lib.hid hL
  obtain ⟨a, c, rfl, hm, -⟩ := hL
  unfold maxLen at hm
  have HC := Lib.hid hc
  clear hc
  go_enter Tryz.func131, Tryz.ntmps131
  go_wp2_with fail
  go_loopw [5, 8] (fun _ x wr => ∃ k : Nat, x = .int .i64 k ∧ k ≤ L.length ∧ Gr w wr ∧ Hid (∀ i (hi : i < L.length), i < k → p L[i] = false)) (fun _ x _ => L.length - (intOf x).toNat)
  case atStart => exact ⟨0, rfl, Nat.zero_le _, Gr.refl _, fun i _ h => by omega⟩
  case round =>
    obtain ⟨k, rfl, hk, g, HA⟩ := hrel
    by_cases hlt : k < L.length
    · have hk1 : (k : Int) < (L.length : Int) := by omega
      obtain ⟨bb, o, hs, z, y0, y1, y2⟩ := (IsEles.gr HL.out g).at k hlt
      subst hs
      have HP := Lib.hid (fun w' (h : Gr w w') => HC.out w' h k hlt)
      have HY : Hid (p L[k] = true → fstN p L = k) := fun h => fstN_go p hlt h fun i hi hik => HA.out i hi hik
      have HN : Hid (p L[k] = false → ∀ i (hi : i < L.length), i < k + 1 → p L[i] = false) := fun h i hi hik => by
        by_cases e : i = k
        · subst e; exact h
        · exact HA.out i hi (by omega)
      clear HA
      generalize p L[k] = q at HP HY HN
      generalize L[k] = s at y0 y1 y2 HP
      obtain ⟨nm, ek, el⟩ := s
      unfold Ele.val at HP
      dsimp only at y0 y1 y2 HP
      skip
      cases q
      · have HN2 := Lib.hid (HN.out rfl)
        clear HY HN
        go_wp2_with (first | (go_at_call 132; (with_reducible refine (HP.out _ g).mono ?_); rintro e w2 ⟨rfl, g2⟩) | fail)
        go_roundw
        case rel => exact ⟨k + 1, by go_num, hlt, g.trans g2, HN2.out⟩
        case measure => simp [intOf]; omega
      · have HY2 := Lib.hid (HY.out rfl)
        clear HY HN
        go_wp2_with (first | (go_at_call 132; (with_reducible refine (HP.out _ g).mono ?_); rintro e w2 ⟨rfl, g2⟩) | fail)
        go_ret
        exact ⟨ret_int HY2.out.symm, g.trans g2⟩
    · have hk1 : ¬ (k : Int) < (L.length : Int) := by omega
      have HR := Lib.hid (fstN_no p fun i hi => HA.out i hi (by omega))
      go_wp2_with fail
      go_ret
      exact ⟨ret_int HR.out.symm, g⟩
set_option maxHeartbeats 400000 in
theorem ele_any (v : Value) (P : Pln) (n : ByteArray) (w : World) (hP : IsPln w v P) :
    Calls Tryz.prog 119 #[v, .string n] w fun e w' => e = .returned (.int .i64 (eleN P n)) ∧ Gr w w' := by
  obtain ⟨a1, c1, a2, c2, a3, c3, a4, c4, rfl, h1, h2, h3, h4⟩ := hP
  have g1 : Gr w (w.alloc (.cells #[.slice a1 P.es.length c1, .slice a2 P.js.length c2, .slice a3 P.ss.length c3, .slice a4 P.ls.length c4, .int .i64 P.top, .int .i64 P.brake, .int .i64 P.margin, .int .i64 P.throw, .bool P.hard] 27)) := (Gr.refl _).alloc _
  have g0 : Gr w ((w.alloc (.cells #[.slice a1 P.es.length c1, .slice a2 P.js.length c2, .slice a3 P.ss.length c3, .slice a4 P.ls.length c4, .int .i64 P.top, .int .i64 P.brake, .int .i64 P.margin, .int .i64 P.throw, .bool P.hard] 27)).alloc (.cells #[.string n] 9)) := g1.alloc _
  have hz0 : (w.alloc (.cells #[.slice a1 P.es.length c1, .slice a2 P.js.length c2, .slice a3 P.ss.length c3, .slice a4 P.ls.length c4, .int .i64 P.top, .int .i64 P.brake, .int .i64 P.margin, .int .i64 P.throw, .bool P.hard] 27)).heap.size = w.heap.size + 1 := by simp
  have HI := Lib.hid (eleidx_any P.es (fun s => decide (s.n = n)) _ (.pointer (some ⟨w.heap.size + 1, 0, none⟩)) _ (IsEles.gr h1 g0) (fun w' g i hi => by
    have hz : w.heap.size + 1 < ((w.alloc (.cells #[.slice a1 P.es.length c1, .slice a2 P.js.length c2, .slice a3 P.ss.length c3, .slice a4 P.ls.length c4, .int .i64 P.top, .int .i64 P.brake, .int .i64 P.margin, .int .i64 P.throw, .bool P.hard] 27)).alloc (.cells #[.string n] 9)).heap.size := by simp
    exact ele1_any P.es[i] n (w.heap.size + 1) w' (Nat.lt_of_lt_of_le hz g.size) ((g.cell _ _ hz).trans (by rw [← hz0, World.cell?_alloc_mark]; rfl))))
  have HD : Hid (fstN (fun s => decide (s.n = n)) P.es = eleN P n) := rfl
  generalize eleN P n = R at HD ⊢
  rw [HD.out] at HI
  unfold plnV
  clear h1 h2 h3 h4 HD
  go_enter Tryz.func119, Tryz.ntmps119
  go_wp2_with (first | (go_at_call 131; (with_reducible refine (HI.out).mono ?_); rintro e w2 ⟨rfl, g2⟩) | fail)
  go_ret
  exact ⟨rfl, g0.trans g2⟩
set_option maxHeartbeats 400000 in
theorem eleRef_any (v : Value) (P : Pln) (n : ByteArray) (w : World) (hP : IsPln w v P) :
    Calls Tryz.prog 91 #[v, .string n] w fun e w' => e = .returned (.int .i64 (eleN P n)) ∧ Gr w w' := by
  obtain ⟨a1, c1, a2, c2, a3, c3, a4, c4, rfl, h1, h2, h3, h4⟩ := hP
  have HL := Lib.hid h1
  obtain ⟨-, -, -, hm, -⟩ := HL.out
  unfold maxLen at hm
  have HB := Lib.hid (PBox.new w P (.slice a1 P.es.length c1) (.slice a2 P.js.length c2) (.slice a3 P.ss.length c3) (.slice a4 P.ls.length c4))
  have g1 : Gr w (w.alloc (.cells #[.slice a1 P.es.length c1, .slice a2 P.js.length c2, .slice a3 P.ss.length c3, .slice a4 P.ls.length c4, .int .i64 P.top, .int .i64 P.brake, .int .i64 P.margin, .int .i64 P.throw, .bool P.hard] 27)) := (Gr.refl _).alloc _
  have HF : Hid ((∀ k (hk : k < P.es.length), decide (P.es[k].n = n) = true → (∀ i (hi : i < P.es.length), i < k → decide (P.es[i].n = n) = false) → eleN P n = k) ∧ ((∀ i (hi : i < P.es.length), decide (P.es[i].n = n) = false) → eleN P n = -1)) := ⟨fun k hk h hn => fstN_go _ hk h hn, fun h => fstN_no _ h⟩
  generalize eleN P n = R at HF ⊢
  unfold plnV
  clear h1 h2 h3 h4
  go_enter Tryz.func91, Tryz.ntmps91
  go_wp2_with fail
  go_loopw [5] (fun x wr => ∃ k : Nat, x = .int .i64 k ∧ k ≤ P.es.length ∧ Gr (w.alloc (.cells #[.slice a1 P.es.length c1, .slice a2 P.js.length c2, .slice a3 P.ss.length c3, .slice a4 P.ls.length c4, .int .i64 P.top, .int .i64 P.brake, .int .i64 P.margin, .int .i64 P.throw, .bool P.hard] 27)) wr ∧ Hid (∀ i (hi : i < P.es.length), i < k → decide (P.es[i].n = n) = false)) (fun x _ => P.es.length - (intOf x).toNat)
  case atStart => exact ⟨0, rfl, Nat.zero_le _, Gr.refl _, fun i _ h => by omega⟩
  case round =>
    obtain ⟨k, rfl, hk, g, HA⟩ := hrel
    obtain ⟨zb, b0, b1, b2, b3, b4, b5, b6, b7, b8⟩ := HB.out.gr g
    by_cases hlt : k < P.es.length
    · have hk1 : (k : Int) < (P.es.length : Int) := by omega
      have hl2 := HL.out.gr (g1.trans g)
      obtain ⟨bb, o, hs, z, y0, y1, y2⟩ := IsEles.at hl2 k hlt
      subst hs
      have HY : Hid (decide (P.es[k].n = n) = true → R = k) := fun h => HF.out.1 k hlt h fun i hi hik => HA.out i hi hik
      have HN : Hid (decide (P.es[k].n = n) = false → ∀ i (hi : i < P.es.length), i < k + 1 → decide (P.es[i].n = n) = false) := fun h i hi hik => by
        by_cases e : i = k
        · subst e; exact h
        · exact HA.out i hi (by omega)
      clear HA hl2
      generalize P.es[k] = s at y0 y1 y2 HY HN
      obtain ⟨nm, ek, el⟩ := s
      dsimp only at y0 y1 y2 HY HN
      have hd := str_dec nm n
      cases hq : decide (nm = n)
      · rw [hq] at hd HN
        have HN2 := Lib.hid (HN.out rfl)
        clear HY HN hq
        go_wp2_with fail
        go_roundw
        case rel => exact ⟨k + 1, by go_num, hlt, g, HN2.out⟩
        case measure => simp [intOf]; omega
      · rw [hq] at hd HY
        have HY2 := Lib.hid (HY.out rfl)
        clear HY HN hq
        go_wp2_with fail
        go_ret
        exact ⟨ret_int HY2.out.symm, g1.trans g⟩
    · have hk1 : ¬ (k : Int) < (P.es.length : Int) := by omega
      have HR := Lib.hid (HF.out.2 fun i hi => HA.out i hi (by omega))
      go_wp2_with fail
      go_ret
      exact ⟨ret_int HR.out.symm, g1.trans g⟩
end Go.Proofs.YtgjnlgcdpbilfaaGreatDoor
namespace Go.Proofs.YtgjnlgcdpbilfaaGreatDoor
open Go.ChangeShapes Go.WideShapes Go.ChangeAt Go.RowKit
set_option linter.unusedVariables false
set_option linter.unusedSimpArgs false

theorem time_plain (t : Int) (h : t.tmod 86400 < 0) : t.tmod 86400 + 86400 = t % 86400 := by
  have := Int.tmod_eq_emod (a := t) (b := 86400)
  split at this <;> omega
theorem time_plain' (t : Int) (h : 0 ≤ t.tmod 86400) : t.tmod 86400 = t % 86400 := by
  have := Int.tmod_eq_emod (a := t) (b := 86400)
  split at this <;> omega
theorem time_bd (t : Int) : -86400 < t.tmod 86400 ∧ t.tmod 86400 < 86400 := by
  have := Int.tmod_eq_emod (a := t) (b := 86400)
  split at this <;> omega
theorem time_any (t : Int) (w : World) :
    Calls Tryz.prog 76 #[.int .i64 t] w fun e w' => e = .returned (.int .i64 (t % 86400)) ∧ w = w' := by
  have hb := time_bd t
  obtain ⟨hb1, hb2⟩ := hb
  by_cases h : t.tmod 86400 < 0
  · go_enter Tryz.func76, Tryz.ntmps76
    go_wp2
    go_ret
    exact ⟨ret_int (time_plain t h), rfl⟩
  · have h' : 0 ≤ t.tmod 86400 := by omega
    clear h
    go_enter Tryz.func76, Tryz.ntmps76
    go_wp2
    go_ret
    exact ⟨ret_int (time_plain' t h'), rfl⟩
theorem mod_any (t : Int) (w : World) :
    Calls Tryz.prog 81 #[.int .i64 t] w fun e w' => e = .returned (.int .i64 (t % 86400)) ∧ w = w' := by
  have hb := time_bd t
  obtain ⟨hb1, hb2⟩ := hb
  go_enter Tryz.func81, Tryz.ntmps81
  go_wp2
  go_ret
  refine ⟨ret_int ?_, rfl⟩
  have := Int.tmod_eq_emod (a := t) (b := 86400)
  split at this <;> omega
theorem two_any (s : ByteArray) (h0 : 0 < s.size) (h1 : 1 < s.size) (w : World) :
    Calls Tryz.prog 114 #[.string s] w fun e w' => e = .returned (.tuple #[.int .i64 (twoN (bt s 0) (bt s 1)), .bool (twoB (bt s 0) (bt s 1))]) ∧ Gr w w' := by
  have e0 := bt_get s 0 h0
  have e1 := bt_get s 1 h1
  have H0 := Lib.hid e0
  have H1 := Lib.hid e1
  clear e0 e1
  go_enter Tryz.func114, Tryz.ntmps114
  go_wp2
  all_goals try (go_quiet (fail); go_wp2)
  all_goals go_ret2
  all_goals first
    | (have hh : twoB (bt s 0) (bt s 1) = false := by (rw [H0.out, H1.out]; unfold twoB; simp; omega)
       refine ⟨ret_ib ?_ hh.symm, ?_⟩
       · unfold twoN; rw [hh]; rfl
       · exact Gr.refl _)
    | (have hh : twoB (bt s 0) (bt s 1) = true := by (rw [H0.out, H1.out]; unfold twoB; simp; omega)
       refine ⟨ret_ib ?_ hh.symm, ?_⟩
       · unfold twoN; rw [hh, H0.out, H1.out]; rfl
       · exact Gr.drewN (Gr.refl _) _)
end Go.Proofs.YtgjnlgcdpbilfaaGreatDoor
namespace Go.Proofs.YtgjnlgcdpbilfaaGreatDoor
open Go.ChangeShapes Go.WideShapes Go.ChangeAt Go.RowKit
set_option linter.unusedVariables false
set_option linter.unusedSimpArgs false

theorem digits_any (n : Int) (h0 : 0 ≤ n) (h1 : n ≤ 99) (w : World) :
    Calls Tryz.prog 77 #[.int .i64 n] w fun e w' => e = .returned (.string (digT n)) ∧ Gr w w' := by
  have hc := fun wx => conv2 (P := Tryz.prog) 46 9 5 Tryz.underlying46 Tryz.underlying5 Tryz.underlying9 (48 + n / 10) (48 + n % 10) (by omega) (by omega) wx 5
  go_enter Tryz.func77, Tryz.ntmps77
  go_wp2
  go_ret
  exact ⟨ret_str rfl, (Gr.refl _).alloc _⟩
theorem time_hid (t T : Int) (hT : Hid (T = t % 86400)) (w : World) :
    Calls Tryz.prog 76 #[.int .i64 t] w fun e w' => e = .returned (.int .i64 T) ∧ w = w' := by
  rw [hT.out]; exact time_any t w
theorem mod_hid (t T : Int) (hT : Hid (T = t % 86400)) (w : World) :
    Calls Tryz.prog 81 #[.int .i64 t] w fun e w' => e = .returned (.int .i64 T) ∧ w = w' := by
  rw [hT.out]; exact mod_any t w
theorem print_any (t : Int) (w : World) :
    Calls Tryz.prog 45 #[.int .i64 t] w fun e w' => e = .returned (.string (clkT (t % 86400))) ∧ Gr w w' := by
  obtain ⟨T, hT⟩ : ∃ T, T = t % 86400 := ⟨_, rfl⟩
  have b0 : 0 ≤ T := by omega
  have b1 : T < 86400 := by omega
  have HT := Lib.hid hT
  clear hT
  go_enter Tryz.func45, Tryz.ntmps45
  go_wp2_with (first | (go_at_call 76; refine (time_hid t T HT _).mono ?_; rintro e w' ⟨rfl, rfl⟩) | (go_at_call 77; refine (digits_any _ (by omega) (by omega) _).mono ?_; rintro e w' ⟨rfl, hb⟩))
  go_ret
  rename_i q1 q2 _ _ _ q3 _
  rw [← HT.out]
  refine ⟨ret_str rfl, ?_⟩
  exact (Gr.trans (by assumption) (Gr.trans (by assumption) (by assumption)))
theorem refPrint_any (t : Int) (w : World) :
    Calls Tryz.prog 48 #[.int .i64 t] w fun e w' => e = .returned (.string (clkT (t % 86400))) ∧ Gr w w' := by
  obtain ⟨T, hT⟩ : ∃ T, T = t % 86400 := ⟨_, rfl⟩
  have b0 : 0 ≤ T := by omega
  have b1 : T < 86400 := by omega
  have HT := Lib.hid hT
  clear hT
  have hc1 := fun wx g (hg : g = wx.heap.size) => conv2_at (P := Tryz.prog) 46 9 5 Tryz.underlying46 Tryz.underlying5 Tryz.underlying9 (48 + T / 3600 / 10) (48 + T / 3600 % 10) (by omega) (by omega) wx 5 g hg
  have hc2 := fun wx g (hg : g = wx.heap.size) => conv2_at (P := Tryz.prog) 46 9 5 Tryz.underlying46 Tryz.underlying5 Tryz.underlying9 (48 + T / 60 % 60 / 10) (48 + T / 60 % 10) (by omega) (by omega) wx 5 g hg
  have hc3 := fun wx g (hg : g = wx.heap.size) => conv2_at (P := Tryz.prog) 46 9 5 Tryz.underlying46 Tryz.underlying5 Tryz.underlying9 (48 + T % 60 / 10) (48 + T % 10) (by omega) (by omega) wx 5 g hg
  go_enter Tryz.func48, Tryz.ntmps48
  go_wp2_with (first | (go_at_call 81; refine (mod_hid t T HT _).mono ?_; rintro e w' ⟨rfl, rfl⟩) | fail)
  refine wp_loop_rounds 4 ?_
  rw [rounds_succ]
  go_wp2
  rw [rounds_succ]
  go_wp2
  rw [rounds_succ]
  go_wp2
  rw [rounds_succ]
  go_wp2
  go_ret
  rw [← HT.out]
  refine ⟨ret_str ?_, (((Gr.refl _).alloc _).alloc _).alloc _ |>.alloc _⟩
  rw [clkT_lit]
  apply ByteArray.ext
  have q1 : T / 60 % 60 % 10 = T / 60 % 10 := by omega
  have q2 : T % 60 % 10 = T % 10 := by omega
  simp [clkL, q1, q2]
end Go.Proofs.YtgjnlgcdpbilfaaGreatDoor
namespace Go.Proofs.YtgjnlgcdpbilfaaGreatDoor
open Go.ChangeShapes Go.WideShapes Go.ChangeAt Go.RowKit
set_option linter.unusedVariables false
set_option linter.unusedSimpArgs false

theorem add_any (t d : Int) (w : World) :
    Calls Tryz.prog 79 #[.int .i64 t, .int .i64 d] w fun e w' => e = .returned (.int .i64 ((t + d) % 86400)) ∧ w = w' := by
  obtain ⟨T, hT⟩ : ∃ T, T = t % 86400 := ⟨_, rfl⟩
  obtain ⟨D, hD⟩ : ∃ D, D = d % 86400 := ⟨_, rfl⟩
  have b0 : 0 ≤ T ∧ T < 86400 := by omega
  have b1 : 0 ≤ D ∧ D < 86400 := by omega
  have e : (T + D) % 86400 = (t + d) % 86400 := by omega
  have E := Lib.hid e
  have HT := Lib.hid hT
  have HD := Lib.hid hD
  clear hT hD e
  go_enter Tryz.func79, Tryz.ntmps79
  go_wp2_with fail
  refine (time_hid t T HT _).mono ?_
  rintro e w' ⟨rfl, rfl⟩
  go_wp2_with fail
  refine (time_hid d D HD _).mono ?_
  rintro e w' ⟨rfl, rfl⟩
  go_wp2_with fail
  refine (time_any _ _).mono ?_
  rintro e w' ⟨rfl, rfl⟩
  go_wp2_with fail
  go_ret
  exact ⟨ret_int E.out, rfl⟩
theorem till_any (a b : Int) (w : World) :
    Calls Tryz.prog 118 #[.int .i64 a, .int .i64 b] w fun e w' => e = .returned (.int .i64 ((b - a) % 86400)) ∧ w = w' := by
  obtain ⟨T, hT⟩ : ∃ T, T = b % 86400 := ⟨_, rfl⟩
  obtain ⟨D, hD⟩ : ∃ D, D = a % 86400 := ⟨_, rfl⟩
  have b0 : 0 ≤ T ∧ T < 86400 := by omega
  have b1 : 0 ≤ D ∧ D < 86400 := by omega
  have e : (T - D) % 86400 = (b - a) % 86400 := by omega
  have E := Lib.hid e
  have HT := Lib.hid hT
  have HD := Lib.hid hD
  clear hT hD e
  go_enter Tryz.func118, Tryz.ntmps118
  go_wp2_with fail
  refine (time_hid b T HT _).mono ?_
  rintro e w' ⟨rfl, rfl⟩
  go_wp2_with fail
  refine (time_hid a D HD _).mono ?_
  rintro e w' ⟨rfl, rfl⟩
  go_wp2_with fail
  refine (time_any _ _).mono ?_
  rintro e w' ⟨rfl, rfl⟩
  go_wp2_with fail
  go_ret
  exact ⟨ret_int E.out, rfl⟩
theorem refTill_any (a b : Int) (w : World) :
    Calls Tryz.prog 92 #[.int .i64 a, .int .i64 b] w fun e w' => e = .returned (.int .i64 ((b - a) % 86400)) ∧ w = w' := by
  obtain ⟨T, hT⟩ : ∃ T, T = b % 86400 := ⟨_, rfl⟩
  obtain ⟨D, hD⟩ : ∃ D, D = a % 86400 := ⟨_, rfl⟩
  have b0 : 0 ≤ T ∧ T < 86400 := by omega
  have b1 : 0 ≤ D ∧ D < 86400 := by omega
  have e : (T - D) % 86400 = (b - a) % 86400 := by omega
  have E := Lib.hid e
  have HT := Lib.hid hT
  have HD := Lib.hid hD
  clear hT hD e
  go_enter Tryz.func92, Tryz.ntmps92
  go_wp2_with fail
  refine (mod_hid b T HT _).mono ?_
  rintro e w' ⟨rfl, rfl⟩
  go_wp2_with fail
  refine (mod_hid a D HD _).mono ?_
  rintro e w' ⟨rfl, rfl⟩
  go_wp2_with fail
  refine (mod_any _ _).mono ?_
  rintro e w' ⟨rfl, rfl⟩
  go_wp2_with fail
  go_ret
  exact ⟨ret_int E.out, rfl⟩
theorem two_sub (s : ByteArray) (a b : Nat) (hab : b = a + 2) (hb : b ≤ s.size) (w : World) :
    Calls Tryz.prog 114 #[.string (s.extract a b)] w fun e w' => e = .returned (.tuple #[.int .i64 (twoN (bt s a) (bt s (a + 1))), .bool (twoB (bt s a) (bt s (a + 1)))]) ∧ Gr w w' := by
  have h := two_any (s.extract a b) (by simp; omega) (by simp; omega) w
  rw [bt_extract s a b 0 (by omega) hb, bt_extract s a b 1 (by omega) hb] at h
  exact h
theorem parse_any (s : ByteArray) (w : World) (hs : s.size ≤ maxLen) :
    Calls Tryz.prog 84 #[.string s] w fun e w' => e = .returned (.tuple #[.int .i64 (clkN s), .bool (clkB s)]) ∧ Gr w w' := by
  by_cases h8 : s.size = 8
  · have g2 := bt_get s 2 (by omega)
    have g5 := bt_get s 5 (by omega)
    have l8 : 8 ≤ s.size := by omega
    have G2 := Lib.hid g2
    have G5 := Lib.hid g5
    have H8 := Lib.hid h8
    clear g2 g5
    have n0 := twoN_bd (bt s 0) (bt s 1)
    have n3 := twoN_bd (bt s 3) (bt s 4)
    have n6 := twoN_bd (bt s 6) (bt s 7)
    obtain ⟨n01, n02⟩ := n0
    obtain ⟨n31, n32⟩ := n3
    obtain ⟨n61, n62⟩ := n6
    go_enter Tryz.func84, Tryz.ntmps84
    go_wp2_with (first | (go_at_call 114; refine (two_sub s _ _ rfl (by omega) _).mono ?_; rintro e w' ⟨rfl, hb⟩))
    all_goals go_ret2
    all_goals first
      | (have hB : clkB s = false := by
           cases hq : clkB s with
           | false => rfl
           | true =>
             exfalso
             obtain ⟨_, i2, i5, a, b, c, a1, b1, c1⟩ := clkB_parts hq
             rw [G2.out] at i2
             rw [G5.out] at i5
             first | omega | (simp_all; done) | (simp_all; omega)
         have hN : clkN s = 0 := by unfold clkN; rw [hB]; rfl
         refine ⟨ret_ib hN.symm hB.symm, ?_⟩
         first | exact Gr.refl _ | exact Gr.trans (by assumption) (Gr.trans (by assumption) (by assumption)))
      | (have hB : clkB s = true := by
           unfold clkB
           rw [G2.out, G5.out]
           simp_all <;> omega
         have hN : clkN s = (twoN (bt s 0) (bt s 1) * 60 + twoN (bt s 3) (bt s 4)) * 60 + twoN (bt s 6) (bt s 7) := by unfold clkN; rw [hB]; rfl
         refine ⟨ret_ib hN.symm hB.symm, ?_⟩
         exact Gr.trans (by assumption) (Gr.trans (by assumption) (by assumption)))
  · have hB : clkB s = false := by unfold clkB; simp [h8]
    have hN : clkN s = 0 := by unfold clkN; rw [hB]; rfl
    have HB := Lib.hid hB
    have HN := Lib.hid hN
    have h8' : ((s.size : Int) != 8) = true := by rw [bne_iff_ne]; omega
    clear hB hN h8
    go_enter Tryz.func84, Tryz.ntmps84
    go_wp2
    go_ret2
    exact ⟨ret_ib HN.out.symm HB.out.symm, Gr.refl _⟩
end Go.Proofs.YtgjnlgcdpbilfaaGreatDoor
