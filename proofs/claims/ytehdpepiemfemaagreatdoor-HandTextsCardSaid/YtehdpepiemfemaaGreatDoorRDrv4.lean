/- The reference's signed and ParseDriver; SameInts. -/
import Derived.Test.YtehdpepiemfemaaGreatDoorRows
import Derived.Test.YtehdpepiemfemaaGreatDoorRDrv2
import Derived.Test.YtehdpepiemfemaaGreatDoorRWrd4
import Derived.Deep.Cut
namespace Go.Proofs.YtehdpepiemfemaaGreatDoor
open Go.ChangeShapes Go.WideShapes Go.ChangeAt Go.RowKit
set_option linter.unusedVariables false
set_option linter.unusedSimpArgs false
def sgnR (x : ByteArray) : Int × Bool :=
  if 1 < x.size ∧ bt x 0 = 45 then (-(numN (x.extract 1 x.size) 3), numB (x.extract 1 x.size) 3 && decide (0 < numN (x.extract 1 x.size) 3)) else (numN x 4, numB x 4 && decide (numN x 4 ≤ 1000))
theorem numN3_bd (s : ByteArray) : 0 ≤ numN s 3 ∧ numN s 3 ≤ 999 := by
  unfold numN
  by_cases h : numB s 3 = true
  · rw [if_pos h]
    have h' := (numB_iff s 3).1 h
    obtain ⟨-, -, -, h4, -, h6⟩ := h'
    have hb := nvB_bd s s.size h6
    refine ⟨hb.1, ?_⟩
    have hp : (10 : Int) ^ s.size ≤ 10 ^ 3 := by
      have : (10 : Nat) ^ s.size ≤ 10 ^ 3 := Nat.pow_le_pow_right (by omega) (by omega)
      exact_mod_cast this
    have : (10 : Int) ^ 3 = 1000 := by decide
    omega
  · rw [if_neg h]; omega
theorem sgnR_bd (x : ByteArray) : -9999 ≤ (sgnR x).1 ∧ (sgnR x).1 ≤ 9999 := by
  unfold sgnR
  have h1 := numN_bd x
  have h2 := numN3_bd (x.extract 1 x.size)
  split <;> (dsimp only; omega)
def rparseD (s : ByteArray) : Option Drv :=
  if s = bEager then some ⟨1, []⟩ else if s = bCareful then some ⟨2, []⟩ else match wdB s with
  | none => none
  | some [] => none
  | some (k :: l) => if ¬ k = bTape ∨ 65 < l.length + 1 then none else match numsF sgnR l with
    | none => none
    | some T => some ⟨3, T⟩
set_option maxRecDepth 100000 in
set_option maxHeartbeats 1000000 in
theorem signed_any (x : ByteArray) (hx : x.size ≤ maxLen) (w : World) :
    Calls Tryz.prog 50 #[.string x] w fun e w' => e = .returned (.tuple #[.int .i64 (sgnR x).1, .bool (sgnR x).2]) ∧ w' = w := by
  unfold maxLen at hx
  by_cases h1 : 1 < x.size
  · have h0 : 0 < x.size := by omega
    have hg := bt_get x 0 h0
    have hi : 1 < (x.size : Int) := by omega
    by_cases h2 : bt x 0 = 45
    · have HR : Hid (sgnR x = (-(numN (x.extract 1 x.size) 3), numB (x.extract 1 x.size) 3 && decide (0 < numN (x.extract 1 x.size) 3))) := by show _ = _; unfold sgnR; rw [if_pos ⟨h1, h2⟩]
      have t1 : ((x[0].toNat : Int) == 45) = true := by rw [← hg, h2]; rfl
      have hsz : (x.extract 1 x.size).size ≤ maxLen := by unfold maxLen; rw [ByteArray.size_extract]; omega
      have HN := Lib.hid (fun w' => refNumber_any (x.extract 1 x.size) 3 hsz w')
      have hbd := numN3_bd (x.extract 1 x.size)
      generalize numN (x.extract 1 x.size) 3 = n at HR HN hbd
      generalize numB (x.extract 1 x.size) 3 = ok at HR HN
      generalize sgnR x = R at HR ⊢
      clear h2 hg hsz
      cases ok
      · have HQ : Hid (R = (-n, false)) := HR.out
        clear HR
        go_enter Tryz.func50, Tryz.ntmps50
        go_wp2_with (first | (go_at_call 83; (with_reducible refine (HN.out _).mono ?_); rintro e w1 ⟨rfl, hq⟩; obtain rfl := hq.symm) | fail)
        go_ret2
        exact ⟨by rw [HQ.out]; rfl, rfl⟩
      · have HQ : Hid (R = (-n, decide (0 < n))) := HR.out
        clear HR
        go_enter Tryz.func50, Tryz.ntmps50
        go_wp2_with (first | (go_at_call 83; (with_reducible refine (HN.out _).mono ?_); rintro e w1 ⟨rfl, hq⟩; obtain rfl := hq.symm) | fail)
        go_ret2
        exact ⟨by rw [HQ.out]; rfl, rfl⟩
    · have HR : Hid (sgnR x = (numN x 4, numB x 4 && decide (numN x 4 ≤ 1000))) := by show _ = _; unfold sgnR; rw [if_neg (fun h => h2 h.2)]
      have t1 : ((x[0].toNat : Int) == 45) = false := by rw [← hg]; simpa using h2
      have HN := Lib.hid (fun w' => refNumber_any x 4 (by unfold maxLen; omega) w')
      generalize numN x 4 = n at HR HN
      generalize numB x 4 = ok at HR HN
      generalize sgnR x = R at HR ⊢
      clear h2 hg
      cases ok
      · have HQ : Hid (R = (n, false)) := HR.out
        clear HR
        go_enter Tryz.func50, Tryz.ntmps50
        go_wp2_with (first | (go_at_call 83; (with_reducible refine (HN.out _).mono ?_); rintro e w1 ⟨rfl, hq⟩; obtain rfl := hq.symm) | fail)
        go_ret2
        exact ⟨by rw [HQ.out]; rfl, rfl⟩
      · have HQ : Hid (R = (n, decide (n ≤ 1000))) := HR.out
        clear HR
        go_enter Tryz.func50, Tryz.ntmps50
        go_wp2_with (first | (go_at_call 83; (with_reducible refine (HN.out _).mono ?_); rintro e w1 ⟨rfl, hq⟩; obtain rfl := hq.symm) | fail)
        go_ret2
        exact ⟨by rw [HQ.out]; rfl, rfl⟩
  · have HR : Hid (sgnR x = (numN x 4, numB x 4 && decide (numN x 4 ≤ 1000))) := by show _ = _; unfold sgnR; rw [if_neg (fun h => h1 h.1)]
    have hi : ¬ 1 < (x.size : Int) := by omega
    have HN := Lib.hid (fun w' => refNumber_any x 4 (by unfold maxLen; omega) w')
    generalize numN x 4 = n at HR HN
    generalize numB x 4 = ok at HR HN
    generalize sgnR x = R at HR ⊢
    cases ok
    · have HQ : Hid (R = (n, false)) := HR.out
      clear HR
      go_enter Tryz.func50, Tryz.ntmps50
      go_wp2_with (first | (go_at_call 83; (with_reducible refine (HN.out _).mono ?_); rintro e w1 ⟨rfl, hq⟩; obtain rfl := hq.symm) | fail)
      go_ret2
      exact ⟨by rw [HQ.out]; rfl, rfl⟩
    · have HQ : Hid (R = (n, decide (n ≤ 1000))) := HR.out
      clear HR
      go_enter Tryz.func50, Tryz.ntmps50
      go_wp2_with (first | (go_at_call 83; (with_reducible refine (HN.out _).mono ?_); rintro e w1 ⟨rfl, hq⟩; obtain rfl := hq.symm) | fail)
      go_ret2
      exact ⟨by rw [HQ.out]; rfl, rfl⟩
set_option maxRecDepth 100000 in
set_option maxHeartbeats 1000000 in
theorem refParse_any (s : ByteArray) (hs : s.size ≤ 1048576) (w : World) :
    Calls Tryz.prog 21 #[.string s] w (RetD w (rparseD s)) := by
  have HW := Lib.hid (fun (w' : World) (g : Gr w w') => refWords_cap s hs w')
  have g0 : Gr w (w.alloc (.cells #[.int .i64 0, .slice none 0 0] 35)) := (Gr.refl _).alloc _
  have HR0 : Hid (∀ w1, Gr (w.alloc (.cells #[.int .i64 0, .slice none 0 0] 35)) w1 → w.heap.size < w1.heap.size ∧ w1.cell? ⟨w.heap.size, 0, none⟩ = some (.int .i64 0) ∧ w1.cell? ⟨w.heap.size, 1, none⟩ = some (.slice none 0 0) ∧ w1.frozen? ⟨w.heap.size, 0, none⟩ = false ∧ w1.frozen? ⟨w.heap.size, 1, none⟩ = false) := by
    intro w1 g
    have hz : w.heap.size < (w.alloc (.cells #[.int .i64 0, .slice none 0 0] 35)).heap.size := by simp
    exact ⟨Nat.lt_of_lt_of_le hz g.size, (g.cell _ _ hz).trans (by rw [World.cell?_alloc_mark]; rfl), (g.cell _ _ hz).trans (by rw [World.cell?_alloc_mark]; rfl), (g.frozen _ _ hz).trans (by simp), (g.frozen _ _ hz).trans (by simp)⟩
  by_cases e1 : s = bEager
  · have HQ : Hid (rparseD s = some ⟨1, []⟩) := by show _ = _; unfold rparseD; rw [if_pos e1]
    generalize rparseD s = R at HQ ⊢
    subst e1
    have u1 : (bEager.toList == [101, 97, 103, 101, 114]) = true := by rw [eagerL]; rfl
    clear HW
    go_enter Tryz.func21, Tryz.ntmps21
    go_wp2_with fail
    refine bodyPost_ret (v := .tuple #[.agg #[.int .i64 1, .slice none 0 0], .bool true]) (by simp [results, Tryz.results21, go_sem]) rfl ?_
    rw [HQ.out]
    refine ⟨_, rfl, ⟨none, 0, rfl, ⟨none, 0, rfl, by simp, .inl rfl⟩⟩, ?_⟩
    first | exact g0 | exact (Gr.refl _).alloc _ | exact (g0.setCell (Nat.le_refl _) _).setCell (Nat.le_refl _) _
  by_cases e2 : s = bCareful
  · have HQ : Hid (rparseD s = some ⟨2, []⟩) := by show _ = _; unfold rparseD; rw [if_neg e1, if_pos e2]
    generalize rparseD s = R at HQ ⊢
    subst e2
    have u1 : (bCareful.toList == [101, 97, 103, 101, 114]) = false := by rw [carefulL]; rfl
    have u2 : (bCareful.toList == [99, 97, 114, 101, 102, 117, 108]) = true := by rw [carefulL]; rfl
    clear HW e1
    go_enter Tryz.func21, Tryz.ntmps21
    go_wp2_with fail
    refine bodyPost_ret (v := .tuple #[.agg #[.int .i64 2, .slice none 0 0], .bool true]) (by simp [results, Tryz.results21, go_sem]) rfl ?_
    rw [HQ.out]
    refine ⟨_, rfl, ⟨none, 0, rfl, ⟨none, 0, rfl, by simp, .inl rfl⟩⟩, ?_⟩
    first | exact g0 | exact (Gr.refl _).alloc _ | exact (g0.setCell (Nat.le_refl _) _).setCell (Nat.le_refl _) _
  have HP : Hid (rparseD s = match wdB s with
    | none => none
    | some [] => none
    | some (k :: l) => if ¬ k = bTape ∨ 65 < l.length + 1 then none else match numsF sgnR l with
      | none => none
      | some T => some ⟨3, T⟩) := by show _ = _; unfold rparseD; rw [if_neg e1, if_neg e2]
  generalize rparseD s = R at HP ⊢
  have s1 := str_ne e1
  have s2 := str_ne e2
  rw [eagerL] at s1
  rw [carefulL] at s2
  clear e1 e2
  cases hW : wdB s with
  | none =>
    have HW1 : Hid (∀ w', Gr w w' → Calls Tryz.prog 49 #[.string s] w' fun e w'' => ∃ v, e = .returned (.tuple #[v, .bool false]) ∧ Gr w' w'') := fun w' g => (HW.out w' g).mono fun e w'' ⟨v, h1, _, _, h2⟩ => ⟨v, by rw [hW] at h1; exact h1, h2⟩
    rw [hW] at HP
    have HQ : Hid (R = none) := HP.out
    clear HP HW hW
    go_enter Tryz.func21, Tryz.ntmps21
    go_wp2_with (first | (go_at_call 49; (with_reducible refine (HW1.out _ g0).mono ?_); rintro e w1 ⟨v, rfl, g1⟩; obtain ⟨hz1, r0, r1, f0, f1⟩ := HR0.out _ g1) | fail)
    refine bodyPost_ret (v := .tuple #[.agg #[.int .i64 0, .slice none 0 0], .bool false]) (by simp [results, Tryz.results21, go_sem, r0, r1, f0, f1, hz1]) rfl ?_
    rw [HQ.out]
    exact ⟨_, rfl, ⟨none, 0, rfl, ⟨none, 0, rfl, by simp, .inl rfl⟩⟩, ((g0.trans g1).setCell (Nat.le_refl _) _).setCell (Nat.le_refl _) _⟩
  | some L =>
    obtain ⟨hne, hlen, hsz⟩ := wdB_ne hW
    obtain ⟨k, l, rfl⟩ : ∃ k l, L = k :: l := by
      cases L with
      | nil => exact absurd rfl hne
      | cons k l => exact ⟨k, l, rfl⟩
    have HW1 : Hid (∀ w', Gr w w' → Calls Tryz.prog 49 #[.string s] w' fun e w'' => ∃ b o c, e = .returned (.tuple #[.slice (some ⟨b, o, none⟩) (l.length + 1) c, .bool true]) ∧ l.length + 1 ≤ c ∧ b < w''.heap.size ∧ w''.cell? ⟨b, o, none⟩ = some (.string k) ∧ Hid (∀ (i : Nat) (hi : i < l.length), w''.cell? ⟨b, o + 1 + i, none⟩ = some (.string l[i])) ∧ Gr w' w'') := fun w' g => (HW.out w' g).mono fun e w'' ⟨v, h1, hv, hc, h2⟩ => by
      rw [hW] at h1 hv
      obtain ⟨a, c, rfl, hm, hx⟩ := id hv
      have hcc := hc _ _ _ rfl
      rcases hx with hx | ⟨b, o, rfl, hb, hcell⟩
      · cases hx
      · refine ⟨b, o, c, h1.trans (by simp), by simpa using hcc, hb, hcell 0 _ rfl, fun i hi => ?_, h2⟩
        have := hcell (i + 1) (.string l[i]) (by simp [hi])
        rw [show o + 1 + i = o + (i + 1) from by omega]; exact this
    rw [hW] at HP
    dsimp only at HP
    clear hW HW hne
    by_cases k3 : k = bTape
    · subst k3
      have u3 : (bTape.toList == [116, 97, 112, 101]) = true := by rw [tapeL]; rfl
      by_cases hl65 : 65 < l.length + 1
      · have HQ : Hid (R = none) := by show _ = _; rw [HP.out, if_pos (.inr hl65)]
        have hl1 : 65 < (l.length : Int) + 1 := by omega
        clear HP
        go_enter Tryz.func21, Tryz.ntmps21
        go_wp2_with (first | (go_at_call 49; (with_reducible refine (HW1.out _ g0).mono ?_); rintro e w1 ⟨b, o, c, rfl, hc, hb, hk, HL, g1⟩; obtain ⟨hz1, r0, r1, f0, f1⟩ := HR0.out _ g1; obtain ⟨A, HSL, HA⟩ := tail_slice b o (l.length + 1) c (by omega) hc) | fail)
        (refine bodyPost_ret (v := .tuple #[.agg #[.int .i64 0, .slice none 0 0], .bool false]) (by simp [results, Tryz.results21, go_sem, r0, r1, f0, f1, hz1]) rfl ?_; rw [HQ.out]; exact ⟨_, rfl, ⟨none, 0, rfl, ⟨none, 0, rfl, by simp, .inl rfl⟩⟩, (Gr.setCell (Gr.setCell (g0.trans g1) (Nat.le_refl _) _) (Nat.le_refl _) _)⟩)
      have HP1 : Hid (R = match numsF sgnR l with
        | none => none
        | some T => some ⟨3, T⟩) := by show _ = _; rw [HP.out, if_neg (by simpa using hl65)]
      have hl1 : ¬ 65 < (l.length : Int) + 1 := by omega
      clear HP
      have HLN : Hid (∀ x ∈ l, x.size ≤ maxLen) := fun x hx => by have := hsz x (List.mem_cons_of_mem _ hx); unfold maxLen; omega
      have hll : l.length ≤ 1048577 := by simp at hlen; omega
      clear hsz hlen
      go_enter Tryz.func21, Tryz.ntmps21
      go_wp2_with (first | (go_at_call 49; (with_reducible refine (HW1.out _ g0).mono ?_); rintro e w1 ⟨b, o, c, rfl, hc, hb, hk, HL, g1⟩; obtain ⟨hz1, r0, r1, f0, f1⟩ := HR0.out _ g1; obtain ⟨A, HSL, HA⟩ := tail_slice b o (l.length + 1) c (by omega) hc) | fail)
      have HS0 : Hid (ParR sgnR w w1 w1.heap.size 3 l 0 (w1.alloc (.cells #[.int .i64 3, .slice none 0 0] 35))) := ParR.start (g0.trans g1) 3 l
      have hww : w.heap.size < w1.heap.size := hz1
      obtain ⟨i0, hi0, hi1, hi2, hi3⟩ := info_parts Tryz.infoI
      go_loopw [41] (fun x wr => ∃ i : Nat, x = .int .i64 i ∧ i ≤ l.length ∧ ParR sgnR w w1 w1.heap.size 3 l i wr) (fun x _ => l.length - (intOf x).toNat)
      case atStart => exact ⟨0, rfl, Nat.zero_le _, HS0.out⟩
      case round =>
        clear HS0
        obtain ⟨i, rfl, hi, hR⟩ := hrel
        obtain ⟨V, T, hT, gr, z, c0, c1, fr0, fr1, ho⟩ := hR
        obtain ⟨hz, r0, r1, f0, f1⟩ := HR0.out _ (g1.trans gr)
        obtain ⟨va, vc, rfl⟩ := own_form ho
        have hTl := numsF_len hT
        rw [List.length_take, Nat.min_eq_left hi] at hTl
        have hTle : T.length ≤ 1048577 := by omega
        clear hTl
        by_cases hlt : i < l.length
        · have hlt1 : (i : Int) < (l.length : Int) := by omega
          obtain rfl := HA (by omega)
          have y0 := (gr.cell _ _ hb).trans (HL.out i hlt)
          have HN := Lib.hid (fun w' => signed_any l[i] (HLN.out _ (List.getElem_mem hlt)) w')
          have HT1 : Hid ((sgnR l[i]).2 = true → numsF sgnR (l.take (i + 1)) = some (T ++ [(sgnR l[i]).1])) := fun h => by
            rw [List.take_succ_eq_append_getElem hlt]; exact numsF_snoc _ _ _ _ hT h
          have HT0 : Hid ((sgnR l[i]).2 = false → R = none) := fun h => by
            rw [HP1.out, numsF_bad hlt h]
          have hnb := sgnR_bd l[i]
          generalize sgnR l[i] = nr at HN HT1 HT0 hnb
          generalize l[i] = x at y0 HN
          obtain ⟨n, ok⟩ := nr
          dsimp only at HN HT1 HT0 hnb
          cases ok
          · have HQ := Lib.hid (HT0.out rfl)
            clear HT0 HT1
            go_wp2_with (first | (go_at_call 50; (with_reducible refine (HN.out _).mono ?_); rintro e w2 ⟨rfl, hq⟩; obtain rfl := hq.symm) | fail)
            (refine bodyPost_ret (v := .tuple #[.agg #[.int .i64 0, .slice none 0 0], .bool false]) (by simp [results, Tryz.results21, go_sem, r0, r1, f0, f1, hz]) rfl ?_; rw [HQ.out]; exact ⟨_, rfl, ⟨none, 0, rfl, ⟨none, 0, rfl, by simp, .inl rfl⟩⟩, (Gr.setCell (Gr.setCell ((g0.trans g1).trans gr) (Nat.le_refl _) _) (Nat.le_refl _) _)⟩)
          · have HT2 := Lib.hid (HT1.out rfl)
            have HO : Hid (wr.ownsRow (w1.heap.size + 1) 3 1 (.slice va T.length vc) T.length (T.map (Value.int .i64))) := ho
            clear HT0 HT1 ho
            go_wp2_with (first | (go_at_call 50; (with_reducible refine (HN.out _).mono ?_); rintro e w2 ⟨rfl, hq⟩; obtain rfl := hq.symm) | (at_builtin; refine wpList_append_own _ rfl _ _ 28 rfl (w1.heap.size + 1) 3 i0 (.int .i64 0) 1 8 Tryz.underlying28 hi0 hi1 hi2 hi3 rfl (by decide) _ _ _ rfl (HO.out.alloc _) ⟨wr.heap.size, 0, none⟩ 1 1 [.int .i64 n] rfl rfl ?c1 ?c2 ?c3 ?c4 ?c5 ?_))
            case c1 => exact cell_one_new _ _ _
            case c2 => simp [Value.oneCell']
            case c3 => unfold maxLen; omega
            case c4 => omega
            case c5 => simp; omega
            intro v' w3 hown' hgrow _
            obtain ⟨⟨z3, d0, d1, e0, e1⟩, HNX⟩ := ParR.next (w := w) (i := i) gr (Nat.le_refl _) z c0 c1 fr0 fr1 HO.out ((Gr.refl wr).alloc _) hgrow hown' HT2.out
            obtain ⟨xa, xc, rfl⟩ := own_form hown'
            have HNX := Lib.hid HNX
            clear hown' hgrow HO HT2 c0 c1 fr0 fr1 hT hz r0 r1 f0 f1
            go_wp2_with fail
            go_roundw
            case rel => exact ⟨i + 1, by go_num, hlt, HNX.out⟩
            case measure => simp [intOf]; omega
        · have hlt1 : ¬ (i : Int) < (l.length : Int) := by omega
          obtain rfl : i = l.length := by omega
          rw [List.take_length] at hT
          have HQ : Hid (R = some ⟨3, T⟩) := by show _ = _; rw [HP1.out, hT]
          have HV := Lib.hid (ho.vals (by unfold maxLen; omega))
          have hbl : ∀ bq, (Value.slice va T.length vc).ownBlock = some bq → bq ≠ w.heap.size := fun bq e => by have := own_base ho bq e; omega
          clear hT HP1 ho HL HSL HA hlt hi hTle
          go_wp2_with fail
          refine bodyPost_ret (v := .tuple #[.agg #[.int .i64 3, .slice va T.length vc], .bool true]) (by simp [results, Tryz.results21, go_sem, r0, r1, f0, f1, hz]) rfl ?_
          rw [HQ.out]
          have gz : Gr w wr := (g0.trans g1).trans gr
          have hrv : ∀ u u', IsVals ((wr.setCell ⟨w.heap.size, 0, none⟩ u).setCell ⟨w.heap.size, 1, none⟩ u') (.slice va T.length vc) (T.map (Value.int .i64)) := fun u u' => vals_set (vals_set HV.out hbl u) hbl u'
          exact ⟨_, rfl, ⟨va, vc, rfl, hrv _ _⟩, (gz.setCell (Nat.le_refl _) _).setCell (Nat.le_refl _) _⟩
    have HQ : Hid (R = none) := by show _ = _; rw [HP.out, if_pos (.inl k3)]
    have u3 := str_ne k3
    rw [tapeL] at u3
    clear HP k3
    go_enter Tryz.func21, Tryz.ntmps21
    go_wp2_with (first | (go_at_call 49; (with_reducible refine (HW1.out _ g0).mono ?_); rintro e w1 ⟨b, o, c, rfl, hc, hb, hk, HL, g1⟩; obtain ⟨hz1, r0, r1, f0, f1⟩ := HR0.out _ g1; obtain ⟨A, HSL, HA⟩ := tail_slice b o (l.length + 1) c (by omega) hc) | fail)
    (refine bodyPost_ret (v := .tuple #[.agg #[.int .i64 0, .slice none 0 0], .bool false]) (by simp [results, Tryz.results21, go_sem, r0, r1, f0, f1, hz1]) rfl ?_; rw [HQ.out]; exact ⟨_, rfl, ⟨none, 0, rfl, ⟨none, 0, rfl, by simp, .inl rfl⟩⟩, (Gr.setCell (Gr.setCell (g0.trans g1) (Nat.le_refl _) _) (Nat.le_refl _) _)⟩)
end Go.Proofs.YtehdpepiemfemaaGreatDoor
