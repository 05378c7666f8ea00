/- Drv2: hand.Parse.
Kn25: Hand's known.
Ref3: the reference's Outs.
Ref4: the reference's Through.
Ref5: the reference's Step.
Ref6: the reference's Sees. -/
import Derived.Test.YtgjnlgcdpbilfaaDoorRows
import Derived.Test.YtgjnlgcdpbilfaaDoorB11
import Derived.Test.YtgjnlgcdpbilfaaDoorB8
import Derived.Deep.Cut
import Derived.Test.YtgjnlgcdpbilfaaDoorB10
import Derived.Test.YtgjnlgcdpbilfaaDoorB2
import Derived.Test.YtgjnlgcdpbilfaaDoorB9
namespace Go.Proofs.YtgjnlgcdpbilfaaDoor
open Go.ChangeShapes Go.WideShapes Go.ChangeAt Go.RowKit
set_option linter.unusedVariables false
set_option linter.unusedSimpArgs false
theorem wdB_ne {s : ByteArray} {L : List ByteArray} (h : wdB s = some L) : L ≠ [] ∧ L.length ≤ s.size + 1 ∧ ∀ x ∈ L, x.size ≤ s.size := by
  rw [wdB_pcs] at h
  split at h
  · cases h
    refine ⟨?_, ?_, fun x hx => pcs_size hx⟩
    · intro e
      have := pcs_len s
      rw [e] at this
      simp at this
    · rw [pcs_len]
      have := Lib.countB_le blank (by rw [blank_size]; omega) s.size s (Nat.le_refl _)
      omega
  · cases h
theorem tail_slice (b o n c : Nat) (hn : 1 ≤ n) (hc : n ≤ c) : ∃ A, (∀ w', (Instr.slice 78 (.slice (some ⟨b, o, none⟩) n c) (some (.int .i64 1)) none none).run Tryd.prog w' = .ok (.slice A (n - 1) (c - 1)) w') ∧ (1 < n → A = some ⟨b, o + 1, none⟩) := by
  refine ⟨if c = 1 then some ⟨b, o, none⟩ else some ⟨b, o + 1, none⟩, fun w' => ?_, fun h => by rw [if_neg (by omega)]⟩
  rw [run_slice_l (w := w') (P := Tryd.prog) 78 _ n c (by kernel_rfl) .i64 1 (by omega) (by omega)]
  have hs : (sizeOf (Tryd.prog.elem 78)).run Tryd.prog w' = .ok 1 w' := by kernel_rfl
  rw [hs]
  simp only [Result.andThen, sliced]
  rw [show Int.toNat 1 = 1 from rfl]
  by_cases h1 : c = 1
  · rw [if_pos h1, if_pos h1]
  · rw [if_neg h1, if_neg h1]; rfl
theorem eagerL : bEager.toList = [101, 97, 103, 101, 114] := by rw [ByteArray.toList_eq]; rfl
theorem carefulL : bCareful.toList = [99, 97, 114, 101, 102, 117, 108] := by rw [ByteArray.toList_eq]; rfl
theorem tapeL : bTape.toList = [116, 97, 112, 101] := by rw [ByteArray.toList_eq]; rfl
def parK (kd : Int) (l : List ByteArray) : Option Drv :=
  match numsF numR l with
  | none => none
  | some T => if mayD ⟨kd, T⟩ then some ⟨kd, T⟩ else none
theorem par_kind {k : ByteArray} {kd : Int} (l : List ByteArray) (h : kindW k = kd) (h0 : kd ≠ 0) : (if kindW k = 0 then none else match numsF numR l with
      | none => none
      | some T => if mayD ⟨kindW k, T⟩ then some (⟨kindW k, T⟩ : Drv) else none) = parK kd l := by
  rw [if_neg (by omega), h]; rfl
def ParR (f : ByteArray → Int × Bool) (w w1 : World) (bd : Nat) (kd : Int) (l : List ByteArray) (i : Nat) (wr : World) : Prop :=
  ∃ V T, numsF f (l.take i) = some T ∧ Gr w1 wr ∧ bd < wr.heap.size ∧ wr.cell? ⟨bd, 0, none⟩ = some (.int .i64 kd) ∧ wr.cell? ⟨bd, 1, none⟩ = some V ∧ wr.frozen? ⟨bd, 0, none⟩ = false ∧ wr.frozen? ⟨bd, 1, none⟩ = false ∧ OwnI (bd + 1) wr V T
theorem ParR.start {f : ByteArray → Int × Bool} {w w1 : World} (g : Gr w w1) (kd : Int) (l : List ByteArray) : ParR f w w1 w1.heap.size kd l 0 (w1.alloc (.cells #[.int .i64 kd, .slice none 0 0] 46)) :=
  ⟨_, [], rfl, (Gr.refl _).alloc _, by simp, by rw [World.cell?_alloc_mark]; rfl, by rw [World.cell?_alloc_mark]; rfl, by simp, by simp, OwnI.nil _ _⟩
theorem own_set {w : World} {B : Nat} {e : TypeId} {sz n : Nat} {v : Value} {xs : List Value} (h : w.ownsRow B e sz v n xs) (a : Addr) (ha : a.block < B) (u : Value) : (w.setCell a u).ownsRow B e sz v n xs := by
  refine ⟨h.1, ?_⟩
  rcases h.2 with h | ⟨g, cap, cur, rfl, hg, hh, rest⟩
  · exact .inl h
  · exact .inr ⟨g, cap, cur, rfl, hg, by rw [heap_setCell_other _ _ _ _ (by omega)]; exact hh, rest⟩
theorem vals_set {w : World} {a : Option Addr} {n c : Nat} {xs : List Value} {b o : Nat} (h : IsVals w (.slice a n c) xs) (hne : ∀ bq, (Value.slice a n c).ownBlock = some bq → bq ≠ b) (u : Value) : IsVals (w.setCell ⟨b, o, none⟩ u) (.slice a n c) xs := by
  obtain ⟨a', c', e, hm, hx⟩ := h
  refine ⟨a', c', e, hm, ?_⟩
  rcases hx with hx | ⟨bb, off, rfl, hb, hc⟩
  · exact .inl hx
  · cases e
    refine .inr ⟨bb, off, rfl, by simpa using hb, fun i x hi => ?_⟩
    have hn := hne bb rfl
    rw [World.cell?_setCell_other _ _ _ _ (by intro e; exact hn (by injection e with e1; exact e1.symm))]
    exact hc i x hi
theorem box_kept {wr wA w3 : World} {bd : Nat} {v : Value} (gA : Gr wr wA) (z : bd < wr.heap.size) (hg : wA.grownBy w3 v.ownBlock) (hne : ∀ k, v.ownBlock = some k → bd + 1 ≤ k) : w3.heap[bd]? = wr.heap[bd]? :=
  (hg.block bd (Nat.lt_of_lt_of_le z gA.size) (fun e => by have := hne bd e.symm; omega)).trans (gA.block bd z)
theorem ParR.next {f : ByteArray → Int × Bool} {w w1 wr wA w3 : World} {bd i : Nat} {kd n : Int} {l : List ByteArray} {V v' : Value} {T : List Int} (hgr : Gr w1 wr) (hbd : w1.heap.size ≤ bd) (z : bd < wr.heap.size) (c0 : wr.cell? ⟨bd, 0, none⟩ = some (.int .i64 kd)) (c1 : wr.cell? ⟨bd, 1, none⟩ = some V) (f0 : wr.frozen? ⟨bd, 0, none⟩ = false) (f1 : wr.frozen? ⟨bd, 1, none⟩ = false)
    (ho : OwnI (bd + 1) wr V T) (gA : Gr wr wA) (hg : wA.grownBy w3 V.ownBlock) (hown : w3.ownsRow (bd + 1) 3 1 v' (T.length + 1) (T.map (Value.int .i64) ++ [.int .i64 n])) (hT : numsF f (l.take (i + 1)) = some (T ++ [n])) :
    (bd < w3.heap.size ∧ w3.cell? ⟨bd, 0, none⟩ = some (.int .i64 kd) ∧ w3.cell? ⟨bd, 1, none⟩ = some V ∧ w3.frozen? ⟨bd, 0, none⟩ = false ∧ w3.frozen? ⟨bd, 1, none⟩ = false) ∧ ParR f w w1 bd kd l (i + 1) (w3.setCell ⟨bd, 1, none⟩ v') := by
  have hb := box_kept gA z hg (own_base ho)
  have z3 : bd < w3.heap.size := Nat.lt_of_lt_of_le (Nat.lt_of_lt_of_le z gA.size) hg.size
  have d0 := (World.cell?_of_block (a := ⟨bd, 0, none⟩) hb).trans c0
  have d1 := (World.cell?_of_block (a := ⟨bd, 1, none⟩) hb).trans c1
  have e0 := (World.frozen?_of_block (a := ⟨bd, 0, none⟩) hb).trans f0
  have e1 := (World.frozen?_of_block (a := ⟨bd, 1, none⟩) hb).trans f1
  have g3 : Gr w1 w3 := Below.grown (hgr.trans gA) hg (hgr.trans gA).size (fun k e => by have := own_base ho k e; omega)
  exact ⟨⟨z3, d0, d1, e0, e1⟩, _, T ++ [n], hT, g3.setCell hbd _, by simpa using z3, (World.cell?_setCell_other _ _ _ _ (by simp)).trans d0, World.cell?_setCell_same _ _ _ d1, by simpa using e0, by simpa using e1, own_set (OwnI.snoc hown) _ (by simp) _⟩
set_option maxRecDepth 100000 in
set_option maxHeartbeats 1000000 in
theorem parse_any (s : ByteArray) (hs : s.size ≤ 1048576) (w : World) (ht : w.ShapedOpen Tryd.prog) :
    Calls Tryd.prog 13 #[.string s] w (RetD w (parseD s)) := by
  have HW := Lib.hid (fun (w' : World) (g : Gr w w') => words_cap s hs w' (shp_gr ht g))
  have g0 : Gr w (w.alloc (.cells #[.int .i64 0, .slice none 0 0] 46)) := (Gr.refl _).alloc _
  have HR0 : Hid (∀ w1, Gr (w.alloc (.cells #[.int .i64 0, .slice none 0 0] 46)) w1 → w.heap.size < w1.heap.size ∧ w1.cell? ⟨w.heap.size, 0, none⟩ = some (.int .i64 0) ∧ w1.cell? ⟨w.heap.size, 1, none⟩ = some (.slice none 0 0) ∧ w1.frozen? ⟨w.heap.size, 0, none⟩ = false ∧ w1.frozen? ⟨w.heap.size, 1, none⟩ = false) := by
    intro w1 g
    have hz : w.heap.size < (w.alloc (.cells #[.int .i64 0, .slice none 0 0] 46)).heap.size := by simp
    exact ⟨Nat.lt_of_lt_of_le hz g.size, (g.cell _ _ hz).trans (by rw [World.cell?_alloc_mark]; rfl), (g.cell _ _ hz).trans (by rw [World.cell?_alloc_mark]; rfl), (g.frozen _ _ hz).trans (by simp), (g.frozen _ _ hz).trans (by simp)⟩
  have HP : Hid (parseD s = match wdB s with
    | none => none
    | some [] => none
    | some (k :: l) => if kindW k = 0 then none else match numsF numR l with
      | none => none
      | some T => if mayD ⟨kindW k, T⟩ then some ⟨kindW k, T⟩ else none) := rfl
  generalize parseD s = R at HP ⊢
  cases hW : wdB s with
  | none =>
    have HW1 : Hid (∀ w', Gr w w' → Calls Tryd.prog 31 #[.string s] w' fun e w'' => ∃ v, e = .returned (.tuple #[v, .bool false]) ∧ Gr w' w'') := fun w' g => (HW.out w' g).mono fun e w'' ⟨v, h1, _, _, h2⟩ => ⟨v, by rw [hW] at h1; exact h1, h2⟩
    rw [hW] at HP
    have HQ : Hid (R = none) := HP.out
    clear HP HW hW
    go_enter Tryd.func13, Tryd.ntmps13
    go_wp2_with (first | (go_at_call 31; (with_reducible refine (HW1.out _ g0).mono ?_); rintro e w1 ⟨v, rfl, g1⟩; obtain ⟨hz1, r0, r1, f0, f1⟩ := HR0.out _ g1) | fail)
    refine bodyPost_ret (v := .tuple #[.agg #[.int .i64 0, .slice none 0 0], .bool false]) (by simp [results, Tryd.results13, go_sem, r0, r1, f0, f1, hz1]) rfl ?_
    rw [HQ.out]
    exact ⟨_, rfl, ⟨none, 0, rfl, ⟨none, 0, rfl, by simp, .inl rfl⟩⟩, ((g0.trans g1).setCell (Nat.le_refl _) _).setCell (Nat.le_refl _) _⟩
  | some L =>
    obtain ⟨hne, hlen, hsz⟩ := wdB_ne hW
    obtain ⟨k, l, rfl⟩ : ∃ k l, L = k :: l := by
      cases L with
      | nil => exact absurd rfl hne
      | cons k l => exact ⟨k, l, rfl⟩
    have HW1 : Hid (∀ w', Gr w w' → Calls Tryd.prog 31 #[.string s] w' fun e w'' => ∃ b o c, e = .returned (.tuple #[.slice (some ⟨b, o, none⟩) (l.length + 1) c, .bool true]) ∧ l.length + 1 ≤ c ∧ b < w''.heap.size ∧ w''.cell? ⟨b, o, none⟩ = some (.string k) ∧ Hid (∀ (i : Nat) (hi : i < l.length), w''.cell? ⟨b, o + 1 + i, none⟩ = some (.string l[i])) ∧ Gr w' w'') := fun w' g => (HW.out w' g).mono fun e w'' ⟨v, h1, hv, hc, h2⟩ => by
      rw [hW] at h1 hv
      obtain ⟨a, c, rfl, hm, hx⟩ := id hv
      have hcc := hc _ _ _ rfl
      rcases hx with hx | ⟨b, o, rfl, hb, hcell⟩
      · cases hx
      · refine ⟨b, o, c, h1.trans (by simp), by simpa using hcc, hb, hcell 0 _ rfl, fun i hi => ?_, h2⟩
        have := hcell (i + 1) (.string l[i]) (by simp [hi])
        rw [show o + 1 + i = o + (i + 1) from by omega]; exact this
    rw [hW] at HP
    dsimp only at HP
    clear hW HW hne
    by_cases k1 : k = bEager
    · subst k1
      have HP1 := Lib.hid (HP.out.trans (par_kind l (show kindW bEager = 1 from rfl) (by omega)))
      have u1 : (bEager.toList == [101, 97, 103, 101, 114]) = true := by rw [eagerL]; rfl
      clear HP
      have HLN : Hid (∀ x ∈ l, x.size ≤ maxLen) := fun x hx => by have := hsz x (List.mem_cons_of_mem _ hx); unfold maxLen; omega
      have hll : l.length ≤ 1048577 := by simp at hlen; omega
      clear hsz hlen
      go_enter Tryd.func13, Tryd.ntmps13
      go_wp2_with (first | (go_at_call 31; (with_reducible refine (HW1.out _ g0).mono ?_); rintro e w1 ⟨b, o, c, rfl, hc, hb, hk, HL, g1⟩; obtain ⟨hz1, r0, r1, f0, f1⟩ := HR0.out _ g1; obtain ⟨A, HSL, HA⟩ := tail_slice b o (l.length + 1) c (by omega) hc) | fail)
      have HS0 : Hid (ParR numR w w1 w1.heap.size 1 l 0 (w1.alloc (.cells #[.int .i64 1, .slice none 0 0] 46))) := ParR.start (g0.trans g1) 1 l
      have hww : w.heap.size < w1.heap.size := hz1
      obtain ⟨i0, hi0, hi1, hi2, hi3⟩ := info_parts Tryd.infoI
      go_loopw [35] (fun x wr => ∃ i : Nat, x = .int .i64 i ∧ i ≤ l.length ∧ ParR numR w w1 w1.heap.size 1 l i wr) (fun x _ => l.length - (intOf x).toNat)
      case atStart => exact ⟨0, rfl, Nat.zero_le _, HS0.out⟩
      case round =>
        clear HS0
        obtain ⟨i, rfl, hi, hR⟩ := hrel
        obtain ⟨V, T, hT, gr, z, c0, c1, fr0, fr1, ho⟩ := hR
        obtain ⟨hz, r0, r1, f0, f1⟩ := HR0.out _ (g1.trans gr)
        obtain ⟨va, vc, rfl⟩ := own_form ho
        have hTl := numsF_len hT
        rw [List.length_take, Nat.min_eq_left hi] at hTl
        have hTle : T.length ≤ 1048577 := by omega
        clear hTl
        by_cases hlt : i < l.length
        · have hlt1 : (i : Int) < (l.length : Int) := by omega
          obtain rfl := HA (by omega)
          have y0 := (gr.cell _ _ hb).trans (HL.out i hlt)
          have HN := Lib.hid (fun w' => num_any l[i] (HLN.out _ (List.getElem_mem hlt)) w')
          have HT1 : Hid ((numR l[i]).2 = true → numsF numR (l.take (i + 1)) = some (T ++ [(numR l[i]).1])) := fun h => by
            rw [List.take_succ_eq_append_getElem hlt]; exact numsF_snoc _ _ _ _ hT h
          have HT0 : Hid ((numR l[i]).2 = false → R = none) := fun h => by
            rw [HP1.out]; unfold parK; rw [numsF_bad hlt h]
          have hnb := numR_bd l[i]
          generalize numR l[i] = nr at HN HT1 HT0 hnb
          generalize l[i] = x at y0 HN
          obtain ⟨n, ok⟩ := nr
          dsimp only at HN HT1 HT0 hnb
          cases ok
          · have HQ := Lib.hid (HT0.out rfl)
            clear HT0 HT1
            go_wp2_with (first | (go_at_call 32; (with_reducible refine (HN.out _).mono ?_); rintro e w2 ⟨rfl, hq⟩; obtain rfl := hq.symm) | fail)
            (refine bodyPost_ret (v := .tuple #[.agg #[.int .i64 0, .slice none 0 0], .bool false]) (by simp [results, Tryd.results13, go_sem, r0, r1, f0, f1, hz]) rfl ?_; rw [HQ.out]; exact ⟨_, rfl, ⟨none, 0, rfl, ⟨none, 0, rfl, by simp, .inl rfl⟩⟩, (Gr.setCell (Gr.setCell ((g0.trans g1).trans gr) (Nat.le_refl _) _) (Nat.le_refl _) _)⟩)
          · have HT2 := Lib.hid (HT1.out rfl)
            have HO : Hid (wr.ownsRow (w1.heap.size + 1) 3 1 (.slice va T.length vc) T.length (T.map (Value.int .i64))) := ho
            clear HT0 HT1 ho
            go_wp2_with (first | (go_at_call 32; (with_reducible refine (HN.out _).mono ?_); rintro e w2 ⟨rfl, hq⟩; obtain rfl := hq.symm) | (at_builtin; refine wpList_append_own _ rfl _ _ 28 rfl (w1.heap.size + 1) 3 i0 (.int .i64 0) 1 8 Tryd.underlying28 hi0 hi1 hi2 hi3 rfl (by decide) _ _ _ rfl (HO.out.alloc _) ⟨wr.heap.size, 0, none⟩ 1 1 [.int .i64 n] rfl rfl ?c1 ?c2 ?c3 ?c4 ?c5 ?_))
            case c1 => exact cell_one_new _ _ _
            case c2 => simp [Value.oneCell']
            case c3 => unfold maxLen; omega
            case c4 => omega
            case c5 => simp; omega
            intro v' w3 hown' hgrow _
            obtain ⟨⟨z3, d0, d1, e0, e1⟩, HNX⟩ := ParR.next (w := w) (i := i) gr (Nat.le_refl _) z c0 c1 fr0 fr1 HO.out ((Gr.refl wr).alloc _) hgrow hown' HT2.out
            obtain ⟨xa, xc, rfl⟩ := own_form hown'
            have HNX := Lib.hid HNX
            clear hown' hgrow HO HT2 c0 c1 fr0 fr1 hT hz r0 r1 f0 f1
            go_wp2_with fail
            go_roundw
            case rel => exact ⟨i + 1, by go_num, hlt, HNX.out⟩
            case measure => simp [intOf]; omega
        · have hlt1 : ¬ (i : Int) < (l.length : Int) := by omega
          obtain rfl : i = l.length := by omega
          rw [List.take_length] at hT
          have HP2 : Hid (R = if mayD ⟨1, T⟩ then some ⟨1, T⟩ else none) := by show _ = _; rw [HP1.out]; unfold parK; rw [hT]
          have HV := Lib.hid (ho.vals (by unfold maxLen; omega))
          have hbl : ∀ bq, (Value.slice va T.length vc).ownBlock = some bq → bq ≠ w.heap.size := fun bq e => by have := own_base ho bq e; omega
          have HMY : Hid (Calls Tryd.prog 33 #[.agg #[.int .i64 1, .slice va T.length vc]] wr fun e w' => e = .returned (.bool (mayD ⟨1, T⟩)) ∧ Gr wr w') := hmay_any _ ⟨1, T⟩ wr ⟨va, vc, rfl, HV.out⟩
          have HC2 : Hid (∀ w', Gr wr w' → w'.cell? ⟨w1.heap.size, 0, none⟩ = some (.int .i64 1) ∧ w'.cell? ⟨w1.heap.size, 1, none⟩ = some (.slice va T.length vc)) := fun w' g => ⟨(g.cell _ _ z).trans c0, (g.cell _ _ z).trans c1⟩
          clear hT HP1 ho HL HSL HA hlt hi hTle
          cases hmd : mayD ⟨1, T⟩
          · rw [hmd] at HP2 HMY
            have HQ : Hid (R = none) := HP2.out
            clear hmd HP2 HC2
            go_wp2_with (first | (go_at_call 33; (with_reducible refine (HMY.out).mono ?_); rintro e w4 ⟨rfl, g4⟩; obtain ⟨hz, r0, r1, f0, f1⟩ := HR0.out _ ((g1.trans gr).trans g4); have gr := gr.trans g4) | fail)
            (refine bodyPost_ret (v := .tuple #[.agg #[.int .i64 0, .slice none 0 0], .bool false]) (by simp [results, Tryd.results13, go_sem, r0, r1, f0, f1, hz]) rfl ?_; rw [HQ.out]; exact ⟨_, rfl, ⟨none, 0, rfl, ⟨none, 0, rfl, by simp, .inl rfl⟩⟩, (Gr.setCell (Gr.setCell ((g0.trans g1).trans gr) (Nat.le_refl _) _) (Nat.le_refl _) _)⟩)
          · rw [hmd] at HP2 HMY
            have HQ : Hid (R = some ⟨1, T⟩) := HP2.out
            clear hmd HP2
            go_wp2_with (first | (go_at_call 33; (with_reducible refine (HMY.out).mono ?_); rintro e w4 ⟨rfl, g4⟩; obtain ⟨hz, r0, r1, f0, f1⟩ := HR0.out _ ((g1.trans gr).trans g4); have HV4 := Lib.hid (HV.out.gr g4); have gr := gr.trans g4; obtain ⟨q0, q1⟩ := HC2.out _ g4) | fail)
            refine bodyPost_ret (v := .tuple #[.agg #[.int .i64 1, .slice va T.length vc], .bool true]) (by simp [results, Tryd.results13, go_sem, r0, r1, f0, f1, hz]) rfl ?_
            rw [HQ.out]
            have gz : Gr w w4 := (g0.trans g1).trans gr
            have hrv : ∀ u u', IsVals ((w4.setCell ⟨w.heap.size, 0, none⟩ u).setCell ⟨w.heap.size, 1, none⟩ u') (.slice va T.length vc) (T.map (Value.int .i64)) := fun u u' => vals_set (vals_set HV4.out hbl u) hbl u'
            exact ⟨_, rfl, ⟨va, vc, rfl, hrv _ _⟩, (gz.setCell (Nat.le_refl _) _).setCell (Nat.le_refl _) _⟩
    by_cases k2 : k = bCareful
    · subst k2
      have HP1 := Lib.hid (HP.out.trans (par_kind l (show kindW bCareful = 2 from rfl) (by omega)))
      have u1 : (bCareful.toList == [101, 97, 103, 101, 114]) = false := by rw [carefulL]; rfl
      have u2 : (bCareful.toList == [99, 97, 114, 101, 102, 117, 108]) = true := by rw [carefulL]; rfl
      clear HP k1
      have HLN : Hid (∀ x ∈ l, x.size ≤ maxLen) := fun x hx => by have := hsz x (List.mem_cons_of_mem _ hx); unfold maxLen; omega
      have hll : l.length ≤ 1048577 := by simp at hlen; omega
      clear hsz hlen
      go_enter Tryd.func13, Tryd.ntmps13
      go_wp2_with (first | (go_at_call 31; (with_reducible refine (HW1.out _ g0).mono ?_); rintro e w1 ⟨b, o, c, rfl, hc, hb, hk, HL, g1⟩; obtain ⟨hz1, r0, r1, f0, f1⟩ := HR0.out _ g1; obtain ⟨A, HSL, HA⟩ := tail_slice b o (l.length + 1) c (by omega) hc) | fail)
      have HS0 : Hid (ParR numR w w1 w1.heap.size 2 l 0 (w1.alloc (.cells #[.int .i64 2, .slice none 0 0] 46))) := ParR.start (g0.trans g1) 2 l
      have hww : w.heap.size < w1.heap.size := hz1
      obtain ⟨i0, hi0, hi1, hi2, hi3⟩ := info_parts Tryd.infoI
      go_loopw [35] (fun x wr => ∃ i : Nat, x = .int .i64 i ∧ i ≤ l.length ∧ ParR numR w w1 w1.heap.size 2 l i wr) (fun x _ => l.length - (intOf x).toNat)
      case atStart => exact ⟨0, rfl, Nat.zero_le _, HS0.out⟩
      case round =>
        clear HS0
        obtain ⟨i, rfl, hi, hR⟩ := hrel
        obtain ⟨V, T, hT, gr, z, c0, c1, fr0, fr1, ho⟩ := hR
        obtain ⟨hz, r0, r1, f0, f1⟩ := HR0.out _ (g1.trans gr)
        obtain ⟨va, vc, rfl⟩ := own_form ho
        have hTl := numsF_len hT
        rw [List.length_take, Nat.min_eq_left hi] at hTl
        have hTle : T.length ≤ 1048577 := by omega
        clear hTl
        by_cases hlt : i < l.length
        · have hlt1 : (i : Int) < (l.length : Int) := by omega
          obtain rfl := HA (by omega)
          have y0 := (gr.cell _ _ hb).trans (HL.out i hlt)
          have HN := Lib.hid (fun w' => num_any l[i] (HLN.out _ (List.getElem_mem hlt)) w')
          have HT1 : Hid ((numR l[i]).2 = true → numsF numR (l.take (i + 1)) = some (T ++ [(numR l[i]).1])) := fun h => by
            rw [List.take_succ_eq_append_getElem hlt]; exact numsF_snoc _ _ _ _ hT h
          have HT0 : Hid ((numR l[i]).2 = false → R = none) := fun h => by
            rw [HP1.out]; unfold parK; rw [numsF_bad hlt h]
          have hnb := numR_bd l[i]
          generalize numR l[i] = nr at HN HT1 HT0 hnb
          generalize l[i] = x at y0 HN
          obtain ⟨n, ok⟩ := nr
          dsimp only at HN HT1 HT0 hnb
          cases ok
          · have HQ := Lib.hid (HT0.out rfl)
            clear HT0 HT1
            go_wp2_with (first | (go_at_call 32; (with_reducible refine (HN.out _).mono ?_); rintro e w2 ⟨rfl, hq⟩; obtain rfl := hq.symm) | fail)
            (refine bodyPost_ret (v := .tuple #[.agg #[.int .i64 0, .slice none 0 0], .bool false]) (by simp [results, Tryd.results13, go_sem, r0, r1, f0, f1, hz]) rfl ?_; rw [HQ.out]; exact ⟨_, rfl, ⟨none, 0, rfl, ⟨none, 0, rfl, by simp, .inl rfl⟩⟩, (Gr.setCell (Gr.setCell ((g0.trans g1).trans gr) (Nat.le_refl _) _) (Nat.le_refl _) _)⟩)
          · have HT2 := Lib.hid (HT1.out rfl)
            have HO : Hid (wr.ownsRow (w1.heap.size + 1) 3 1 (.slice va T.length vc) T.length (T.map (Value.int .i64))) := ho
            clear HT0 HT1 ho
            go_wp2_with (first | (go_at_call 32; (with_reducible refine (HN.out _).mono ?_); rintro e w2 ⟨rfl, hq⟩; obtain rfl := hq.symm) | (at_builtin; refine wpList_append_own _ rfl _ _ 28 rfl (w1.heap.size + 1) 3 i0 (.int .i64 0) 1 8 Tryd.underlying28 hi0 hi1 hi2 hi3 rfl (by decide) _ _ _ rfl (HO.out.alloc _) ⟨wr.heap.size, 0, none⟩ 1 1 [.int .i64 n] rfl rfl ?c1 ?c2 ?c3 ?c4 ?c5 ?_))
            case c1 => exact cell_one_new _ _ _
            case c2 => simp [Value.oneCell']
            case c3 => unfold maxLen; omega
            case c4 => omega
            case c5 => simp; omega
            intro v' w3 hown' hgrow _
            obtain ⟨⟨z3, d0, d1, e0, e1⟩, HNX⟩ := ParR.next (w := w) (i := i) gr (Nat.le_refl _) z c0 c1 fr0 fr1 HO.out ((Gr.refl wr).alloc _) hgrow hown' HT2.out
            obtain ⟨xa, xc, rfl⟩ := own_form hown'
            have HNX := Lib.hid HNX
            clear hown' hgrow HO HT2 c0 c1 fr0 fr1 hT hz r0 r1 f0 f1
            go_wp2_with fail
            go_roundw
            case rel => exact ⟨i + 1, by go_num, hlt, HNX.out⟩
            case measure => simp [intOf]; omega
        · have hlt1 : ¬ (i : Int) < (l.length : Int) := by omega
          obtain rfl : i = l.length := by omega
          rw [List.take_length] at hT
          have HP2 : Hid (R = if mayD ⟨2, T⟩ then some ⟨2, T⟩ else none) := by show _ = _; rw [HP1.out]; unfold parK; rw [hT]
          have HV := Lib.hid (ho.vals (by unfold maxLen; omega))
          have hbl : ∀ bq, (Value.slice va T.length vc).ownBlock = some bq → bq ≠ w.heap.size := fun bq e => by have := own_base ho bq e; omega
          have HMY : Hid (Calls Tryd.prog 33 #[.agg #[.int .i64 2, .slice va T.length vc]] wr fun e w' => e = .returned (.bool (mayD ⟨2, T⟩)) ∧ Gr wr w') := hmay_any _ ⟨2, T⟩ wr ⟨va, vc, rfl, HV.out⟩
          have HC2 : Hid (∀ w', Gr wr w' → w'.cell? ⟨w1.heap.size, 0, none⟩ = some (.int .i64 2) ∧ w'.cell? ⟨w1.heap.size, 1, none⟩ = some (.slice va T.length vc)) := fun w' g => ⟨(g.cell _ _ z).trans c0, (g.cell _ _ z).trans c1⟩
          clear hT HP1 ho HL HSL HA hlt hi hTle
          cases hmd : mayD ⟨2, T⟩
          · rw [hmd] at HP2 HMY
            have HQ : Hid (R = none) := HP2.out
            clear hmd HP2 HC2
            go_wp2_with (first | (go_at_call 33; (with_reducible refine (HMY.out).mono ?_); rintro e w4 ⟨rfl, g4⟩; obtain ⟨hz, r0, r1, f0, f1⟩ := HR0.out _ ((g1.trans gr).trans g4); have gr := gr.trans g4) | fail)
            (refine bodyPost_ret (v := .tuple #[.agg #[.int .i64 0, .slice none 0 0], .bool false]) (by simp [results, Tryd.results13, go_sem, r0, r1, f0, f1, hz]) rfl ?_; rw [HQ.out]; exact ⟨_, rfl, ⟨none, 0, rfl, ⟨none, 0, rfl, by simp, .inl rfl⟩⟩, (Gr.setCell (Gr.setCell ((g0.trans g1).trans gr) (Nat.le_refl _) _) (Nat.le_refl _) _)⟩)
          · rw [hmd] at HP2 HMY
            have HQ : Hid (R = some ⟨2, T⟩) := HP2.out
            clear hmd HP2
            go_wp2_with (first | (go_at_call 33; (with_reducible refine (HMY.out).mono ?_); rintro e w4 ⟨rfl, g4⟩; obtain ⟨hz, r0, r1, f0, f1⟩ := HR0.out _ ((g1.trans gr).trans g4); have HV4 := Lib.hid (HV.out.gr g4); have gr := gr.trans g4; obtain ⟨q0, q1⟩ := HC2.out _ g4) | fail)
            refine bodyPost_ret (v := .tuple #[.agg #[.int .i64 2, .slice va T.length vc], .bool true]) (by simp [results, Tryd.results13, go_sem, r0, r1, f0, f1, hz]) rfl ?_
            rw [HQ.out]
            have gz : Gr w w4 := (g0.trans g1).trans gr
            have hrv : ∀ u u', IsVals ((w4.setCell ⟨w.heap.size, 0, none⟩ u).setCell ⟨w.heap.size, 1, none⟩ u') (.slice va T.length vc) (T.map (Value.int .i64)) := fun u u' => vals_set (vals_set HV4.out hbl u) hbl u'
            exact ⟨_, rfl, ⟨va, vc, rfl, hrv _ _⟩, (gz.setCell (Nat.le_refl _) _).setCell (Nat.le_refl _) _⟩
    by_cases k3 : k = bTape
    · subst k3
      have HP1 := Lib.hid (HP.out.trans (par_kind l (show kindW bTape = 3 from rfl) (by omega)))
      have u1 : (bTape.toList == [101, 97, 103, 101, 114]) = false := by rw [tapeL]; rfl
      have u2 : (bTape.toList == [99, 97, 114, 101, 102, 117, 108]) = false := by rw [tapeL]; rfl
      have u3 : (bTape.toList == [116, 97, 112, 101]) = true := by rw [tapeL]; rfl
      clear HP k1 k2
      have HLN : Hid (∀ x ∈ l, x.size ≤ maxLen) := fun x hx => by have := hsz x (List.mem_cons_of_mem _ hx); unfold maxLen; omega
      have hll : l.length ≤ 1048577 := by simp at hlen; omega
      clear hsz hlen
      go_enter Tryd.func13, Tryd.ntmps13
      go_wp2_with (first | (go_at_call 31; (with_reducible refine (HW1.out _ g0).mono ?_); rintro e w1 ⟨b, o, c, rfl, hc, hb, hk, HL, g1⟩; obtain ⟨hz1, r0, r1, f0, f1⟩ := HR0.out _ g1; obtain ⟨A, HSL, HA⟩ := tail_slice b o (l.length + 1) c (by omega) hc) | fail)
      have HS0 : Hid (ParR numR w w1 w1.heap.size 3 l 0 (w1.alloc (.cells #[.int .i64 3, .slice none 0 0] 46))) := ParR.start (g0.trans g1) 3 l
      have hww : w.heap.size < w1.heap.size := hz1
      obtain ⟨i0, hi0, hi1, hi2, hi3⟩ := info_parts Tryd.infoI
      go_loopw [35] (fun x wr => ∃ i : Nat, x = .int .i64 i ∧ i ≤ l.length ∧ ParR numR w w1 w1.heap.size 3 l i wr) (fun x _ => l.length - (intOf x).toNat)
      case atStart => exact ⟨0, rfl, Nat.zero_le _, HS0.out⟩
      case round =>
        clear HS0
        obtain ⟨i, rfl, hi, hR⟩ := hrel
        obtain ⟨V, T, hT, gr, z, c0, c1, fr0, fr1, ho⟩ := hR
        obtain ⟨hz, r0, r1, f0, f1⟩ := HR0.out _ (g1.trans gr)
        obtain ⟨va, vc, rfl⟩ := own_form ho
        have hTl := numsF_len hT
        rw [List.length_take, Nat.min_eq_left hi] at hTl
        have hTle : T.length ≤ 1048577 := by omega
        clear hTl
        by_cases hlt : i < l.length
        · have hlt1 : (i : Int) < (l.length : Int) := by omega
          obtain rfl := HA (by omega)
          have y0 := (gr.cell _ _ hb).trans (HL.out i hlt)
          have HN := Lib.hid (fun w' => num_any l[i] (HLN.out _ (List.getElem_mem hlt)) w')
          have HT1 : Hid ((numR l[i]).2 = true → numsF numR (l.take (i + 1)) = some (T ++ [(numR l[i]).1])) := fun h => by
            rw [List.take_succ_eq_append_getElem hlt]; exact numsF_snoc _ _ _ _ hT h
          have HT0 : Hid ((numR l[i]).2 = false → R = none) := fun h => by
            rw [HP1.out]; unfold parK; rw [numsF_bad hlt h]
          have hnb := numR_bd l[i]
          generalize numR l[i] = nr at HN HT1 HT0 hnb
          generalize l[i] = x at y0 HN
          obtain ⟨n, ok⟩ := nr
          dsimp only at HN HT1 HT0 hnb
          cases ok
          · have HQ := Lib.hid (HT0.out rfl)
            clear HT0 HT1
            go_wp2_with (first | (go_at_call 32; (with_reducible refine (HN.out _).mono ?_); rintro e w2 ⟨rfl, hq⟩; obtain rfl := hq.symm) | fail)
            (refine bodyPost_ret (v := .tuple #[.agg #[.int .i64 0, .slice none 0 0], .bool false]) (by simp [results, Tryd.results13, go_sem, r0, r1, f0, f1, hz]) rfl ?_; rw [HQ.out]; exact ⟨_, rfl, ⟨none, 0, rfl, ⟨none, 0, rfl, by simp, .inl rfl⟩⟩, (Gr.setCell (Gr.setCell ((g0.trans g1).trans gr) (Nat.le_refl _) _) (Nat.le_refl _) _)⟩)
          · have HT2 := Lib.hid (HT1.out rfl)
            have HO : Hid (wr.ownsRow (w1.heap.size + 1) 3 1 (.slice va T.length vc) T.length (T.map (Value.int .i64))) := ho
            clear HT0 HT1 ho
            go_wp2_with (first | (go_at_call 32; (with_reducible refine (HN.out _).mono ?_); rintro e w2 ⟨rfl, hq⟩; obtain rfl := hq.symm) | (at_builtin; refine wpList_append_own _ rfl _ _ 28 rfl (w1.heap.size + 1) 3 i0 (.int .i64 0) 1 8 Tryd.underlying28 hi0 hi1 hi2 hi3 rfl (by decide) _ _ _ rfl (HO.out.alloc _) ⟨wr.heap.size, 0, none⟩ 1 1 [.int .i64 n] rfl rfl ?c1 ?c2 ?c3 ?c4 ?c5 ?_))
            case c1 => exact cell_one_new _ _ _
            case c2 => simp [Value.oneCell']
            case c3 => unfold maxLen; omega
            case c4 => omega
            case c5 => simp; omega
            intro v' w3 hown' hgrow _
            obtain ⟨⟨z3, d0, d1, e0, e1⟩, HNX⟩ := ParR.next (w := w) (i := i) gr (Nat.le_refl _) z c0 c1 fr0 fr1 HO.out ((Gr.refl wr).alloc _) hgrow hown' HT2.out
            obtain ⟨xa, xc, rfl⟩ := own_form hown'
            have HNX := Lib.hid HNX
            clear hown' hgrow HO HT2 c0 c1 fr0 fr1 hT hz r0 r1 f0 f1
            go_wp2_with fail
            go_roundw
            case rel => exact ⟨i + 1, by go_num, hlt, HNX.out⟩
            case measure => simp [intOf]; omega
        · have hlt1 : ¬ (i : Int) < (l.length : Int) := by omega
          obtain rfl : i = l.length := by omega
          rw [List.take_length] at hT
          have HP2 : Hid (R = if mayD ⟨3, T⟩ then some ⟨3, T⟩ else none) := by show _ = _; rw [HP1.out]; unfold parK; rw [hT]
          have HV := Lib.hid (ho.vals (by unfold maxLen; omega))
          have hbl : ∀ bq, (Value.slice va T.length vc).ownBlock = some bq → bq ≠ w.heap.size := fun bq e => by have := own_base ho bq e; omega
          have HMY : Hid (Calls Tryd.prog 33 #[.agg #[.int .i64 3, .slice va T.length vc]] wr fun e w' => e = .returned (.bool (mayD ⟨3, T⟩)) ∧ Gr wr w') := hmay_any _ ⟨3, T⟩ wr ⟨va, vc, rfl, HV.out⟩
          have HC2 : Hid (∀ w', Gr wr w' → w'.cell? ⟨w1.heap.size, 0, none⟩ = some (.int .i64 3) ∧ w'.cell? ⟨w1.heap.size, 1, none⟩ = some (.slice va T.length vc)) := fun w' g => ⟨(g.cell _ _ z).trans c0, (g.cell _ _ z).trans c1⟩
          clear hT HP1 ho HL HSL HA hlt hi hTle
          cases hmd : mayD ⟨3, T⟩
          · rw [hmd] at HP2 HMY
            have HQ : Hid (R = none) := HP2.out
            clear hmd HP2 HC2
            go_wp2_with (first | (go_at_call 33; (with_reducible refine (HMY.out).mono ?_); rintro e w4 ⟨rfl, g4⟩; obtain ⟨hz, r0, r1, f0, f1⟩ := HR0.out _ ((g1.trans gr).trans g4); have gr := gr.trans g4) | fail)
            (refine bodyPost_ret (v := .tuple #[.agg #[.int .i64 0, .slice none 0 0], .bool false]) (by simp [results, Tryd.results13, go_sem, r0, r1, f0, f1, hz]) rfl ?_; rw [HQ.out]; exact ⟨_, rfl, ⟨none, 0, rfl, ⟨none, 0, rfl, by simp, .inl rfl⟩⟩, (Gr.setCell (Gr.setCell ((g0.trans g1).trans gr) (Nat.le_refl _) _) (Nat.le_refl _) _)⟩)
          · rw [hmd] at HP2 HMY
            have HQ : Hid (R = some ⟨3, T⟩) := HP2.out
            clear hmd HP2
            go_wp2_with (first | (go_at_call 33; (with_reducible refine (HMY.out).mono ?_); rintro e w4 ⟨rfl, g4⟩; obtain ⟨hz, r0, r1, f0, f1⟩ := HR0.out _ ((g1.trans gr).trans g4); have HV4 := Lib.hid (HV.out.gr g4); have gr := gr.trans g4; obtain ⟨q0, q1⟩ := HC2.out _ g4) | fail)
            refine bodyPost_ret (v := .tuple #[.agg #[.int .i64 3, .slice va T.length vc], .bool true]) (by simp [results, Tryd.results13, go_sem, r0, r1, f0, f1, hz]) rfl ?_
            rw [HQ.out]
            have gz : Gr w w4 := (g0.trans g1).trans gr
            have hrv : ∀ u u', IsVals ((w4.setCell ⟨w.heap.size, 0, none⟩ u).setCell ⟨w.heap.size, 1, none⟩ u') (.slice va T.length vc) (T.map (Value.int .i64)) := fun u u' => vals_set (vals_set HV4.out hbl u) hbl u'
            exact ⟨_, rfl, ⟨va, vc, rfl, hrv _ _⟩, (gz.setCell (Nat.le_refl _) _).setCell (Nat.le_refl _) _⟩
    have HQ : Hid (R = none) := by
      show _ = _
      rw [HP.out, if_pos (by unfold kindW; rw [if_neg k1, if_neg k2, if_neg k3])]
    have u1 := str_ne k1
    have u2 := str_ne k2
    have u3 := str_ne k3
    rw [eagerL] at u1
    rw [carefulL] at u2
    rw [tapeL] at u3
    clear HP k1 k2 k3
    go_enter Tryd.func13, Tryd.ntmps13
    go_wp2_with (first | (go_at_call 31; (with_reducible refine (HW1.out _ g0).mono ?_); rintro e w1 ⟨b, o, c, rfl, hc, hb, hk, HL, g1⟩; obtain ⟨hz1, r0, r1, f0, f1⟩ := HR0.out _ g1; obtain ⟨A, HSL, HA⟩ := tail_slice b o (l.length + 1) c (by omega) hc) | fail)
    (refine bodyPost_ret (v := .tuple #[.agg #[.int .i64 0, .slice none 0 0], .bool false]) (by simp [results, Tryd.results13, go_sem, r0, r1, f0, f1, hz1]) rfl ?_; rw [HQ.out]; exact ⟨_, rfl, ⟨none, 0, rfl, ⟨none, 0, rfl, by simp, .inl rfl⟩⟩, by first | exact Gr.setCell (Gr.setCell (((And.intro (g0.trans g1) ((g0.trans g1).alloc (.cells #[.int .i64 0, .slice none 0 0] 46))))).2 (Nat.le_refl _) _) (Nat.le_refl _) _ | exact (Gr.setCell (Gr.setCell (((And.intro (g0.trans g1) ((g0.trans g1).alloc (.cells #[.int .i64 0, .slice none 0 0] 46))))).1 (Nat.le_refl _) _) (Nat.le_refl _) _).alloc _⟩)
end Go.Proofs.YtgjnlgcdpbilfaaDoor
namespace Go.Proofs.YtgjnlgcdpbilfaaDoor
open Go.ChangeShapes Go.WideShapes Go.ChangeAt Go.RowKit Go.Maps
set_option linter.unusedVariables false
set_option linter.unusedSimpArgs false
theorem act_eqg : Tryd.prog.eqGuardType Tryd.prog.depth 43 = false := by kernel_rfl
theorem act_stood : Tryd.prog.stoodInHeld 43 = false := by kernel_rfl
theorem act_fields : Tryd.prog.underlying 43 = some (.struct (Tryd.prog.fieldsOf 43)) := by kernel_rfl
set_option maxRecDepth 100000 in
theorem act_eql (a c : Int) (b d : Bool) (w : World) : (binOp .eql 43 (.agg #[.int .i64 a, .bool b]) (.agg #[.int .i64 c, .bool d])).run Tryd.prog w = .ok (.bool ((a == c) && (b == d))) w := by
  have hu := Tryd.underlying43
  have hf := act_fields
  rw [hu] at hf
  simp only [Option.some.injEq, TypeDesc.struct.injEq] at hf
  rw [run_eql_struct, run_equalIn_agg w 9999 _ _ _ act_fields act_stood, ← hf]
  simp [Op.eqFields, go_sem, Tryd.underlying3, Tryd.underlying4]
  by_cases h1 : a = c <;> by_cases h2 : b = d <;> simp [h1, h2]
theorem act_guard (op : BinOp) (x y : Operand) (xs ys : Array Value) (w : World) : (eqGuard op 43 x y (.agg xs) (.agg ys)).run Tryd.prog w = .ok () w := run_eqGuard_agg w op _ x y xs ys act_eqg
theorem one25_any (w : World) :
    Calls Tryd.prog 14 #[] w fun e w' => e = .returned (.agg #[.string ⟨#[120]⟩, .int .i64 5, .int .i64 10, .int .i64 2, .int .i64 5]) ∧ Gr w w' := by
  go_enter Tryd.func14, Tryd.ntmps14
  go_wp2
  refine bodyPost_ret (v := .agg #[.string ⟨#[120]⟩, .int .i64 5, .int .i64 10, .int .i64 2, .int .i64 5]) (by simp [results, Tryd.results14, go_sem]) rfl ⟨rfl, ?_⟩
  exact (Gr.refl _).alloc _
theorem vals3 {w : World} {b c : Nat} {x y z : Int} (hb : b < w.heap.size) (h0 : w.cell? ⟨b, 0, none⟩ = some (.int .i64 x)) (h1 : w.cell? ⟨b, 1, none⟩ = some (.int .i64 y)) (h2 : w.cell? ⟨b, 2, none⟩ = some (.int .i64 z)) : IsVals w (.slice (some ⟨b, 0, none⟩) 3 c) (([x, y, z] : List Int).map (Value.int .i64)) :=
  ⟨_, c, rfl, by unfold maxLen; simp, .inr ⟨b, 0, rfl, hb, fun i u hi => by
    match i, hi with
    | 0, hi => cases hi; exact h0
    | 1, hi => cases hi; exact h1
    | 2, hi => cases hi; exact h2⟩⟩
theorem vals5 {w : World} {b c : Nat} {x y z p q : Int} (hb : b < w.heap.size) (h0 : w.cell? ⟨b, 0, none⟩ = some (.int .i64 x)) (h1 : w.cell? ⟨b, 1, none⟩ = some (.int .i64 y)) (h2 : w.cell? ⟨b, 2, none⟩ = some (.int .i64 z)) (h3 : w.cell? ⟨b, 3, none⟩ = some (.int .i64 p)) (h4 : w.cell? ⟨b, 4, none⟩ = some (.int .i64 q)) : IsVals w (.slice (some ⟨b, 0, none⟩) 5 c) (([x, y, z, p, q] : List Int).map (Value.int .i64)) :=
  ⟨_, c, rfl, by unfold maxLen; simp, .inr ⟨b, 0, rfl, hb, fun i u hi => by
    match i, hi with
    | 0, hi => cases hi; exact h0
    | 1, hi => cases hi; exact h1
    | 2, hi => cases hi; exact h2
    | 3, hi => cases hi; exact h3
    | 4, hi => cases hi; exact h4⟩⟩
def bdyK : Bdy := ⟨2, [⟨1, 1⟩], 9, 0, 4⟩
theorem bdyK_is {w : World} {b c : Nat} (hb : b < w.heap.size) (h0 : w.cell? ⟨b, 0, none⟩ = some (.int .i64 1)) (h1 : w.cell? ⟨b, 1, none⟩ = some (.int .i64 1)) : IsBdy w (.agg #[.int .i64 2, .slice (some ⟨b, 0, none⟩) 1 c, .int .i64 9, .int .i64 0, .int .i64 4]) bdyK :=
  ⟨_, c, rfl, ⟨_, c, rfl, by unfold maxLen; simp [bdyK], .inr ⟨b, 0, rfl, hb, fun i j hi hj => by
    have e : i = 0 := by have : i < 1 := hi; omega
    subst e
    match j, hj with
    | 0, _ => exact h0
    | 1, _ => exact h1⟩⟩⟩
theorem bdyK_ok : ∀ x ∈ bdyK.trail, PrtOk x := by
  intro x hx
  have : x = ⟨1, 1⟩ := by simpa [bdyK] using hx
  subst this
  exact ⟨I64_of (by decide) (by decide), I64_of (by decide) (by decide)⟩
theorem sees1 : seesP smallP [0, 0, 1] [0, 0, 0, 0, 0] bdyK = 9 := by kernel_rfl
theorem sees2 : seesP smallP [0, 0, 2] [0, 1, 0, 0, 0] bdyK = 49 := by kernel_rfl
theorem parK1 : parseD ⟨#[116, 97, 112, 101, 32, 51, 32, 45, 52, 32, 49, 48, 48, 48]⟩ = some ⟨3, [3, -4, 1000]⟩ := by kernel_rfl
set_option maxRecDepth 100000 in
set_option maxHeartbeats 2000000 in
theorem known25_any (w : World) (ht : w.ShapedOpen Tryd.prog) : Calls Tryd.prog 5 #[] w fun e w' => e = .returned (.bool true) ∧ Gr w w' := by
  have HPA : Hid (∀ w', w'.ShapedOpen Tryd.prog → Calls Tryd.prog 13 #[.string ⟨#[116, 97, 112, 101, 32, 51, 32, 45, 52, 32, 49, 48, 48, 48]⟩] w' fun e w'' => ∃ da dc, e = .returned (.tuple #[.agg #[.int .i64 3, .slice da 3 dc], .bool true]) ∧ IsVals w'' (.slice da 3 dc) (([3, -4, 1000] : List Int).map (Value.int .i64)) ∧ Gr w' w'') := fun w' ht => (parse_any _ (by decide) w' ht).mono fun e w'' ⟨v, he, hd, g⟩ => by
    rw [parK1] at he hd
    obtain ⟨da, dc, rfl, hv⟩ := hd
    exact ⟨da, dc, he, hv, g⟩
  have s1 := Lib.hid sees1
  have s2 := Lib.hid sees2
  go_enter Tryd.func5, Tryd.ntmps5
  go_wp2_with fail
  refine (small_any _).mono ?_
  rintro e w1 ⟨v, rfl, hP, g1⟩
  go_wp2_with fail
  refine (made_fine v smallP w1 hP small_ok small_fine).mono ?_
  rintro e w2 ⟨b, rfl, hnet, g2⟩
  have HB : Hid (∀ w', Gr ((w2.alloc (.cells #[.int .i64 1, .int .i64 1] 50)).alloc (.cells #[.int .i64 2, .slice (some ⟨w2.heap.size, 0, none⟩) 1 1, .int .i64 9, .int .i64 0, .int .i64 4] 31)) w' → w2.heap.size < w'.heap.size ∧ w2.heap.size + 1 < w'.heap.size ∧ w'.cell? ⟨w2.heap.size, 0, none⟩ = some (.int .i64 1) ∧ w'.cell? ⟨w2.heap.size, 1, none⟩ = some (.int .i64 1) ∧ w'.cell? ⟨w2.heap.size + 1, 0, none⟩ = some (.int .i64 2) ∧ w'.cell? ⟨w2.heap.size + 1, 1, none⟩ = some (.slice (some ⟨w2.heap.size, 0, none⟩) 1 1) ∧ w'.cell? ⟨w2.heap.size + 1, 2, none⟩ = some (.int .i64 9) ∧ w'.cell? ⟨w2.heap.size + 1, 3, none⟩ = some (.int .i64 0) ∧ w'.cell? ⟨w2.heap.size + 1, 4, none⟩ = some (.int .i64 4)) := by
    intro w' g
    have z1 : w2.heap.size + 1 < (((w2.alloc (.cells #[.int .i64 1, .int .i64 1] 50)).alloc (.cells #[.int .i64 2, .slice (some ⟨w2.heap.size, 0, none⟩) 1 1, .int .i64 9, .int .i64 0, .int .i64 4] 31))).heap.size := by simp
    have z0 : w2.heap.size < (((w2.alloc (.cells #[.int .i64 1, .int .i64 1] 50)).alloc (.cells #[.int .i64 2, .slice (some ⟨w2.heap.size, 0, none⟩) 1 1, .int .i64 9, .int .i64 0, .int .i64 4] 31))).heap.size := by omega
    exact ⟨Nat.lt_of_lt_of_le z0 g.size, Nat.lt_of_lt_of_le z1 g.size, (g.cell _ _ z0).trans (by go_simp), (g.cell _ _ z0).trans (by go_simp), (g.cell _ _ z1).trans (by go_simp), (g.cell _ _ z1).trans (by go_simp), (g.cell _ _ z1).trans (by go_simp), (g.cell _ _ z1).trans (by go_simp), (g.cell _ _ z1).trans (by go_simp)⟩
  have hW2 : Gr w2 ((w2.alloc (.cells #[.int .i64 1, .int .i64 1] 50)).alloc (.cells #[.int .i64 2, .slice (some ⟨w2.heap.size, 0, none⟩) 1 1, .int .i64 9, .int .i64 0, .int .i64 4] 31)) := ((Gr.refl _).alloc _).alloc _
  have gw2 := g1.trans g2
  go_wp2_with fail
  refine (sees_any b smallP _ _ _ [0, 0, 1] [0, 0, 0, 0, 0] bdyK _ (hnet.gr ?_) ?_ ?_ ?_ small_ok bdyK_ok (fun m => (fine_len (fine_chk small_fine) m).1)).mono ?_
  · exact (hW2.alloc _).alloc _
  · exact vals3 (by first | (simp; done) | (simp; omega)) (by go_simp) (by go_simp) (by go_simp)
  · exact vals5 (by simp) (by go_simp) (by go_simp) (by go_simp) (by go_simp) (by go_simp)
  · exact bdyK_is (by first | (simp; done) | (simp; omega)) (by go_simp) (by go_simp)
  rintro e w3 ⟨rfl, g3⟩
  have G3 : Gr ((w2.alloc (.cells #[.int .i64 1, .int .i64 1] 50)).alloc (.cells #[.int .i64 2, .slice (some ⟨w2.heap.size, 0, none⟩) 1 1, .int .i64 9, .int .i64 0, .int .i64 4] 31)) w3 := (((Gr.refl _).alloc _).alloc _).trans g3
  obtain ⟨zq, zb, t0, t1, b0, b1, b2, b3, b4⟩ := HB.out _ G3
  rw [s1.out]
  go_wp2_with fail
  refine (sees_any b smallP _ _ _ [0, 0, 2] [0, 1, 0, 0, 0] bdyK _ (hnet.gr ?_) ?_ ?_ ?_ small_ok bdyK_ok (fun m => (fine_len (fine_chk small_fine) m).1)).mono ?_
  · exact ((hW2.trans G3).alloc _).alloc _
  · exact vals3 (by first | (simp; done) | (simp; omega)) (by go_simp) (by go_simp) (by go_simp)
  · exact vals5 (by simp) (by go_simp) (by go_simp) (by go_simp) (by go_simp) (by go_simp)
  · exact bdyK_is (by first | (simp; done) | (simp; omega)) (by go_simp) (by go_simp)
  rintro e w4 ⟨rfl, g4⟩
  have G4 : Gr ((w2.alloc (.cells #[.int .i64 1, .int .i64 1] 50)).alloc (.cells #[.int .i64 2, .slice (some ⟨w2.heap.size, 0, none⟩) 1 1, .int .i64 9, .int .i64 0, .int .i64 4] 31)) w4 := ((G3.alloc _).alloc _).trans g4
  clear t0 t1 b0 b1 b2 b3 b4 zq zb
  obtain ⟨zq, zb, t0, t1, b0, b1, b2, b3, b4⟩ := HB.out _ G4
  rw [s2.out]
  go_wp2_with fail
  refine (HPA.out w4 (shp_gr ht (gw2.trans (hW2.trans G4)))).mono ?_
  rintro e w5 ⟨da, dc, rfl, hv5, g5⟩
  have G5 := G4.trans g5
  clear t0 t1 b0 b1 b2 b3 b4 zq zb
  go_upto_region 8 with (fail)
  have GN : Gr w5 (w5.alloc (.cells #[.int .i64 3, .slice da 3 dc] 46)) := (Gr.refl _).alloc _
  have hvn := hv5.gr GN
  have n0 : (w5.alloc (.cells #[.int .i64 3, .slice da 3 dc] 46)).cell? ⟨w5.heap.size, 0, none⟩ = some (.int .i64 3) := by rw [World.cell?_alloc_mark]; rfl
  have n1 : (w5.alloc (.cells #[.int .i64 3, .slice da 3 dc] 46)).cell? ⟨w5.heap.size, 1, none⟩ = some (.slice da 3 dc) := by rw [World.cell?_alloc_mark]; rfl
  have zd : w5.heap.size < (w5.alloc (.cells #[.int .i64 3, .slice da 3 dc] 46)).heap.size := by simp
  obtain ⟨zq, zb, t0, t1, b0, b1, b2, b3, b4⟩ := HB.out _ (G5.trans GN)
  have gfin := gw2.trans (hW2.trans (G5.trans GN))
  generalize w5.alloc (.cells #[.int .i64 3, .slice da 3 dc] 46) = wr at *
  have HBD := Lib.hid (fun (w' : World) (g : Gr wr w') => bdyK_is (c := 1) (Nat.lt_of_lt_of_le zq g.size) ((g.cell _ _ zq).trans t0) ((g.cell _ _ zq).trans t1))
  have hst : ((1 : Int) ≤ 10 ∧ (10 : Int) ≤ 60) ∧ ((1 : Int) ≤ 2 ∧ (2 : Int) ≤ 10) ∧ ((1 : Int) ≤ 5 ∧ (5 : Int) ≤ 10) := by decide
  have HST := Lib.hid hst
  clear hst
  have A1 : Hid (∀ w', Gr wr w' → Calls Tryd.prog 11 #[.agg #[.int .i64 1, .slice none 0 0], .int .i64 0, .agg #[.string ⟨#[120]⟩, .int .i64 5, .int .i64 10, .int .i64 2, .int .i64 5], .agg #[.int .i64 2, .slice (some ⟨w2.heap.size, 0, none⟩) 1 1, .int .i64 9, .int .i64 0, .int .i64 4], .int .i64 9, .bool true] w' fun e w'' => e = .returned (.agg #[.int .i64 10, .bool false]) ∧ Gr w' w'') :=
    fun w' g => act_any ⟨1, []⟩ _ _ bdyK _ 5 10 2 5 0 9 true HST.out.1 HST.out.2.1 HST.out.2.2 w' ⟨none, 0, rfl, ⟨none, 0, rfl, by simp, .inl rfl⟩⟩ (HBD.out w' g)
  have A2 : Hid (∀ w', Gr wr w' → Calls Tryd.prog 11 #[.agg #[.int .i64 2, .slice none 0 0], .int .i64 0, .agg #[.string ⟨#[120]⟩, .int .i64 5, .int .i64 10, .int .i64 2, .int .i64 5], .agg #[.int .i64 2, .slice (some ⟨w2.heap.size, 0, none⟩) 1 1, .int .i64 9, .int .i64 0, .int .i64 4], .int .i64 9, .bool false] w' fun e w'' => e = .returned (.agg #[.int .i64 2, .bool false]) ∧ Gr w' w'') :=
    fun w' g => act_any ⟨2, []⟩ _ _ bdyK _ 5 10 2 5 0 9 false HST.out.1 HST.out.2.1 HST.out.2.2 w' ⟨none, 0, rfl, ⟨none, 0, rfl, by simp, .inl rfl⟩⟩ (HBD.out w' g)
  have A3 : Hid (∀ w', Gr wr w' → Calls Tryd.prog 11 #[.agg #[.int .i64 3, .slice da 3 dc], .int .i64 2, .agg #[.string ⟨#[120]⟩, .int .i64 5, .int .i64 10, .int .i64 2, .int .i64 5], .agg #[.int .i64 2, .slice (some ⟨w2.heap.size, 0, none⟩) 1 1, .int .i64 9, .int .i64 0, .int .i64 4], .int .i64 9, .bool false] w' fun e w'' => e = .returned (.agg #[.int .i64 0, .bool true]) ∧ Gr w' w'') :=
    fun w' g => act_any ⟨3, [3, -4, 1000]⟩ _ _ bdyK _ 5 10 2 5 2 9 false HST.out.1 HST.out.2.1 HST.out.2.2 w' ⟨da, dc, rfl, hvn.gr g⟩ (HBD.out w' g)
  have A4 : Hid (∀ w', Gr wr w' → Calls Tryd.prog 11 #[.agg #[.int .i64 3, .slice da 3 dc], .int .i64 1, .agg #[.string ⟨#[120]⟩, .int .i64 5, .int .i64 10, .int .i64 2, .int .i64 5], .agg #[.int .i64 2, .slice (some ⟨w2.heap.size, 0, none⟩) 1 1, .int .i64 9, .int .i64 0, .int .i64 4], .int .i64 9, .bool false] w' fun e w'' => e = .returned (.agg #[.int .i64 (-4), .bool false]) ∧ Gr w' w'') :=
    fun w' g => act_any ⟨3, [3, -4, 1000]⟩ _ _ bdyK _ 5 10 2 5 1 9 false HST.out.1 HST.out.2.1 HST.out.2.2 w' ⟨da, dc, rfl, hvn.gr g⟩ (HBD.out w' g)
  have E1 : ∀ w, (binOp .eql 43 (.agg #[.int .i64 10, .bool false]) (.agg #[.int .i64 10, .bool false])).run Tryd.prog w = .ok (.bool true) w := fun w => act_eql 10 10 false false w
  have E2 : ∀ w, (binOp .eql 43 (.agg #[.int .i64 2, .bool false]) (.agg #[.int .i64 2, .bool false])).run Tryd.prog w = .ok (.bool true) w := fun w => act_eql 2 2 false false w
  have E3 : ∀ w, (binOp .eql 43 (.agg #[.int .i64 0, .bool true]) (.agg #[.int .i64 0, .bool true])).run Tryd.prog w = .ok (.bool true) w := fun w => act_eql 0 0 true true w
  have E4 : ∀ w, (binOp .eql 43 (.agg #[.int .i64 (-4), .bool false]) (.agg #[.int .i64 (-4), .bool false])).run Tryd.prog w = .ok (.bool true) w := fun w => act_eql (-4) (-4) false false w
  have GG := act_guard .eql
  have hcb := fun (i : GrW wr) (o : Nat) => GrW.cell zb i o
  have hcd := fun (i : GrW wr) (o : Nat) => GrW.cell zd i o
  clear HB HBD HST s1 s2 HPA hP g1 g2 g3 g4 G3 G4 hW2 gw2 t0 t1 hnet hv5 hvn
  (refine wp_region_gr (by kernel_rfl) (by kernel_rfl) ?_; (repeat (go_big_quiet_step ((first | (go_at_call 14; exact Calls.gr_of (one25_any _)) | (go_at_call 11; first | (with_reducible exact Calls.gr_of (A1.out _ (GrW.gr _))) | (with_reducible exact Calls.gr_of (A2.out _ (GrW.gr _))) | (with_reducible exact Calls.gr_of (A3.out _ (GrW.gr _))) | (with_reducible exact Calls.gr_of (A4.out _ (GrW.gr _)))))))); refine wpQuiet_nil ?_; intro wz hz; obtain ⟨iz, hz⟩ := hz; obtain ⟨wn, gn⟩ := iz; dsimp only at hz; obtain rfl := hz.symm)
  go_wp2_with fail
  go_ret
  exact ⟨rfl, gfin.trans gn⟩
end Go.Proofs.YtgjnlgcdpbilfaaDoor
namespace Go.Proofs.YtgjnlgcdpbilfaaDoor
open Go.ChangeShapes Go.WideShapes Go.ChangeAt Go.RowKit Go.Maps
set_option linter.unusedVariables false
set_option linter.unusedSimpArgs false
theorem has_kind (P : Pln) (m i : Int) : hasP P ⟨m, i⟩ = decide (0 ≤ i ∧ i < endsK (kindP P m)) := by
  unfold hasP
  dsimp only
  by_cases h : 0 ≤ m ∧ m < P.es.length
  · rw [Bool.eq_iff_iff]
    simp only [Bool.and_eq_true, decide_eq_true_eq]
    omega
  · rw [kindP_out P m h]
    have : endsK 0 = 0 := rfl
    rw [this, Bool.eq_iff_iff]
    simp only [Bool.and_eq_true, decide_eq_true_eq]
    omega
set_option maxRecDepth 100000 in
set_option maxHeartbeats 2000000 in
theorem refOuts_any (v : Value) (P : Pln) (m i : Int) (w : World) (hP : IsPln w v P) :
    Calls Tryd.prog 43 #[v, .int .i64 m, .int .i64 i] w (RetO w (outsK (kindP P m) i)) := by
  have HPI := Lib.hid hP
  obtain ⟨a1, c1, a2, c2, a3, c3, a4, c4, rfl, -⟩ := hP
  have HB := Lib.hid (bxW_box w P (.slice a1 P.es.length c1) (.slice a2 P.js.length c2) (.slice a3 P.ss.length c3) (.slice a4 P.ls.length c4))
  have hw0 := bxW_gr w P (.slice a1 P.es.length c1) (.slice a2 P.js.length c2) (.slice a3 P.ss.length c3) (.slice a4 P.ls.length c4)
  have HHA0 : Hid (∀ w', Gr w w' → Calls Tryd.prog 58 #[(.agg #[.slice a1 P.es.length c1, .slice a2 P.js.length c2, .slice a3 P.ss.length c3, .slice a4 P.ls.length c4, .int .i64 P.top, .int .i64 P.brake, .int .i64 P.margin, .int .i64 P.throw, .bool P.hard]), .agg #[.int .i64 m, .int .i64 i]] w' fun e w'' => e = .returned (.bool (decide (0 ≤ i ∧ i < endsK (kindP P m)))) ∧ Gr w' w'') := fun w' g => by
    have := has_any _ P ⟨m, i⟩ w' (HPI.out.gr g)
    rw [has_kind] at this
    exact this
  have HKI : Hid (∀ w', Gr w w' → Calls Tryd.prog 41 #[(.agg #[.slice a1 P.es.length c1, .slice a2 P.js.length c2, .slice a3 P.ss.length c3, .slice a4 P.ls.length c4, .int .i64 P.top, .int .i64 P.brake, .int .i64 P.margin, .int .i64 P.throw, .bool P.hard]), .int .i64 m] w' fun e w'' => e = .returned (.int .i64 (kindP P m)) ∧ Gr w' w'') := fun w' g => kind_any _ P m w' (HPI.out.gr g)
  unfold plnV
  generalize kindP P m = k at HHA0 HKI ⊢
  generalize hn : endsK k = n at HHA0
  by_cases ok : 0 ≤ i ∧ i < n
  · have HHA : Hid (∀ w', Gr w w' → Calls Tryd.prog 58 #[(.agg #[.slice a1 P.es.length c1, .slice a2 P.js.length c2, .slice a3 P.ss.length c3, .slice a4 P.ls.length c4, .int .i64 P.top, .int .i64 P.brake, .int .i64 P.margin, .int .i64 P.throw, .bool P.hard]), .agg #[.int .i64 m, .int .i64 i]] w' fun e w'' => e = .returned (.bool true) ∧ Gr w' w'') := fun w' g => by have := HHA0.out w' g; rw [decide_eq_true ok] at this; exact this
    clear HHA0
    by_cases k1 : k = 1
    · subst k1
      have e2 : n = 2 := hn.symm
      subst e2
      have hi : i = 0 ∨ i = 1 := by omega
      clear ok hn
      rcases hi with rfl | rfl
      all_goals
        go_enter Tryd.func43, Tryd.ntmps43
        go_wp2_with (first | (go_at_call 58; (with_reducible refine (HHA.out _ ((Gr.refl w).alloc _)).mono ?_); rintro e w1 ⟨rfl, g1⟩; have gw1 := hw0.trans g1; obtain ⟨zb1, d0, d1, d2, d3, d4, d5, d6, d7, d8⟩ := HB.out.gr g1) | (go_at_call 41; (with_reducible refine (HKI.out _ gw1).mono ?_); rintro e w2 ⟨rfl, g2⟩; have gw2 := gw1.trans g2) | fail)
        go_ret
        exact ⟨_, rfl, ways_one (by simp) (by rw [World.cell?_alloc_mark]; rfl) (by rw [World.cell?_alloc_mark]; rfl), gw2.alloc _⟩
    by_cases k3 : k = 3
    · subst k3
      have e2 : n = 4 := hn.symm
      subst e2
      have hi : i = 0 ∨ i = 1 ∨ i = 2 ∨ i = 3 := by omega
      clear ok hn
      rcases hi with rfl | rfl | rfl | rfl
      all_goals
        go_enter Tryd.func43, Tryd.ntmps43
        go_wp2_with (first | (go_at_call 58; (with_reducible refine (HHA.out _ ((Gr.refl w).alloc _)).mono ?_); rintro e w1 ⟨rfl, g1⟩; have gw1 := hw0.trans g1; obtain ⟨zb1, d0, d1, d2, d3, d4, d5, d6, d7, d8⟩ := HB.out.gr g1) | (go_at_call 41; (with_reducible refine (HKI.out _ gw1).mono ?_); rintro e w2 ⟨rfl, g2⟩; have gw2 := gw1.trans g2) | fail)
        go_ret
        exact ⟨_, rfl, ways_one (by simp) (by rw [World.cell?_alloc_mark]; rfl) (by rw [World.cell?_alloc_mark]; rfl), gw2.alloc _⟩
    by_cases k2 : k = 2
    · subst k2
      have e2 : n = 3 := hn.symm
      subst e2
      have hi : i = 0 ∨ i = 1 ∨ i = 2 := by omega
      clear ok hn
      rcases hi with rfl | rfl | rfl
      · go_enter Tryd.func43, Tryd.ntmps43
        go_wp2_with (first | (go_at_call 58; (with_reducible refine (HHA.out _ ((Gr.refl w).alloc _)).mono ?_); rintro e w1 ⟨rfl, g1⟩; have gw1 := hw0.trans g1; obtain ⟨zb1, d0, d1, d2, d3, d4, d5, d6, d7, d8⟩ := HB.out.gr g1) | (go_at_call 41; (with_reducible refine (HKI.out _ gw1).mono ?_); rintro e w2 ⟨rfl, g2⟩; have gw2 := gw1.trans g2) | fail)
        go_ret
        exact ⟨_, rfl, ways_two (by simp) (by rw [World.cell?_alloc_mark]; rfl) (by rw [World.cell?_alloc_mark]; rfl) (by rw [World.cell?_alloc_mark]; rfl) (by rw [World.cell?_alloc_mark]; rfl), gw2.alloc _⟩
      all_goals
        go_enter Tryd.func43, Tryd.ntmps43
        go_wp2_with (first | (go_at_call 58; (with_reducible refine (HHA.out _ ((Gr.refl w).alloc _)).mono ?_); rintro e w1 ⟨rfl, g1⟩; have gw1 := hw0.trans g1; obtain ⟨zb1, d0, d1, d2, d3, d4, d5, d6, d7, d8⟩ := HB.out.gr g1) | (go_at_call 41; (with_reducible refine (HKI.out _ gw1).mono ?_); rintro e w2 ⟨rfl, g2⟩; have gw2 := gw1.trans g2) | fail)
        go_ret
        exact ⟨_, rfl, ways_one (by simp) (by rw [World.cell?_alloc_mark]; rfl) (by rw [World.cell?_alloc_mark]; rfl), gw2.alloc _⟩
    have HO : Hid (outsK k i = []) := by show outsK k i = []; unfold outsK; rw [if_neg (by omega), if_neg k1, if_neg k3, if_neg k2]
    have t1 : (k == 1) = false := by simpa using k1
    have t2 : (k == 2) = false := by simpa using k2
    have t3 : (k == 3) = false := by simpa using k3
    clear k1 k2 k3 ok hn
    go_enter Tryd.func43, Tryd.ntmps43
    go_wp2_with (first | (go_at_call 58; (with_reducible refine (HHA.out _ ((Gr.refl w).alloc _)).mono ?_); rintro e w1 ⟨rfl, g1⟩; have gw1 := hw0.trans g1; obtain ⟨zb1, d0, d1, d2, d3, d4, d5, d6, d7, d8⟩ := HB.out.gr g1) | (go_at_call 41; (with_reducible refine (HKI.out _ gw1).mono ?_); rintro e w2 ⟨rfl, g2⟩; have gw2 := gw1.trans g2) | fail)
    go_ret
    exact ⟨_, rfl, by rw [HO.out]; exact ways_nil _, gw2⟩
  · have HHA : Hid (∀ w', Gr w w' → Calls Tryd.prog 58 #[(.agg #[.slice a1 P.es.length c1, .slice a2 P.js.length c2, .slice a3 P.ss.length c3, .slice a4 P.ls.length c4, .int .i64 P.top, .int .i64 P.brake, .int .i64 P.margin, .int .i64 P.throw, .bool P.hard]), .agg #[.int .i64 m, .int .i64 i]] w' fun e w'' => e = .returned (.bool false) ∧ Gr w' w'') := fun w' g => by have := HHA0.out w' g; rw [decide_eq_false ok] at this; exact this
    have HO : Hid (outsK k i = []) := by show outsK k i = []; unfold outsK; rw [if_pos (by omega)]
    clear HHA0 ok hn
    go_enter Tryd.func43, Tryd.ntmps43
    go_wp2_with (first | (go_at_call 58; (with_reducible refine (HHA.out _ ((Gr.refl w).alloc _)).mono ?_); rintro e w1 ⟨rfl, g1⟩; have gw1 := hw0.trans g1; obtain ⟨zb1, d0, d1, d2, d3, d4, d5, d6, d7, d8⟩ := HB.out.gr g1) | (go_at_call 41; (with_reducible refine (HKI.out _ gw1).mono ?_); rintro e w2 ⟨rfl, g2⟩; have gw2 := gw1.trans g2) | fail)
    go_ret
    exact ⟨_, rfl, by rw [HO.out]; exact ways_nil _, gw1⟩
end Go.Proofs.YtgjnlgcdpbilfaaDoor
namespace Go.Proofs.YtgjnlgcdpbilfaaDoor
open Go.ChangeShapes Go.WideShapes Go.ChangeAt Go.RowKit Go.Maps
set_option linter.unusedVariables false
set_option linter.unusedSimpArgs false
end Go.Proofs.YtgjnlgcdpbilfaaDoor
namespace Go.Proofs.YtgjnlgcdpbilfaaDoor
open Go.ChangeShapes Go.WideShapes Go.ChangeAt Go.RowKit Go.Maps
set_option linter.unusedVariables false
set_option linter.unusedSimpArgs false
theorem new2s {w w' : World} {x y : Value} {t : TypeId} (g : Gr (w.alloc (.cells #[x, y] t)) w') : w.heap.size < w'.heap.size ∧ w'.cell? ⟨w.heap.size, 0, none⟩ = some x ∧ w'.cell? ⟨w.heap.size, 1, none⟩ = some y := by
  have hz : w.heap.size < (w.alloc (.cells #[x, y] t)).heap.size := by simp
  exact ⟨Nat.lt_of_lt_of_le hz g.size, (g.cell _ _ hz).trans (by rw [World.cell?_alloc_mark]; rfl), (g.cell _ _ hz).trans (by rw [World.cell?_alloc_mark]; rfl)⟩
end Go.Proofs.YtgjnlgcdpbilfaaDoor
namespace Go.Proofs.YtgjnlgcdpbilfaaDoor
open Go.ChangeShapes Go.WideShapes Go.ChangeAt Go.RowKit Go.Maps
set_option linter.unusedVariables false
set_option linter.unusedSimpArgs false
theorem eleAt_len (P : Pln) (i : Int) : (eleAt P i).l = lenP P i := by
  unfold eleAt lenP
  by_cases h0 : 0 ≤ i
  · by_cases h1 : i < P.es.length
    · rw [if_pos h0, if_pos ⟨h0, h1⟩]
    · rw [if_pos h0, if_neg (by omega), List.getD_eq_getElem?_getD, List.getElem?_eq_none (by omega)]; rfl
  · rw [if_neg h0, if_neg (by omega)]; rfl
end Go.Proofs.YtgjnlgcdpbilfaaDoor
