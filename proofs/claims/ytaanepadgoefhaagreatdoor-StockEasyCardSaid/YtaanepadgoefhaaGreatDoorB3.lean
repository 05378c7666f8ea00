/- Chk4: The document's answer: long.
WrdP: Lines and words: plain. No program.
Tab0: The memory's shape stays.
Tab1: What the walks need of the library's variables.
Own: What the walks carry of a slice of strings that they make.
Nam1: The reference's Name.
Chk5: The document's answer: names, args. Printed by wip/gen_chk5.py.
Chk6: The document's answer: args.
Row: Slices of structs that a walk makes; ports. -/
import Derived.Test.YtaanepadgoefhaaGreatDoorRows
import Derived.Test.YtaanepadgoefhaaGreatDoorB2
import Derived.Test.YtaanepadgoefhaaGreatDoorB1
import Derived.ChangeAgain
import Derived.LaidMore
import Derived.Deep.DeepHandedRow
import Derived.Test.YtaanepadgoefhaaGreatDoorShelf
import Derived.Laws.AppendOwn
import Derived.Laws.OwnMore
import Derived.OwnWalk
namespace Go.Proofs.YtaanepadgoefhaaGreatDoor
open Go.ChangeShapes Go.WideShapes Go.ChangeAt Go.RowKit
set_option linter.unusedVariables false
set_option linter.unusedSimpArgs false
theorem longB_ss {P : Pln} {k : Nat} (hk : k < P.ss.length) (h1 : kindP P P.ss[k].at_.e = 1) (h2 : lenP P P.ss[k].at_.e < P.margin) : longB P = false := by
  unfold longB
  have : P.ss.all (fun s => !decide (kindP P s.at_.e = 1) || decide (P.margin ≤ lenP P s.at_.e)) = false := by
    rw [List.all_eq_false]
    refine ⟨P.ss[k], List.getElem_mem hk, ?_⟩
    simp [h1]; omega
  rw [this]; simp
theorem longB_es {P : Pln} {k : Nat} (hk : k < P.es.length) (h1 : P.es[k].k ≠ 4) (h2 : P.es[k].l < P.top) : longB P = false := by
  unfold longB
  have : P.es.all (fun e => decide (e.k = 4) || decide (P.top ≤ e.l)) = false := by
    rw [List.all_eq_false]
    refine ⟨P.es[k], List.getElem_mem hk, ?_⟩
    simp [h1]; omega
  rw [this]; simp
theorem longB_yes {P : Pln} (h0 : P.top + stp P.brake P.top ≤ P.margin) (h1 : ∀ k (hk : k < P.ss.length), kindP P P.ss[k].at_.e = 1 → P.margin ≤ lenP P P.ss[k].at_.e) (h2 : ∀ k (hk : k < P.es.length), P.es[k].k ≠ 4 → P.top ≤ P.es[k].l) : longB P = true := by
  unfold longB
  have a : P.ss.all (fun s => !decide (kindP P s.at_.e = 1) || decide (P.margin ≤ lenP P s.at_.e)) = true := by
    rw [List.all_eq_true]
    intro s hs
    obtain ⟨k, hk, rfl⟩ := List.mem_iff_getElem.1 hs
    by_cases e : kindP P P.ss[k].at_.e = 1
    · have := h1 k hk e; simp [this]
    · simp [e]
  have b : P.es.all (fun e => decide (e.k = 4) || decide (P.top ≤ e.l)) = true := by
    rw [List.all_eq_true]
    intro s hs
    obtain ⟨k, hk, rfl⟩ := List.mem_iff_getElem.1 hs
    by_cases e : P.es[k].k = 4
    · simp [e]
    · have := h2 k hk e; simp [this]
  rw [a, b]; simp [h0]
set_option maxRecDepth 100000 in
theorem refLong_any (v : Value) (P : Pln) (w : World) (hP : IsPln w v P) (ht : 0 ≤ P.top ∧ P.top ≤ 60) (hb : 1 ≤ P.brake ∧ P.brake ≤ 10) :
    Calls Tryz.prog 85 #[v] w fun e w' => e = .returned (.bool (longB P)) ∧ Gr w w' := by
  obtain ⟨a1, c1, a2, c2, a3, c3, a4, c4, rfl, h1, h2, h3, h4⟩ := hP
  have m1 := IsRow.len h1
  have m3 := IsRow.len h3
  unfold maxLen at m1 m3
  have H1 := Lib.hid h1
  have H3 := Lib.hid h3
  have HPv := Lib.hid (fun (w' : World) (g : Gr w w') => IsPln.mk (w' := w') h1 h2 h3 h4 g)
  have hbx := PBox.new w P (.slice a1 P.es.length c1) (.slice a2 P.js.length c2) (.slice a3 P.ss.length c3) (.slice a4 P.ls.length c4)
  have hg : Gr w (w.alloc (.cells #[.slice a1 P.es.length c1, .slice a2 P.js.length c2, .slice a3 P.ss.length c3, .slice a4 P.ls.length c4, .int .i64 P.top, .int .i64 P.brake, .int .i64 P.margin, .int .i64 P.throw, .bool P.hard] 27)) := (Gr.refl _).alloc _
  have hbd := stp_bd P.brake P.top hb.1 ht.2
  have HS := Lib.hid (fun w => refStop_any P.top P.brake ht hb w)
  have HL0 := Lib.hid (@longB_yes P)
  unfold plnV
  have HN0 : Hid (P.margin < P.top + stp P.brake P.top → longB P = false) := by
    intro h
    unfold longB; simp; omega
  generalize hst : stp P.brake P.top = st at *
  clear h1 h2 h3 h4 hst
  by_cases hM : P.margin < P.top + st
  · have HN := Lib.hid (HN0.out hM)
    clear HN0 HL0
    go_enter Tryz.func85, Tryz.ntmps85
    go_wp2_with fail
    have tw : IntKind.i64.wrap (P.top + st) = P.top + st := by rw [IntKind.wrap_i64]; omega
    go_quiet ((go_at_call 116; exact Calls.quiet_of_same (HS.out _)))
    go_wp2
    go_ret
    exact ⟨ret_bool HN.out.symm, hg.drewN _⟩
  have hM' : P.top + st ≤ P.margin := by omega
  clear HN0
  go_enter Tryz.func85, Tryz.ntmps85
  go_wp2_with fail
  have tw : IntKind.i64.wrap (P.top + st) = P.top + st := by rw [IntKind.wrap_i64]; omega
  go_quiet ((go_at_call 116; exact Calls.quiet_of_same (HS.out _)))
  clear tw HS
  have hbx' := hbx.drewN nq
  have hg' := hg.drewN nq
  clear hbx hg
  go_wp2_with fail
  go_loopw [3, 4] (fun i _ wr => ∃ k : Nat, i = .int .i64 k ∧ k ≤ P.ss.length ∧ Gr w wr ∧ PBox wr w.heap.size P (.slice a1 P.es.length c1) (.slice a2 P.js.length c2) (.slice a3 P.ss.length c3) (.slice a4 P.ls.length c4) ∧ Hid (∀ j (hj : j < P.ss.length), j < k → kindP P P.ss[j].at_.e = 1 → P.margin ≤ lenP P P.ss[j].at_.e)) (fun i _ _ => P.ss.length - (intOf i).toNat)
  case atStart => exact ⟨0, rfl, Nat.zero_le _, hg', hbx', fun j hj h => by omega⟩
  case round =>
    obtain ⟨k, rfl, hk, g, hx, HA⟩ := hrel
    clear hbx' hg'
    obtain ⟨zb, b0, b1, b2, b3, b4, b5, b6, b7, b8⟩ := hx
    have hB : PBox wr w.heap.size P (.slice a1 P.es.length c1) (.slice a2 P.js.length c2) (.slice a3 P.ss.length c3) (.slice a4 P.ls.length c4) := ⟨zb, b0, b1, b2, b3, b4, b5, b6, b7, b8⟩
    have hPS := hB.ps g
    by_cases hlt : k < P.ss.length
    · obtain ⟨b, o, rfl, zs, -, y1, y2, -⟩ := (H3.out.gr g).at k hlt
      have HSS := Lib.hid (@longB_ss P k hlt)
      have HA' : Hid ((kindP P P.ss[k].at_.e = 1 → P.margin ≤ lenP P P.ss[k].at_.e) → ∀ j (hj : j < P.ss.length), j < k + 1 → kindP P P.ss[j].at_.e = 1 → P.margin ≤ lenP P P.ss[j].at_.e) := by
        intro h j hj hjk
        by_cases e : j = k
        · subst e; exact h
        · exact HA.out j hj (by omega)
      have hk1 : (k : Int) < (P.ss.length : Int) := by omega
      generalize P.ss[k].at_ = q at *
      obtain ⟨qe, qx⟩ := q
      have HK := Lib.hid (fun (v' : Value) (w' : World) (h : IsPln w' v' P) => kind_any v' P qe w' h)
      have HL := Lib.hid (fun (v' : Value) (w' : World) (h : IsPln w' v' P) => length_any v' P qe w' h)
      dsimp only at HA' HSS y1 y2
      generalize kindP P qe = kk at *
      generalize lenP P qe = ll at *
      clear HA
      by_cases hkk : kk = 1
      · have t1 : (kk == 1) = true := by simpa using hkk
        go_wp2_with fail
        have hcb := fun (i : GrW wr) (o : Nat) => GrW.cell zb i o
        have hld := fun (i : GrW wr) => (hB.gr i.gr).load
        unfold plnV at hld
        by_cases hll : ll < P.margin
        · have HN := Lib.hid (HSS.out hkk hll)
          (refine wp_region_gr (by kernel_rfl) (by kernel_rfl) ?_; (repeat (go_big_quiet_step ((first | (go_at_call 86; exact Calls.gr_of (HK.out _ _ (HPv.out _ (g.trans (GrW.gr _))))) | (go_at_call 43; exact Calls.gr_of (HL.out _ _ (HPv.out _ (g.trans (GrW.gr _))))))))); refine wpQuiet_nil ?_; intro wz hz; obtain ⟨iz, hz⟩ := hz; obtain ⟨wn, gn⟩ := iz; dsimp only at hz; obtain rfl := hz.symm)
          go_wp2
          go_ret
          exact ⟨ret_bool HN.out.symm, g.trans gn⟩
        · have HA2 := Lib.hid (HA'.out fun _ => by omega)
          (refine wp_region_gr (by kernel_rfl) (by kernel_rfl) ?_; (repeat (go_big_quiet_step ((first | (go_at_call 86; exact Calls.gr_of (HK.out _ _ (HPv.out _ (g.trans (GrW.gr _))))) | (go_at_call 43; exact Calls.gr_of (HL.out _ _ (HPv.out _ (g.trans (GrW.gr _))))))))); refine wpQuiet_nil ?_; intro wz hz; obtain ⟨iz, hz⟩ := hz; obtain ⟨wn, gn⟩ := iz; dsimp only at hz; obtain rfl := hz.symm)
          have hB2 := hB.gr gn
          clear hB hPS
          go_wp2
          go_roundw
          case rel => exact ⟨k + 1, by go_num, by omega, g.trans gn, hB2, HA2.out⟩
          case measure => simp [intOf]; omega
      · have t1 : (kk == 1) = false := by simpa using hkk
        have HA2 := Lib.hid (HA'.out fun h => absurd h hkk)
        go_wp2_with fail
        have hcb := fun (i : GrW wr) (o : Nat) => GrW.cell zb i o
        have hld := fun (i : GrW wr) => (hB.gr i.gr).load
        unfold plnV at hld
        (refine wp_region_gr (by kernel_rfl) (by kernel_rfl) ?_; (repeat (go_big_quiet_step ((first | (go_at_call 86; exact Calls.gr_of (HK.out _ _ (HPv.out _ (g.trans (GrW.gr _))))) | (go_at_call 43; exact Calls.gr_of (HL.out _ _ (HPv.out _ (g.trans (GrW.gr _))))))))); refine wpQuiet_nil ?_; intro wz hz; obtain ⟨iz, hz⟩ := hz; obtain ⟨wn, gn⟩ := iz; dsimp only at hz; obtain rfl := hz.symm)
        have hB2 := hB.gr gn
        clear hB hPS
        go_wp2
        go_roundw
        case rel => exact ⟨k + 1, by go_num, by omega, g.trans gn, hB2, HA2.out⟩
        case measure => simp [intOf]; omega
    · have HL1 : Hid ((∀ k (hk : k < P.es.length), P.es[k].k ≠ 4 → P.top ≤ P.es[k].l) → longB P = true) := fun h => HL0.out hM' (fun j hj => HA.out j hj (by omega)) h
      clear HA HL0
      go_wp2_with fail
      go_loopw [5] (fun i wy => ∃ k : Nat, i = .int .i64 k ∧ k ≤ P.es.length ∧ Gr w wy ∧ PBox wy w.heap.size P (.slice a1 P.es.length c1) (.slice a2 P.js.length c2) (.slice a3 P.ss.length c3) (.slice a4 P.ls.length c4) ∧ Hid (∀ j (hj : j < P.es.length), j < k → P.es[j].k ≠ 4 → P.top ≤ P.es[j].l)) (fun i _ => P.es.length - (intOf i).toNat)
      case atStart => exact ⟨0, rfl, Nat.zero_le _, g, hB, fun j hj h => by omega⟩
      case round =>
        clear hB hPS b0 b1 b2 b3 b4 b5 b6 b7 b8 zb g hlt hk
        obtain ⟨k2, rfl, hk, g, hx, HA⟩ := hrel
        obtain ⟨zb, b0, b1, b2, b3, b4, b5, b6, b7, b8⟩ := hx
        have HB := Lib.hid (show PBox wr w.heap.size P (.slice a1 P.es.length c1) (.slice a2 P.js.length c2) (.slice a3 P.ss.length c3) (.slice a4 P.ls.length c4) from ⟨zb, b0, b1, b2, b3, b4, b5, b6, b7, b8⟩)
        by_cases hlt : k2 < P.es.length
        · obtain ⟨b, o, rfl, zs, -, y1, y2⟩ := (H1.out.gr g).at k2 hlt
          have HSS := Lib.hid (@longB_es P k2 hlt)
          have HA' : Hid ((P.es[k2].k ≠ 4 → P.top ≤ P.es[k2].l) → ∀ j (hj : j < P.es.length), j < k2 + 1 → P.es[j].k ≠ 4 → P.top ≤ P.es[j].l) := by
            intro h j hj hjk
            by_cases e : j = k2
            · subst e; exact h
            · exact HA.out j hj (by omega)
          have hk1 : (k2 : Int) < (P.es.length : Int) := by omega
          clear HA HL1
          generalize P.es[k2] = q at *
          obtain ⟨qn, qk, ql⟩ := q
          dsimp only at HA' HSS y1 y2
          by_cases hkk : qk = 4
          · have t1 : (qk != 4) = false := by simpa using hkk
            have HA2 := Lib.hid (HA'.out fun h => absurd hkk h)
            go_wp2_with fail
            go_quiet (fail)
            go_wp2
            go_roundw
            case rel => exact ⟨k2 + 1, by go_num, by omega, g.drewN _, HB.out.drewN _, HA2.out⟩
            case measure => simp [intOf]; omega
          · have t1 : (qk != 4) = true := by simpa using hkk
            by_cases hll : ql < P.top
            · have HN := Lib.hid (HSS.out hkk hll)
              go_wp2_with fail
              go_quiet (fail)
              go_wp2
              go_ret
              exact ⟨ret_bool HN.out.symm, g.drewN _⟩
            · have HA2 := Lib.hid (HA'.out fun _ => by omega)
              go_wp2_with fail
              go_quiet (fail)
              go_wp2
              go_roundw
              case rel => exact ⟨k2 + 1, by go_num, by omega, g.drewN _, HB.out.drewN _, HA2.out⟩
              case measure => simp [intOf]; omega
        · have HN := Lib.hid (HL1.out fun j hj => HA.out j hj (by omega))
          go_wp2
          go_ret
          exact ⟨ret_bool HN.out.symm, g⟩
end Go.Proofs.YtaanepadgoefhaaGreatDoor
namespace Go.Proofs.YtaanepadgoefhaaGreatDoor
open Go.ChangeShapes Go.WideShapes Go.ChangeAt Go.RowKit
set_option linter.unusedVariables false
set_option linter.unusedSimpArgs false

def toB (l : List UInt8) : ByteArray := ⟨l.toArray⟩
theorem toB_data (s : ByteArray) : toB s.data.toList = s := by
  apply ByteArray.ext; simp [toB]
theorem toB_inj {a b : List UInt8} (h : toB a = toB b) : a = b := by
  have := congrArg (fun x : ByteArray => x.data.toList) h
  simpa [toB] using this

theorem data_extract (s : ByteArray) (a b : Nat) : (s.extract a b).data.toList = (s.data.toList.drop a).take (b - a) := by
  simp [ByteArray.data_extract, List.extract_eq_take_drop]

/-- the lines of a text, so much of the first one read already -/
def lnsA (acc : List UInt8) : List UInt8 → List (List UInt8)
  | [] => if acc = [] then [] else [acc]
  | c :: t => if c = 10 then acc :: lnsA [] t else lnsA (acc ++ [c]) t
theorem lnsA_pre (t : List UInt8) : ∀ (p acc : List UInt8), (∀ c ∈ p, c ≠ 10) → lnsA acc (p ++ t) = lnsA (acc ++ p) t
  | [], acc, _ => by simp
  | c :: p, acc, h => by
    have hc : c ≠ 10 := h c (by simp)
    simp only [List.cons_append, lnsA, if_neg hc]
    rw [lnsA_pre t p _ fun d hd => h d (by simp [hd])]
    simp
/-- the lines of a text -/
def lnB (s : ByteArray) : List ByteArray := (lnsA [] s.data.toList).map toB

theorem lnB_empty (s : ByteArray) (h : s.data.toList = []) : lnB s = [] := by unfold lnB; rw [h]; rfl
/-- no line feed: one line -/
theorem lnB_none (s : ByteArray) (h : s.data.toList ≠ []) (hn : ∀ c ∈ s.data.toList, c ≠ 10) : lnB s = [s] := by
  unfold lnB
  have := lnsA_pre [] s.data.toList [] hn
  rw [List.append_nil] at this
  rw [this]
  simp only [List.nil_append, lnsA, if_neg h, List.map_cons, List.map_nil, toB_data]
theorem take_drop_at {l : List UInt8} {i : Nat} {c : UInt8} (h : l[i]? = some c) : l = l.take i ++ c :: l.drop (i + 1) := by
  have hi : i < l.length := (List.getElem?_eq_some_iff.1 h).1
  have e := List.drop_eq_getElem_cons hi
  rw [List.getElem?_eq_getElem hi] at h
  rw [Option.some.inj h] at e
  rw [← e, List.take_append_drop]
/-- a line feed at i, none ahead of it -/
theorem lnB_at (s : ByteArray) (i : Nat) (h : s.data.toList[i]? = some 10) (hn : ∀ c ∈ s.data.toList.take i, c ≠ 10) :
    lnB s = s.extract 0 i :: lnB (s.extract (i + 1) s.size) := by
  have hi : i < s.data.toList.length := (List.getElem?_eq_some_iff.1 h).1
  have e1 : (s.extract 0 i).data.toList = s.data.toList.take i := by rw [data_extract]; simp
  have e2 : (s.extract (i + 1) s.size).data.toList = s.data.toList.drop (i + 1) := by
    rw [data_extract]
    exact List.take_of_length_le (by simp)
  unfold lnB
  rw [e2]
  conv => lhs; rw [take_drop_at h]
  rw [lnsA_pre _ _ _ hn]
  simp only [List.nil_append, lnsA, if_pos, List.map_cons]
  rw [← e1, toB_data]

/-- from f on a line is open, i is the next byte -/
def lnR (s : ByteArray) (f i : Nat) : List ByteArray := (lnsA (s.extract f i).data.toList (s.data.toList.drop i)).map toB
theorem seg_snoc (s : ByteArray) (f i : Nat) (hf : f ≤ i) (hi : i < s.size) : (s.extract f (i + 1)).data.toList = (s.extract f i).data.toList ++ [s[i]] := by
  have hl : s.data.toList.length = s.size := by simp
  rw [data_extract, data_extract, show i + 1 - f = (i - f) + 1 from by omega, List.take_add_one]
  congr 1
  rw [List.getElem?_drop, show f + (i - f) = i from by omega, List.getElem?_eq_getElem (by omega)]
  rfl
theorem drop_at (s : ByteArray) (i : Nat) (hi : i < s.size) : s.data.toList.drop i = s[i] :: s.data.toList.drop (i + 1) := by
  have hl : s.data.toList.length = s.size := by simp
  rw [List.drop_eq_getElem_cons (by omega)]
  rfl
theorem seg_nil (s : ByteArray) (f : Nat) : (s.extract f f).data.toList = [] := by rw [data_extract]; simp
theorem lnR_start (s : ByteArray) : lnR s 0 0 = lnB s := by unfold lnR lnB; rw [seg_nil]; rfl
theorem lnR_nl (s : ByteArray) (f i : Nat) (hf : f ≤ i) (hi : i < s.size) (h : s[i] = 10) : lnR s f i = s.extract f i :: lnR s (i + 1) (i + 1) := by
  unfold lnR
  rw [drop_at s i hi, seg_nil]
  simp only [lnsA, h, if_pos, List.map_cons, toB_data]
theorem lnR_step (s : ByteArray) (f i : Nat) (hf : f ≤ i) (hi : i < s.size) (h : s[i] ≠ 10) : lnR s f i = lnR s f (i + 1) := by
  unfold lnR
  rw [drop_at s i hi, seg_snoc s f i hf hi]
  simp only [lnsA, if_neg h]
theorem lnR_end (s : ByteArray) (f : Nat) (hf : f ≤ s.size) : lnR s f s.size = if f < s.size then [s.extract f s.size] else [] := by
  have hl : s.data.toList.length = s.size := by simp
  unfold lnR
  rw [List.drop_of_length_le (by omega)]
  by_cases h : f < s.size
  · have hne : (s.extract f s.size).data.toList ≠ [] := by
      intro e
      have := congrArg List.length e
      rw [data_extract] at this
      simp at this
      omega
    rw [if_pos h]
    simp only [lnsA, if_neg hne, List.map_cons, List.map_nil, toB_data]
  · rw [if_neg h, show f = s.size from by omega, seg_nil]; rfl

/-- a byte of a word -/
def wrdB (c : UInt8) : Bool := decide (33 ≤ (c.toNat : Int)) && decide ((c.toNat : Int) ≤ 126)
/-- the words of a line, so much of the first one read already; none: it has none -/
def wdsA (acc : List UInt8) : List UInt8 → Option (List (List UInt8))
  | [] => if acc = [] then none else some [acc]
  | c :: t => if wrdB c then wdsA (acc ++ [c]) t else if c = 32 ∧ acc ≠ [] then (wdsA [] t).map (acc :: ·) else none
def wdB (s : ByteArray) : Option (List ByteArray) := (wdsA [] s.data.toList).map (·.map toB)
def wdR (s : ByteArray) (f i : Nat) : Option (List ByteArray) := (wdsA (s.extract f i).data.toList (s.data.toList.drop i)).map (·.map toB)
theorem wdR_start (s : ByteArray) : wdR s 0 0 = wdB s := by unfold wdR wdB; rw [seg_nil]; rfl
theorem wdR_step (s : ByteArray) (f i : Nat) (hf : f ≤ i) (hi : i < s.size) (h : wrdB s[i] = true) : wdR s f i = wdR s f (i + 1) := by
  unfold wdR
  rw [drop_at s i hi, seg_snoc s f i hf hi]
  simp only [wdsA, h, if_pos]
theorem seg_ne (s : ByteArray) (f i : Nat) (hf : f < i) (hi : i ≤ s.size) : (s.extract f i).data.toList ≠ [] := by
  intro e
  have hl : s.data.toList.length = s.size := by simp
  have := congrArg List.length e
  rw [data_extract] at this
  simp at this
  omega
theorem wdR_blank (s : ByteArray) (f i : Nat) (hf : f < i) (hi : i < s.size) (h : s[i] = 32) : wdR s f i = (wdR s (i + 1) (i + 1)).map (s.extract f i :: ·) := by
  unfold wdR
  rw [drop_at s i hi, seg_nil]
  have hne := seg_ne s f i hf (by omega)
  have hw : wrdB 32 = false := by decide
  simp only [wdsA, h, hw, if_pos, hne, ne_eq, not_false_eq_true, and_self, Bool.false_eq_true, if_false]
  cases wdsA [] (s.data.toList.drop (i + 1)) with
  | none => rfl
  | some l => simp only [Option.map_some, List.map_cons, toB_data]
theorem wdR_bad (s : ByteArray) (f i : Nat) (hf : f ≤ i) (hi : i < s.size) (h : wrdB s[i] = false) (hb : f = i ∨ s[i] ≠ 32) : wdR s f i = none := by
  unfold wdR
  rw [drop_at s i hi]
  simp only [wdsA, h, Bool.false_eq_true, if_false]
  rw [if_neg]
  · rfl
  · rintro ⟨h1, h2⟩
    rcases hb with hb | hb
    · subst hb; exact h2 (seg_nil s f)
    · exact hb h1
theorem wdR_end (s : ByteArray) (f : Nat) (hf : f ≤ s.size) : wdR s f s.size = if f < s.size then some [s.extract f s.size] else none := by
  have hl : s.data.toList.length = s.size := by simp
  unfold wdR
  rw [List.drop_of_length_le (by omega)]
  by_cases h : f < s.size
  · rw [if_pos h]
    simp only [wdsA, if_neg (seg_ne s f s.size h (by omega)), Option.map_some, List.map_cons, List.map_nil, toB_data]
  · rw [if_neg h, show f = s.size from by omega, seg_nil]; rfl
end Go.Proofs.YtaanepadgoefhaaGreatDoor
namespace Go.Proofs.YtaanepadgoefhaaGreatDoor
open Go.ChangeShapes Go.WideShapes Go.ChangeAt Go.RowKit
set_option linter.unusedVariables false
set_option linter.unusedSimpArgs false

theorem shp_gr {w w' : World} (h : w.ShapedOpen Tryz.prog) (g : Gr w w') : w'.ShapedOpen Tryz.prog := h.keptBut (Below.frame g (fun _ => False)) (fun _ hh => hh.elim)
end Go.Proofs.YtaanepadgoefhaaGreatDoor
namespace Go.Proofs.YtaanepadgoefhaaGreatDoor
open Go.ChangeShapes Go.WideShapes Go.ChangeAt Go.RowKit
set_option linter.unusedVariables false
set_option linter.unusedSimpArgs false

/-- the table that Itoa reads; the numbers that Index reads -/
structure Tabs (w : World) : Prop where
  pow : Lib.TabIs Tryz.prog w "internal/strconv.uint64pow10" .u64 Lib.pow10Tab
  sh : w.ShapedOpen Tryz.prog
theorem pow_named : Tryz.prog.globalNamed "internal/strconv.uint64pow10" = some 1 := by kernel_rfl
theorem Tabs.gr {w w' : World} (h : Tabs w) (g : Gr w w') : Tabs w' := by
  have hp := h.pow
  have hlt : 1 < w.heap.size := by
    unfold Lib.TabIs World.var? at hp
    rw [pow_named] at hp
    simp only [Option.bind_some] at hp
    rcases Nat.lt_or_ge 1 w.heap.size with hl | hl
    · exact hl
    · rw [Array.getElem?_eq_none hl] at hp
      cases hp
  exact ⟨var?_below g pow_named hlt hp, shp_gr h.sh g⟩
end Go.Proofs.YtaanepadgoefhaaGreatDoor
namespace Go.Proofs.YtaanepadgoefhaaGreatDoor
open Go.ChangeShapes Go.WideShapes Go.ChangeAt Go.RowKit
set_option linter.unusedVariables false
set_option linter.unusedSimpArgs false

/-- v is a slice of strings of the call's own (blocks from B on), its elements L -/
def OwnS (B : Nat) (w : World) (v : Value) (L : List ByteArray) : Prop := w.ownsRow B 9 1 v L.length (L.map Value.string)
theorem OwnS.nil (B : Nat) (w : World) : OwnS B w (.slice none 0 0) [] := ⟨rfl, .inl ⟨rfl, rfl⟩⟩
theorem OwnS.snoc {B : Nat} {w : World} {v : Value} {L : List ByteArray} {x : ByteArray} (h : w.ownsRow B 9 1 v (L.length + 1) (L.map Value.string ++ [.string x])) : OwnS B w v (L ++ [x]) := by
  unfold OwnS
  simpa using h
theorem own_base {w : World} {B : Nat} {e : TypeId} {sz n : Nat} {v : Value} {xs : List Value} (h : w.ownsRow B e sz v n xs) : ∀ k, v.ownBlock = some k → B ≤ k := by
  intro k hk
  rcases h.2 with ⟨rfl, _⟩ | ⟨g, cap, cur, rfl, hg, _⟩
  · cases hk
  · simp [Value.ownBlock] at hk
    omega
theorem Gr.grown {a w w' : World} {v : Value} {e : TypeId} {sz n : Nat} {xs : List Value} {W : World} (h : Gr a w) (hg : w.grownBy w' v.ownBlock) (ho : W.ownsRow a.heap.size e sz v n xs) : Gr a w' :=
  Below.grown h hg h.size (own_base ho)
theorem OwnS.vals {B : Nat} {w : World} {v : Value} {L : List ByteArray} (h : OwnS B w v L) (hl : L.length ≤ maxLen) : IsVals w v (L.map Value.string) := by
  obtain ⟨h1, h2⟩ := h
  rcases h2 with ⟨rfl, h0⟩ | ⟨g, cap, cur, rfl, hg, hh, hn, hcap, hsz, htake⟩
  · have : L = [] := List.length_eq_zero_iff.1 h0
    subst this
    exact ⟨none, 0, rfl, by simp, .inl rfl⟩
  · refine ⟨some ⟨g, 0, none⟩, cap, by simp, by simpa using hl, .inr ⟨g, 0, rfl, ?_, ?_⟩⟩
    · rcases Nat.lt_or_ge g w.heap.size with h | h
      · exact h
      · rw [Array.getElem?_eq_none h] at hh; cases hh
    · intro i x hx
      rw [← htake] at hx
      unfold World.cell?
      simp only [hh]
      rw [List.getElem?_take] at hx
      split at hx
      · simpa using hx
      · cases hx

/-- what a function returns that makes a slice of strings -/
def RetS (w : World) (L : List ByteArray) (e : Ending) (w' : World) : Prop := ∃ v, e = .returned v ∧ IsVals w' v (L.map Value.string) ∧ Gr w w'

theorem Tryz.infoS : (Tryz.prog.info? 9).map (fun i => (i.zero, i.size, i.bytes)) = some (some (.string ByteArray.empty), 1, 16) := by kernel_rfl
end Go.Proofs.YtaanepadgoefhaaGreatDoor
namespace Go.Proofs.YtaanepadgoefhaaGreatDoor
open Go.ChangeShapes Go.WideShapes Go.ChangeAt Go.RowKit
set_option linter.unusedVariables false
set_option linter.unusedSimpArgs false

set_option maxHeartbeats 400000 in
theorem refName_any (s : ByteArray) (hs : s.size ≤ maxLen) (w : World) :
    Calls Tryz.prog 39 #[.string s] w fun e w' => e = .returned (.bool (nmB s)) ∧ w' = w := by
  unfold maxLen at hs
  go_enter Tryz.func39, Tryz.ntmps39
  go_wp2
  go_loop [3, 4, 5] (fun i _ _ => ∃ k : Nat, i = .int .i64 k ∧ k ≤ s.size ∧ Hid (∀ j, j < k → okc j (bt s j) = true)) (fun i _ _ => s.size - (intOf i).toNat)
  case atStart => exact ⟨0, rfl, Nat.zero_le _, fun j hj => by omega⟩
  case round =>
    obtain ⟨k, rfl, hk, HA⟩ := hrel
    by_cases hlt : k < s.size
    · have HG := Lib.hid (bt_get s k hlt)
      have hk0 : ((k : Int) == 0) = true ∨ ((k : Int) == 0) = false := by cases h : ((k : Int) == 0) <;> simp
      by_cases hok : okc k (bt s k) = true
      · have HN : Hid (∀ j, j < k + 1 → okc j (bt s j) = true) := by
          intro j hj
          by_cases e : j = k
          · rw [e]; exact hok
          · exact HA.out j (by omega)
        have ho := (okc_iff k (bt s k)).1 hok
        rw [HG.out] at ho
        rw [show (k ≠ 0) = ¬ ((k : Int) == 0) = true from by simp] at ho
        clear hok HA HG
        rcases hk0 with hk0 | hk0
        all_goals go_wp2
        all_goals (first | (exfalso; simp_all; done) | (exfalso; simp_all; omega) | skip)
        all_goals go_round
        all_goals try (case rel => exact ⟨k + 1, by go_num, by omega, HN⟩)
        all_goals try (case measure => simp [intOf]; omega)
      · have HB := Lib.hid (nmB_bad s k hlt (by simpa using hok))
        have ho : ¬ ((97 ≤ bt s k ∧ bt s k ≤ 122) ∨ (65 ≤ bt s k ∧ bt s k ≤ 90) ∨ (k ≠ 0 ∧ 48 ≤ bt s k ∧ bt s k ≤ 57)) := fun h => hok ((okc_iff k (bt s k)).2 h)
        rw [HG.out] at ho
        rw [show (k ≠ 0) = ¬ ((k : Int) == 0) = true from by simp] at ho
        clear hok HA HG
        rcases hk0 with hk0 | hk0
        all_goals go_wp2
        all_goals (first | (exfalso; simp_all; done) | (exfalso; simp_all; omega) | skip)
        all_goals go_ret
        all_goals exact ⟨ret_bool HB.out.symm, rfl⟩
    · have HB := Lib.hid (nmB_good s fun i hi => HA.out i (by omega))
      clear HA
      go_wp2
      all_goals go_ret
      all_goals (refine ⟨ret_bool ?_, rfl⟩; rw [HB.out]; by_cases a1 : 1 ≤ s.size <;> by_cases a2 : s.size ≤ 8 <;> simp [a1, a2] <;> omega)
end Go.Proofs.YtaanepadgoefhaaGreatDoor
namespace Go.Proofs.YtaanepadgoefhaaGreatDoor
open Go.ChangeShapes Go.WideShapes Go.ChangeAt Go.RowKit
set_option linter.unusedVariables false
set_option linter.unusedSimpArgs false

/-- the world with the plan's box -/
def bxW (w : World) (P : Pln) (e j s l : Value) : World := w.alloc (.cells #[e, j, s, l, .int .i64 P.top, .int .i64 P.brake, .int .i64 P.margin, .int .i64 P.throw, .bool P.hard] 27)
theorem bxW_gr (w : World) (P : Pln) (e j s l : Value) : Gr w (bxW w P e j s l) := (Gr.refl _).alloc _
theorem bxW_box (w : World) (P : Pln) (e j s l : Value) : PBox (bxW w P e j s l) w.heap.size P e j s l := PBox.new w P e j s l
/-- what names returns -/
def RetN (w : World) (A B C : List ByteArray) (e : Ending) (w' : World) : Prop := ∃ va vb vc, e = .returned (.tuple #[va, vb, vc]) ∧ IsVals w' va (A.map Value.string) ∧ IsVals w' vb (B.map Value.string) ∧ IsVals w' vc (C.map Value.string) ∧ Gr w w'
theorem map_take_snoc {α β : Type} (l : List α) (f : α → β) (k : Nat) (h : k < l.length) : (l.take k).map f ++ [f l[k]] = (l.take (k + 1)).map f := by
  rw [List.take_succ_eq_append_getElem h, List.map_append]; rfl
theorem map_take_all {α β : Type} (l : List α) (f : α → β) (k : Nat) (h : l.length ≤ k) : (l.take k).map f = l.map f := by
  rw [List.take_of_length_le h]
set_option maxRecDepth 100000 in
set_option maxHeartbeats 400000 in
theorem refNames_any (v : Value) (P : Pln) (w : World) (hP : IsPln w v P) (n1 : P.es.length ≤ 1000) (n3 : P.ss.length ≤ 1000) (n4 : P.ls.length ≤ 1000) :
    Calls Tryz.prog 79 #[v] w (RetN w (P.es.map (·.n)) (P.ss.map (·.n)) (P.ls.map (·.n))) := by
  obtain ⟨a1, c1, a2, c2, a3, c3, a4, c4, rfl, h1, h2, h3, h4⟩ := hP
  have H1 := Lib.hid h1
  have H3 := Lib.hid h3
  have H4 := Lib.hid h4
  have HB := Lib.hid (bxW_box w P (.slice a1 P.es.length c1) (.slice a2 P.js.length c2) (.slice a3 P.ss.length c3) (.slice a4 P.ls.length c4))
  have hw0 := bxW_gr w P (.slice a1 P.es.length c1) (.slice a2 P.js.length c2) (.slice a3 P.ss.length c3) (.slice a4 P.ls.length c4)
  obtain ⟨wb, hwb⟩ : ∃ wb, wb = bxW w P (.slice a1 P.es.length c1) (.slice a2 P.js.length c2) (.slice a3 P.ss.length c3) (.slice a4 P.ls.length c4) := ⟨_, rfl⟩
  rw [← hwb] at HB hw0
  unfold plnV
  obtain ⟨i0, hi, hz0, hz1, hz2⟩ := info_parts Tryz.infoS
  clear h1 h2 h3 h4
  have HWB := Lib.hid hwb
  clear hwb
  go_enter Tryz.func79, Tryz.ntmps79
  go_wp2_with fail
  rw [show (w.alloc (.cells #[.slice a1 P.es.length c1, .slice a2 P.js.length c2, .slice a3 P.ss.length c3, .slice a4 P.ls.length c4, .int .i64 P.top, .int .i64 P.brake, .int .i64 P.margin, .int .i64 P.throw, .bool P.hard] 27)) = wb from HWB.out.symm]
  go_loopw [5, 8] (fun v i wr => ∃ (V : Value) (k : Nat), V = v ∧ i = .int .i64 k ∧ k ≤ P.es.length ∧ OwnS wb.heap.size wr V ((P.es.take k).map (·.n)) ∧ Gr wb wr) (fun _ i _ => P.es.length - (intOf i).toNat)
  case atStart => exact ⟨_, 0, rfl, rfl, Nat.zero_le _, OwnS.nil _ _, Gr.refl _⟩
  case round =>
    obtain ⟨v1, k, rfl, rfl, hk, ho, g⟩ := hrel
    obtain ⟨zb, b0, b1, b2, b3, b4, b5, b6, b7, b8⟩ := HB.out.gr g
    have HO : Hid (wr.ownsRow wb.heap.size 9 1 v1 ((P.es.take k).map (·.n)).length (((P.es.take k).map (·.n)).map Value.string)) := ho
    have hgw := hw0.trans g
    by_cases hlt : k < P.es.length
    · obtain ⟨b, o, hsome, zs, y0, -, -⟩ := (H1.out.gr hgw).at k hlt
      subst hsome
      have HT := Lib.hid (map_take_snoc P.es (·.n) k hlt)
      have hk1 : (k : Int) < (P.es.length : Int) := by omega
      have hkl : ((P.es.take k).map (·.n)).length ≤ 1000 := by simp; omega
      generalize P.es[k].n = nm at *
      generalize (P.es.take k).map (·.n) = L at *
      go_wp2_with (first | (at_builtin; refine wpList_append_own _ rfl _ _ 93 rfl wb.heap.size 9 i0 (.string ByteArray.empty) 1 16 Tryz.underlying93 hi hz0 hz1 hz2 rfl (by decide) _ _ _ rfl (HO.out.alloc _) ⟨wr.heap.size, 0, none⟩ 1 1 [.string nm] rfl rfl ?c1 ?c2 ?c3 ?c4 ?c5 ?_))
      case c1 => exact cell_one_new _ _ _
      case c2 => simp [Value.oneCell']
      case c3 => unfold maxLen; omega
      case c4 => omega
      case c5 => have := g.size; simp; omega
      intro v' w1 hown' hgrow _
      have hg1 : Gr wb w1 := Gr.grown (g.alloc _) hgrow HO.out
      have ho1 : OwnS wb.heap.size w1 v' (L ++ [nm]) := OwnS.snoc hown'
      rw [HT.out] at ho1
      clear hown' hgrow HO
      go_wp2
      go_roundw
      case rel => exact ⟨_, k + 1, rfl, by go_num, by omega, ho1, hg1⟩
      case measure => simp [intOf]; omega
    · have hv1 : IsVals wr v1 ((P.es.map (·.n)).map Value.string) := by
        have := ho.vals (by unfold maxLen; simp; omega)
        rwa [map_take_all _ _ _ (by omega)] at this
      have HV1 := Lib.hid hv1
      have hb1 := HB.out.gr g
      have hw1 := hw0.trans g
      clear HO ho hv1 hgw zb b0 b1 b2 b3 b4 b5 b6 b7 b8
      have hb1' := hb1
      obtain ⟨zb, b0, b1, b2, b3, b4, b5, b6, b7, b8⟩ := hb1'
      go_wp2_with fail
      clear zb b0 b1 b2 b3 b4 b5 b6 b7 b8 g hlt hk
      have HB1 := Lib.hid hb1
      clear hb1
      obtain ⟨wa, hwa⟩ : ∃ wa, wa = wr := ⟨_, rfl⟩
      subst hwa
      go_loopw [6, 9] (fun v i wr => ∃ (V : Value) (k : Nat), V = v ∧ i = .int .i64 k ∧ k ≤ P.ss.length ∧ OwnS wa.heap.size wr V ((P.ss.take k).map (·.n)) ∧ Gr wa wr) (fun _ i _ => P.ss.length - (intOf i).toNat)
      case atStart => exact ⟨_, 0, rfl, rfl, Nat.zero_le _, OwnS.nil _ _, Gr.refl _⟩
      case round =>
        obtain ⟨v2, k, rfl, rfl, hk, ho, g⟩ := hrel
        obtain ⟨zb, b0, b1, b2, b3, b4, b5, b6, b7, b8⟩ := HB1.out.gr g
        have HO : Hid (wr.ownsRow wa.heap.size 9 1 v2 ((P.ss.take k).map (·.n)).length (((P.ss.take k).map (·.n)).map Value.string)) := ho
        have hgw := hw1.trans g
        by_cases hlt : k < P.ss.length
        · obtain ⟨b, o, hsome, zs, y0, -, -, -⟩ := (H3.out.gr hgw).at k hlt
          subst hsome
          have HT := Lib.hid (map_take_snoc P.ss (·.n) k hlt)
          have hk1 : (k : Int) < (P.ss.length : Int) := by omega
          have hkl : ((P.ss.take k).map (·.n)).length ≤ 1000 := by simp; omega
          generalize P.ss[k].n = nm at *
          generalize (P.ss.take k).map (·.n) = L at *
          go_wp2_with (first | (at_builtin; refine wpList_append_own _ rfl _ _ 93 rfl wa.heap.size 9 i0 (.string ByteArray.empty) 1 16 Tryz.underlying93 hi hz0 hz1 hz2 rfl (by decide) _ _ _ rfl (HO.out.alloc _) ⟨wr.heap.size, 0, none⟩ 1 1 [.string nm] rfl rfl ?c1 ?c2 ?c3 ?c4 ?c5 ?_))
          case c1 => exact cell_one_new _ _ _
          case c2 => simp [Value.oneCell']
          case c3 => unfold maxLen; omega
          case c4 => omega
          case c5 => have := g.size; simp; omega
          intro v' w1 hown' hgrow _
          have hg1 : Gr wa w1 := Gr.grown (g.alloc _) hgrow HO.out
          have ho1 : OwnS wa.heap.size w1 v' (L ++ [nm]) := OwnS.snoc hown'
          rw [HT.out] at ho1
          clear hown' hgrow HO
          go_wp2
          go_roundw
          case rel => exact ⟨_, k + 1, rfl, by go_num, by omega, ho1, hg1⟩
          case measure => simp [intOf]; omega
        · have hv2 : IsVals wr v2 ((P.ss.map (·.n)).map Value.string) := by
            have := ho.vals (by unfold maxLen; simp; omega)
            rwa [map_take_all _ _ _ (by omega)] at this
          have HV2 := Lib.hid hv2
          have HV1' := Lib.hid (HV1.out.gr g)
          have hb1 := HB1.out.gr g
          have hw2 := hw1.trans g
          clear HO ho hv2 hgw zb b0 b1 b2 b3 b4 b5 b6 b7 b8
          have hb1' := hb1
          obtain ⟨zb, b0, b1, b2, b3, b4, b5, b6, b7, b8⟩ := hb1'
          go_wp2_with fail
          clear zb b0 b1 b2 b3 b4 b5 b6 b7 b8 g hlt hk HV1
          have HB2 := Lib.hid hb1
          clear hb1
          obtain ⟨wc, hwc⟩ : ∃ wc, wc = wr := ⟨_, rfl⟩
          subst hwc
          go_loopw [7, 10] (fun v i wr => ∃ (V : Value) (k : Nat), V = v ∧ i = .int .i64 k ∧ k ≤ P.ls.length ∧ OwnS wc.heap.size wr V ((P.ls.take k).map (·.n)) ∧ Gr wc wr) (fun _ i _ => P.ls.length - (intOf i).toNat)
          case atStart => exact ⟨_, 0, rfl, rfl, Nat.zero_le _, OwnS.nil _ _, Gr.refl _⟩
          case round =>
            obtain ⟨v3, k, rfl, rfl, hk, ho, g⟩ := hrel
            obtain ⟨zb, b0, b1, b2, b3, b4, b5, b6, b7, b8⟩ := HB2.out.gr g
            have HO : Hid (wr.ownsRow wc.heap.size 9 1 v3 ((P.ls.take k).map (·.n)).length (((P.ls.take k).map (·.n)).map Value.string)) := ho
            have hgw := hw2.trans g
            by_cases hlt : k < P.ls.length
            · obtain ⟨b, o, _, hsome, zs, y0, -, -⟩ := (H4.out.gr hgw).at k hlt
              subst hsome
              have HT := Lib.hid (map_take_snoc P.ls (·.n) k hlt)
              have hk1 : (k : Int) < (P.ls.length : Int) := by omega
              have hkl : ((P.ls.take k).map (·.n)).length ≤ 1000 := by simp; omega
              generalize P.ls[k].n = nm at *
              generalize (P.ls.take k).map (·.n) = L at *
              go_wp2_with (first | (at_builtin; refine wpList_append_own _ rfl _ _ 93 rfl wc.heap.size 9 i0 (.string ByteArray.empty) 1 16 Tryz.underlying93 hi hz0 hz1 hz2 rfl (by decide) _ _ _ rfl (HO.out.alloc _) ⟨wr.heap.size, 0, none⟩ 1 1 [.string nm] rfl rfl ?c1 ?c2 ?c3 ?c4 ?c5 ?_))
              case c1 => exact cell_one_new _ _ _
              case c2 => simp [Value.oneCell']
              case c3 => unfold maxLen; omega
              case c4 => omega
              case c5 => have := g.size; simp; omega
              intro v' w1 hown' hgrow _
              have hg1 : Gr wc w1 := Gr.grown (g.alloc _) hgrow HO.out
              have ho1 : OwnS wc.heap.size w1 v' (L ++ [nm]) := OwnS.snoc hown'
              rw [HT.out] at ho1
              clear hown' hgrow HO
              go_wp2
              go_roundw
              case rel => exact ⟨_, k + 1, rfl, by go_num, by omega, ho1, hg1⟩
              case measure => simp [intOf]; omega
            · have hv3 : IsVals wr v3 ((P.ls.map (·.n)).map Value.string) := by
                have := ho.vals (by unfold maxLen; simp; omega)
                rwa [map_take_all _ _ _ (by omega)] at this
              clear HO ho
              go_wp2
              go_ret3
              exact ⟨_, _, _, rfl, HV1'.out.gr g, HV2.out.gr g, hv3, hgw⟩
end Go.Proofs.YtaanepadgoefhaaGreatDoor
namespace Go.Proofs.YtaanepadgoefhaaGreatDoor
open Go.ChangeShapes Go.WideShapes Go.ChangeAt Go.RowKit
set_option linter.unusedVariables false
set_option linter.unusedSimpArgs false

theorem all_false_of {α : Type} (l : List α) (f : α → Bool) (k : Nat) (h : k < l.length) (hf : f l[k] = false) : l.all f = false := by
  rw [List.all_eq_false]
  exact ⟨l[k], List.getElem_mem h, by simp [hf]⟩
theorem all_true_of {α : Type} (l : List α) (f : α → Bool) (h : ∀ k (hk : k < l.length), f l[k] = true) : l.all f = true := by
  rw [List.all_eq_true]
  intro x hx
  obtain ⟨k, hk, rfl⟩ := List.mem_iff_getElem.1 hx
  exact h k hk
/-- the first of args' tests -/
def numsB (P : Pln) : Bool := inB P.top 1 60 && inB P.brake 1 10 && inB P.margin 1 4000 && inB P.throw 1 20 && !decide (P.es.length = 0)
theorem argsB_eq (P : Pln) : argsB P = (numsB P && P.es.all eleB && P.ss.all (fun s => nmB s.n) && P.ls.all (fun l => nmB l.n)) := rfl
theorem argsB_num {P : Pln} (h : numsB P = false) : argsB P = false := by rw [argsB_eq, h]; rfl
theorem argsB_es {P : Pln} {k : Nat} (hk : k < P.es.length) (h : eleB P.es[k] = false) : argsB P = false := by rw [argsB_eq, all_false_of _ _ k hk h]; simp
theorem argsB_ss {P : Pln} {k : Nat} (hk : k < P.ss.length) (h : nmB P.ss[k].n = false) : argsB P = false := by rw [argsB_eq, all_false_of P.ss (fun s => nmB s.n) k hk h]; simp
theorem argsB_ls {P : Pln} {k : Nat} (hk : k < P.ls.length) (h : nmB P.ls[k].n = false) : argsB P = false := by rw [argsB_eq, all_false_of P.ls (fun s => nmB s.n) k hk h]; simp
theorem argsB_yes {P : Pln} (h0 : numsB P = true) (h1 : ∀ k (hk : k < P.es.length), eleB P.es[k] = true) (h2 : ∀ k (hk : k < P.ss.length), nmB P.ss[k].n = true) (h3 : ∀ k (hk : k < P.ls.length), nmB P.ls[k].n = true) : argsB P = true := by
  rw [argsB_eq, h0, all_true_of _ _ h1, all_true_of P.ss (fun s => nmB s.n) h2, all_true_of P.ls (fun s => nmB s.n) h3]; rfl
theorem snoc_all {p : Nat → Prop} {k n : Nat} (h : ∀ j, j < n → j < k → p j) (hk : p k) : ∀ j, j < n → j < k + 1 → p j := by
  intro j hj hjk
  by_cases e : j = k
  · subst e; exact hk
  · exact h j hj (by omega)

set_option maxRecDepth 100000 in
set_option maxHeartbeats 1000000 in
theorem refArgs_any (v : Value) (P : Pln) (w : World) (hP : IsPln w v P) (hk : PlnOk P) :
    Calls Tryz.prog 80 #[v] w fun e w' => e = .returned (.bool (argsB P)) ∧ Gr w w' := by
  obtain ⟨a1, c1, a2, c2, a3, c3, a4, c4, rfl, h1, h2, h3, h4⟩ := hP
  have m1 := IsRow.len h1
  have m3 := IsRow.len h3
  have m4 : P.ls.length ≤ maxLen := by obtain ⟨S, hS, -⟩ := h4; exact IsRow.len hS
  unfold maxLen at m1 m3 m4
  have H1 := Lib.hid h1
  have H3 := Lib.hid h3
  have H4 := Lib.hid h4
  have HB := Lib.hid (bxW_box w P (.slice a1 P.es.length c1) (.slice a2 P.js.length c2) (.slice a3 P.ss.length c3) (.slice a4 P.ls.length c4))
  have hw0 := bxW_gr w P (.slice a1 P.es.length c1) (.slice a2 P.js.length c2) (.slice a3 P.ss.length c3) (.slice a4 P.ls.length c4)
  obtain ⟨wb, hwb⟩ : ∃ wb, wb = bxW w P (.slice a1 P.es.length c1) (.slice a2 P.js.length c2) (.slice a3 P.ss.length c3) (.slice a4 P.ls.length c4) := ⟨_, rfl⟩
  rw [← hwb] at HB hw0
  unfold plnV
  have HWB := Lib.hid hwb
  have HK := Lib.hid hk
  have HNO := Lib.hid (@argsB_num P)
  clear h1 h2 h3 h4 hwb hk
  go_enter Tryz.func80, Tryz.ntmps80
  go_wp2_with fail
  rw [show (w.alloc (.cells #[.slice a1 P.es.length c1, .slice a2 P.js.length c2, .slice a3 P.ss.length c3, .slice a4 P.ls.length c4, .int .i64 P.top, .int .i64 P.brake, .int .i64 P.margin, .int .i64 P.throw, .bool P.hard] 27)) = wb from HWB.out.symm]
  have hbo := HB.out
  obtain ⟨zb, b0, b1, b2, b3, b4, b5, b6, b7, b8⟩ := hbo
  have HI1 := Lib.hid (fun w => refWithin_any P.top 1 60 w)
  have HI2 := Lib.hid (fun w => refWithin_any P.brake 1 10 w)
  have HI3 := Lib.hid (fun w => refWithin_any P.margin 1 4000 w)
  have HI4 := Lib.hid (fun w => refWithin_any P.throw 1 20 w)
  have HNB : Hid (numsB P = (inB P.top 1 60 && inB P.brake 1 10 && inB P.margin 1 4000 && inB P.throw 1 20 && !decide (P.es.length = 0))) := rfl
  have HYES := Lib.hid (@argsB_yes P)
  generalize inB P.top 1 60 = i1 at HI1 HNB
  generalize inB P.brake 1 10 = i2 at HI2 HNB
  generalize inB P.margin 1 4000 = i3 at HI3 HNB
  generalize inB P.throw 1 20 = i4 at HI4 HNB
  cases i1
  · (go_wp2_with (first | (go_at_call 112; (first | (with_reducible refine (HI1.out _).mono ?_) | (with_reducible refine (HI2.out _).mono ?_) | (with_reducible refine (HI3.out _).mono ?_) | (with_reducible refine (HI4.out _).mono ?_)); rintro e w' ⟨rfl, hq⟩; obtain rfl := hq.symm)); go_ret; exact ⟨ret_bool (HNO.out (by rw [HNB.out]; simp)).symm, hw0⟩)
  cases i2
  · (go_wp2_with (first | (go_at_call 112; (first | (with_reducible refine (HI1.out _).mono ?_) | (with_reducible refine (HI2.out _).mono ?_) | (with_reducible refine (HI3.out _).mono ?_) | (with_reducible refine (HI4.out _).mono ?_)); rintro e w' ⟨rfl, hq⟩; obtain rfl := hq.symm)); go_ret; exact ⟨ret_bool (HNO.out (by rw [HNB.out]; simp)).symm, hw0⟩)
  cases i3
  · (go_wp2_with (first | (go_at_call 112; (first | (with_reducible refine (HI1.out _).mono ?_) | (with_reducible refine (HI2.out _).mono ?_) | (with_reducible refine (HI3.out _).mono ?_) | (with_reducible refine (HI4.out _).mono ?_)); rintro e w' ⟨rfl, hq⟩; obtain rfl := hq.symm)); go_ret; exact ⟨ret_bool (HNO.out (by rw [HNB.out]; simp)).symm, hw0⟩)
  cases i4
  · (go_wp2_with (first | (go_at_call 112; (first | (with_reducible refine (HI1.out _).mono ?_) | (with_reducible refine (HI2.out _).mono ?_) | (with_reducible refine (HI3.out _).mono ?_) | (with_reducible refine (HI4.out _).mono ?_)); rintro e w' ⟨rfl, hq⟩; obtain rfl := hq.symm)); go_ret; exact ⟨ret_bool (HNO.out (by rw [HNB.out]; simp)).symm, hw0⟩)
  by_cases hz : P.es.length = 0
  · have t1 : ((P.es.length : Int) == 0) = true := by simp [hz]
    have HZ := Lib.hid hz
    clear hz
    go_wp2_with (first | (go_at_call 112; (first | (with_reducible refine (HI1.out _).mono ?_) | (with_reducible refine (HI2.out _).mono ?_) | (with_reducible refine (HI3.out _).mono ?_) | (with_reducible refine (HI4.out _).mono ?_)); rintro e w' ⟨rfl, hq⟩; obtain rfl := hq.symm))
    go_ret
    exact ⟨ret_bool (HNO.out (by rw [HNB.out, HZ.out]; rfl)).symm, hw0⟩
  have t1 : ((P.es.length : Int) == 0) = false := beqF (by omega)
  have HT : Hid (numsB P = true) := by unfold Hid; rw [HNB.out, decide_eq_false hz]; rfl
  clear HNB HNO hz
  go_wp2_with (first | (go_at_call 112; (first | (with_reducible refine (HI1.out _).mono ?_) | (with_reducible refine (HI2.out _).mono ?_) | (with_reducible refine (HI3.out _).mono ?_) | (with_reducible refine (HI4.out _).mono ?_)); rintro e w' ⟨rfl, hq⟩; obtain rfl := hq.symm))
  clear zb b0 b1 b2 b3 b4 b5 b6 b7 b8 t1
  go_loopw [3, 4] (fun i _ wr => ∃ k : Nat, i = .int .i64 k ∧ k ≤ P.es.length ∧ Gr wb wr ∧ Hid (∀ j (hj : j < P.es.length), j < k → eleB P.es[j] = true)) (fun i _ _ => P.es.length - (intOf i).toNat)
  case atStart => exact ⟨0, rfl, Nat.zero_le _, Gr.refl _, fun j hj h => by omega⟩
  case round =>
    obtain ⟨k, rfl, hk, g, HA⟩ := hrel
    have hbo := HB.out.gr g
    obtain ⟨zb, b0, b1, b2, b3, b4, b5, b6, b7, b8⟩ := hbo
    by_cases hlt : k < P.es.length
    · obtain ⟨b, o, hsome, zs, y0, y1, y2⟩ := (H1.out.gr (hw0.trans g)).at k hlt
      subst hsome
      have HBAD := Lib.hid (@argsB_es P k hlt)
      have HA' : Hid (eleB P.es[k] = true → ∀ j (hj : j < P.es.length), j < k + 1 → eleB P.es[j] = true) := by
        intro h j hj hjk
        by_cases e : j = k
        · subst e; exact h
        · exact HA.out j hj (by omega)
      have HZN := Lib.hid (HK.out.es _ (List.getElem_mem hlt)).2.2
      have hk1 : (k : Int) < (P.es.length : Int) := by omega
      clear HA
      have HE : Hid (eleB P.es[k] = (nmB P.es[k].n && !decide (endsK P.es[k].k = 0) && (if P.es[k].k = 4 then decide (P.es[k].l = 0) else inB P.es[k].l 1 4000))) := rfl
      generalize P.es[k] = q at *
      obtain ⟨qn, qk, ql⟩ := q
      dsimp only at HE y0 y1 y2 HZN
      have LQ : (Instr.loadAt 103 (.pointer (some ⟨b, o + k * 3, none⟩))).run Tryz.prog wr = .ok (.agg #[.string qn, .int .i64 qk, .int .i64 ql]) wr :=
        run_loadAt_mid wr b (o + k * 3) 103 [.string qn, .int .i64 qk, .int .i64 ql] _ (fun j v h => by
          match j, h with
          | 0, h => cases h; exact y0
          | 1, h => cases h; exact y1
          | 2, h => cases h; exact y2) Tryz.underlying103 rfl (by kernel_rfl)
      have HNM := Lib.hid (fun w => refName_any qn HZN.out w)
      have HEN := Lib.hid (fun w => endsR_any qk w)
      have HIN := Lib.hid (fun w => refWithin_any ql 1 4000 w)
      generalize nmB qn = nb at HE HNM
      generalize endsK qk = en at HE HEN
      generalize inB ql 1 4000 = il at HE HIN
      cases nb
      · have HR := Lib.hid (HBAD.out (by rw [HE.out]; rfl))
        (go_wp2_with (first | (go_at_call 39; (with_reducible refine (HNM.out _).mono ?_); rintro e w' ⟨rfl, hq⟩; obtain rfl := hq.symm) | (go_at_call 87; (with_reducible refine (HEN.out _).mono ?_); rintro e w' ⟨rfl, hq⟩; obtain rfl := hq.symm) | (go_at_call 112; (with_reducible refine (HIN.out _).mono ?_); rintro e w' ⟨rfl, hq⟩; obtain rfl := hq.symm)); go_ret; exact ⟨ret_bool HR.out.symm, (hw0.trans g).alloc _⟩)
      by_cases hen : en = 0
      · have HR := Lib.hid (HBAD.out (by rw [HE.out, hen]; rfl))
        have t1 : (en == 0) = true := by simpa using hen
        clear hen
        (go_wp2_with (first | (go_at_call 39; (with_reducible refine (HNM.out _).mono ?_); rintro e w' ⟨rfl, hq⟩; obtain rfl := hq.symm) | (go_at_call 87; (with_reducible refine (HEN.out _).mono ?_); rintro e w' ⟨rfl, hq⟩; obtain rfl := hq.symm) | (go_at_call 112; (with_reducible refine (HIN.out _).mono ?_); rintro e w' ⟨rfl, hq⟩; obtain rfl := hq.symm)); go_ret; exact ⟨ret_bool HR.out.symm, (hw0.trans g).alloc _⟩)
      have t1 : (en == 0) = false := by simpa using hen
      by_cases hqk : qk = 4
      · have t2 : (qk == 4) = true := by simpa using hqk
        have t3 : (qk != 4) = false := by simpa using hqk
        by_cases hql : ql = 0
        · have HG := Lib.hid (HA'.out (by rw [HE.out, if_pos hqk, hql]; simp [hen]))
          have t4 : (ql != 0) = false := by simpa using hql
          clear hen hqk hql
          (go_wp2_with (first | (go_at_call 39; (with_reducible refine (HNM.out _).mono ?_); rintro e w' ⟨rfl, hq⟩; obtain rfl := hq.symm) | (go_at_call 87; (with_reducible refine (HEN.out _).mono ?_); rintro e w' ⟨rfl, hq⟩; obtain rfl := hq.symm) | (go_at_call 112; (with_reducible refine (HIN.out _).mono ?_); rintro e w' ⟨rfl, hq⟩; obtain rfl := hq.symm)); go_roundw; (case rel => exact ⟨k + 1, by go_num, by omega, g.alloc _, HG.out⟩); (case measure => simp [intOf]; omega))
        · have HR := Lib.hid (HBAD.out (by rw [HE.out, if_pos hqk]; simp [hql]))
          have t4 : (ql != 0) = true := by simpa using hql
          clear hen hqk hql
          (go_wp2_with (first | (go_at_call 39; (with_reducible refine (HNM.out _).mono ?_); rintro e w' ⟨rfl, hq⟩; obtain rfl := hq.symm) | (go_at_call 87; (with_reducible refine (HEN.out _).mono ?_); rintro e w' ⟨rfl, hq⟩; obtain rfl := hq.symm) | (go_at_call 112; (with_reducible refine (HIN.out _).mono ?_); rintro e w' ⟨rfl, hq⟩; obtain rfl := hq.symm)); go_ret; exact ⟨ret_bool HR.out.symm, (hw0.trans g).alloc _⟩)
      · have t2 : (qk == 4) = false := by simpa using hqk
        have t3 : (qk != 4) = true := by simpa using hqk
        cases il
        · have HR := Lib.hid (HBAD.out (by rw [HE.out, if_neg hqk]; simp))
          clear hen hqk
          (go_wp2_with (first | (go_at_call 39; (with_reducible refine (HNM.out _).mono ?_); rintro e w' ⟨rfl, hq⟩; obtain rfl := hq.symm) | (go_at_call 87; (with_reducible refine (HEN.out _).mono ?_); rintro e w' ⟨rfl, hq⟩; obtain rfl := hq.symm) | (go_at_call 112; (with_reducible refine (HIN.out _).mono ?_); rintro e w' ⟨rfl, hq⟩; obtain rfl := hq.symm)); go_ret; exact ⟨ret_bool HR.out.symm, (hw0.trans g).alloc _⟩)
        · have HG := Lib.hid (HA'.out (by rw [HE.out, if_neg hqk]; simp [hen]))
          clear hen hqk
          (go_wp2_with (first | (go_at_call 39; (with_reducible refine (HNM.out _).mono ?_); rintro e w' ⟨rfl, hq⟩; obtain rfl := hq.symm) | (go_at_call 87; (with_reducible refine (HEN.out _).mono ?_); rintro e w' ⟨rfl, hq⟩; obtain rfl := hq.symm) | (go_at_call 112; (with_reducible refine (HIN.out _).mono ?_); rintro e w' ⟨rfl, hq⟩; obtain rfl := hq.symm)); go_roundw; (case rel => exact ⟨k + 1, by go_num, by omega, g.alloc _, HG.out⟩); (case measure => simp [intOf]; omega))
    · have HY2 : Hid ((∀ k (hk : k < P.ss.length), nmB P.ss[k].n = true) → (∀ k (hk : k < P.ls.length), nmB P.ls[k].n = true) → argsB P = true) := fun h2 h3 => HYES.out HT.out (fun j hj => HA.out j hj (by omega)) h2 h3
      clear HA HYES HT
      go_wp2_with fail
      clear zb b0 b1 b2 b3 b4 b5 b6 b7 b8 hlt hk
      have HB1 := Lib.hid (HB.out.gr g)
      have hw1 := hw0.trans g
      obtain ⟨wa, hwa⟩ : ∃ wa, wa = wr := ⟨_, rfl⟩
      subst hwa
      clear g
      go_loopw [5] (fun i wr => ∃ k : Nat, i = .int .i64 k ∧ k ≤ P.ss.length ∧ wa = wr ∧ Hid (∀ j (hj : j < P.ss.length), j < k → nmB P.ss[j].n = true)) (fun i _ => P.ss.length - (intOf i).toNat)
      case atStart => exact ⟨0, rfl, Nat.zero_le _, rfl, fun j hj h => by omega⟩
      case round =>
        obtain ⟨k, rfl, hk, rfl, HA⟩ := hrel
        have hbo := HB1.out
        obtain ⟨zb, b0, b1, b2, b3, b4, b5, b6, b7, b8⟩ := hbo
        by_cases hlt : k < P.ss.length
        · obtain ⟨b, o, hsome, zs, y0, -, -, -⟩ := (H3.out.gr hw1).at k hlt
          subst hsome
          have HBAD := Lib.hid (@argsB_ss P k hlt)
          have HA' : Hid (nmB P.ss[k].n = true → ∀ j (hj : j < P.ss.length), j < k + 1 → nmB P.ss[j].n = true) := by
            intro h j hj hjk
            by_cases e : j = k
            · subst e; exact h
            · exact HA.out j hj (by omega)
          have HZN := Lib.hid (HK.out.ss _ (List.getElem_mem hlt)).2.2
          have hk1 : (k : Int) < (P.ss.length : Int) := by omega
          clear HA
          generalize P.ss[k].n = qn at *
          have HNM := Lib.hid (fun w => refName_any qn HZN.out w)
          generalize nmB qn = nb at *
          cases nb
          · have HR := Lib.hid (HBAD.out rfl)
            go_wp2_with (go_at_call 39; (with_reducible refine (HNM.out _).mono ?_); rintro e w' ⟨rfl, hq⟩; obtain rfl := hq.symm)
            go_ret
            exact ⟨ret_bool HR.out.symm, hw1⟩
          · have HG := Lib.hid (HA'.out rfl)
            go_wp2_with (go_at_call 39; (with_reducible refine (HNM.out _).mono ?_); rintro e w' ⟨rfl, hq⟩; obtain rfl := hq.symm)
            go_roundw
            case rel => exact ⟨k + 1, by go_num, by omega, by trivial, HG.out⟩
            case measure => simp [intOf]; omega
        · have HY3 : Hid ((∀ k (hk : k < P.ls.length), nmB P.ls[k].n = true) → argsB P = true) := fun h3 => HY2.out (fun j hj => HA.out j hj (by omega)) h3
          clear HA HY2
          go_wp2_with fail
          clear zb b0 b1 b2 b3 b4 b5 b6 b7 b8 hlt hk
          go_loopw [6] (fun i wr => ∃ k : Nat, i = .int .i64 k ∧ k ≤ P.ls.length ∧ wa = wr ∧ Hid (∀ j (hj : j < P.ls.length), j < k → nmB P.ls[j].n = true)) (fun i _ => P.ls.length - (intOf i).toNat)
          case atStart => exact ⟨0, rfl, Nat.zero_le _, rfl, fun j hj h => by omega⟩
          case round =>
            obtain ⟨k, rfl, hk, rfl, HA⟩ := hrel
            have hbo := HB1.out
            obtain ⟨zb, b0, b1, b2, b3, b4, b5, b6, b7, b8⟩ := hbo
            by_cases hlt : k < P.ls.length
            · obtain ⟨b, o, _, hsome, zs, y0, -, -⟩ := (H4.out.gr hw1).at k hlt
              subst hsome
              have HBAD := Lib.hid (@argsB_ls P k hlt)
              have HA' : Hid (nmB P.ls[k].n = true → ∀ j (hj : j < P.ls.length), j < k + 1 → nmB P.ls[j].n = true) := by
                intro h j hj hjk
                by_cases e : j = k
                · subst e; exact h
                · exact HA.out j hj (by omega)
              have HZN := Lib.hid (HK.out.ls _ (List.getElem_mem hlt)).1
              have hk1 : (k : Int) < (P.ls.length : Int) := by omega
              clear HA
              generalize P.ls[k].n = qn at *
              have HNM := Lib.hid (fun w => refName_any qn HZN.out w)
              generalize nmB qn = nb at *
              cases nb
              · have HR := Lib.hid (HBAD.out rfl)
                go_wp2_with (go_at_call 39; (with_reducible refine (HNM.out _).mono ?_); rintro e w' ⟨rfl, hq⟩; obtain rfl := hq.symm)
                go_ret
                exact ⟨ret_bool HR.out.symm, hw1⟩
              · have HG := Lib.hid (HA'.out rfl)
                go_wp2_with (go_at_call 39; (with_reducible refine (HNM.out _).mono ?_); rintro e w' ⟨rfl, hq⟩; obtain rfl := hq.symm)
                go_roundw
                case rel => exact ⟨k + 1, by go_num, by omega, by trivial, HG.out⟩
                case measure => simp [intOf]; omega
            · have HY := Lib.hid (HY3.out fun j hj => HA.out j hj (by omega))
              clear HA
              go_wp2
              go_ret
              exact ⟨ret_bool HY.out.symm, hw1⟩
end Go.Proofs.YtaanepadgoefhaaGreatDoor
namespace Go.Proofs.YtaanepadgoefhaaGreatDoor
open Go.ChangeShapes Go.WideShapes Go.ChangeAt Go.RowKit
set_option linter.unusedVariables false
set_option linter.unusedSimpArgs false

theorem flat_len {α : Type} (f : α → List Value) (sz : Nat) (hf : ∀ x, (f x).length = sz) : ∀ (L : List α), (L.flatMap f).length = L.length * sz
  | [] => by simp
  | x :: t => by
    rw [List.flatMap_cons, List.length_append, hf, flat_len f sz hf t, List.length_cons, Nat.succ_mul]; omega
theorem flat_get {α : Type} (f : α → List Value) (sz : Nat) (hf : ∀ x, (f x).length = sz) : ∀ (L : List α) (i j : Nat) (hi : i < L.length), j < sz → (L.flatMap f)[i * sz + j]? = (f L[i])[j]?
  | [], i, j, hi, _ => by simp at hi
  | x :: t, 0, j, hi, hj => by
    rw [List.flatMap_cons, List.getElem?_append_left (by rw [hf]; omega)]; simp
  | x :: t, i + 1, j, hi, hj => by
    rw [List.flatMap_cons, List.getElem?_append_right (by rw [hf, Nat.succ_mul]; omega), hf, show (i + 1) * sz + j - sz = i * sz + j from by rw [Nat.succ_mul]; omega,
      flat_get f sz hf t i j (by simpa using hi) hj]
    rfl
theorem row_of_own {w : World} {B : Nat} {e : TypeId} {sz n : Nat} {v : Value} {xs : List Value} {C : Nat → Nat → Value} (h : w.ownsRow B e sz v n xs) (hl : n ≤ maxLen) (hx : ∀ i j, i < n → j < sz → xs[i * sz + j]? = some (C i j)) : IsRow w v sz n C := by
  obtain ⟨h1, h2⟩ := h
  rcases h2 with ⟨rfl, h0⟩ | ⟨g, cap, cur, rfl, hg, hh, hn, hcap, hsz, htake⟩
  · subst h0; exact ⟨none, 0, rfl, hl, .inl rfl⟩
  · refine ⟨some ⟨g, 0, none⟩, cap, rfl, hl, .inr ⟨g, 0, rfl, ?_, ?_⟩⟩
    · rcases Nat.lt_or_ge g w.heap.size with h | h
      · exact h
      · rw [Array.getElem?_eq_none h] at hh; cases hh
    · intro i j hi hj
      have hx' := hx i j hi hj
      rw [← htake] at hx'
      unfold World.cell?
      simp only [hh]
      rw [List.getElem?_take] at hx'
      split at hx'
      · simpa using hx'
      · cases hx'
def Prt.cs (x : Prt) : List Value := [.int .i64 x.e, .int .i64 x.x]
def Prt.c (x : Prt) (j : Nat) : Value := if j = 0 then .int .i64 x.e else .int .i64 x.x
/-- v is a slice of ports -/
def IsPrts (w : World) (v : Value) (l : List Prt) : Prop := IsRow w v 2 l.length (fun i j => (l.getD i default).c j)
theorem IsPrts.gr {w w' : World} {v : Value} {l : List Prt} (h : IsPrts w v l) (g : Gr w w') : IsPrts w' v l := IsRow.gr h g
theorem IsPrts.at {w : World} {a : Option Addr} {c m : Nat} {l : List Prt} (h : IsPrts w (.slice a m c) l) (i : Nat) (hi : i < l.length) :
    ∃ b o, a = some ⟨b, o, none⟩ ∧ b < w.heap.size ∧ w.cell? ⟨b, o + i * 2, none⟩ = some (.int .i64 l[i].e) ∧ w.cell? ⟨b, o + i * 2 + 1, none⟩ = some (.int .i64 l[i].x) := by
  obtain ⟨b, o, rfl, hb, hc⟩ := IsRow.at h i hi
  simp only [getD_at l i hi] at hc
  exact ⟨b, o, rfl, hb, hc 0 (by omega), hc 1 (by omega)⟩
/-- .. of the call's own -/
def OwnP (B : Nat) (w : World) (v : Value) (L : List Prt) : Prop := w.ownsRow B 68 2 v L.length (L.flatMap Prt.cs)
theorem OwnP.nil (B : Nat) (w : World) : OwnP B w (.slice none 0 0) [] := ⟨rfl, .inl ⟨rfl, rfl⟩⟩
theorem OwnP.prts {B : Nat} {w : World} {v : Value} {L : List Prt} (h : OwnP B w v L) (hl : L.length ≤ maxLen) : IsPrts w v L := by
  refine row_of_own h hl fun i j hi hj => ?_
  rw [flat_get Prt.cs 2 (fun _ => rfl) L i j hi hj, getD_at L i hi]
  match j, hj with
  | 0, _ => rfl
  | 1, _ => rfl
theorem Tryz.infoP : (Tryz.prog.info? 68).map (fun i => (i.zero, i.size, i.bytes)) = some (some (.agg #[.int .i64 0, .int .i64 0]), 2, 16) := by kernel_rfl
theorem OwnP.lt {B : Nat} {w : World} {v : Value} {L : List Prt} (h : OwnP B w v L) : v = .slice none 0 0 ∨ ∃ g cap, v = .slice (some ⟨g, 0, none⟩) L.length cap ∧ B ≤ g := by
  rcases h.2 with ⟨rfl, _⟩ | ⟨g, cap, cur, rfl, hg, _⟩
  · exact .inl rfl
  · exact .inr ⟨g, cap, rfl, hg⟩
/-- a port is loaded -/
theorem prt_load {w : World} {b o : Nat} {e x : Int} (h0 : w.cell? ⟨b, o, none⟩ = some (.int .i64 e)) (h1 : w.cell? ⟨b, o + 1, none⟩ = some (.int .i64 x)) :
    (Instr.loadAt 68 (.pointer (some ⟨b, o, none⟩))).run Tryz.prog w = .ok (.agg #[.int .i64 e, .int .i64 x]) w :=
  run_loadAt_mid w b o 68 [.int .i64 e, .int .i64 x] _ (fun j v h => by
    match j, h with
    | 0, h => cases h; exact h0
    | 1, h => cases h; exact h1) Tryz.underlying68 rfl (by kernel_rfl)
theorem refNext_some {P : Pln} {x y : Prt} (h : nextL P.js x = some y) (v : Value) (w : World) (hP : IsPln w v P) :
    Calls Tryz.prog 44 #[v, .agg #[.int .i64 x.e, .int .i64 x.x]] w fun e w' => e = .returned (.tuple #[.agg #[.int .i64 y.e, .int .i64 y.x], .bool true]) ∧ Gr w w' := by
  have := refNextP_any v P x w hP
  rw [h] at this
  exact this
theorem refNext_none {P : Pln} {x : Prt} (h : nextL P.js x = none) (v : Value) (w : World) (hP : IsPln w v P) :
    Calls Tryz.prog 44 #[v, .agg #[.int .i64 x.e, .int .i64 x.x]] w fun e w' => e = .returned (.tuple #[.agg #[.int .i64 0, .int .i64 0], .bool false]) ∧ Gr w w' := by
  have := refNextP_any v P x w hP
  rw [h] at this
  exact this
end Go.Proofs.YtaanepadgoefhaaGreatDoor
