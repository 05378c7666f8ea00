/- Pln2: The plan's readers of the document's answer that loop: Next, Reads.
Pln3: Reads of the document's answer.
NamP: Names: plain. No program.
PacP: Pace: the plain functions of speeds. No program.
ChkP: What Check of a plan answers: plain. No walk.
ChkQ: Joins as a map: plain. No walk.
Own: What the walks carry of a slice of strings that they make.
Row: Slices of structs that a walk makes; ports. -/
import Derived.Test.YtknmngejjoohdaaGreatDoorRows
import Derived.Test.YtknmngejjoohdaaGreatDoorB1
import Derived.Deep.MidRow
import Derived.Laws.AppendOwn
import Derived.Laws.OwnMore
import Derived.OwnWalk
namespace Go.Proofs.YtknmngejjoohdaaGreatDoor
open Go.ChangeShapes Go.WideShapes Go.ChangeAt Go.RowKit
set_option linter.unusedVariables false
set_option linter.unusedSimpArgs false

def nextL : List Jn → Prt → Option Prt
  | [], _ => none
  | j :: t, x => if j.a = x then some j.b else if j.b = x then some j.a else nextL t x
def readsL : List Sg → Prt → Option Nat
  | [], _ => none
  | s :: t, x => if s.at_ = x then some 0 else (readsL t x).map (· + 1)
theorem nextL_drop (l : List Jn) (k : Nat) (hk : k < l.length) (x : Prt) : nextL (l.drop k) x = if l[k].a = x then some l[k].b else if l[k].b = x then some l[k].a else nextL (l.drop (k + 1)) x := by
  rw [List.drop_eq_getElem_cons hk]; rfl
theorem prt_eqg : Tryz.prog.eqGuardType Tryz.prog.depth 67 = false := by kernel_rfl
theorem prt_stood : Tryz.prog.stoodInHeld 67 = false := by kernel_rfl
theorem prt_fields : Tryz.prog.underlying 67 = some (.struct (Tryz.prog.fieldsOf 67)) := by kernel_rfl
set_option maxRecDepth 100000 in
theorem prt_eql (a b c d : Int) (w : World) : (binOp .eql 67 (.agg #[.int .i64 a, .int .i64 b]) (.agg #[.int .i64 c, .int .i64 d])).run Tryz.prog w = .ok (.bool (decide ((⟨a, b⟩ : Prt) = ⟨c, d⟩))) w := by
  have hu := Tryz.underlying67
  have hf := prt_fields
  rw [hu] at hf
  simp only [Option.some.injEq, TypeDesc.struct.injEq] at hf
  rw [run_eql_struct, run_equalIn_agg w 9999 _ _ _ prt_fields prt_stood, ← hf]
  have hd : decide ((⟨a, b⟩ : Prt) = ⟨c, d⟩) = ((a == c) && (b == d)) := by
    rw [Bool.eq_iff_iff]; simp
  rw [hd]
  simp [Op.eqFields, go_sem, Tryz.underlying3]
  by_cases h1 : a = c <;> by_cases h2 : b = d <;> simp [h1, h2]
theorem prt_guard (op : BinOp) (x y : Operand) (xs ys : Array Value) (w : World) : (eqGuard op 67 x y (.agg xs) (.agg ys)).run Tryz.prog w = .ok () w := run_eqGuard_agg w op _ x y xs ys prt_eqg
def prtR (o : Option Prt) : Value := .tuple #[(o.getD default).v, .bool o.isSome]
set_option maxRecDepth 100000 in
theorem refNextP_any (v : Value) (P : Pln) (x : Prt) (w : World) (hP : IsPln w v P) :
    Calls Tryz.prog 147 #[v, x.v] w fun e w' => e = .returned (prtR (nextL P.js x)) ∧ Gr w w' := by
  obtain ⟨a1, c1, a2, c2, a3, c3, a4, c4, rfl, -, h2, -, -⟩ := hP
  obtain ⟨xe, xx⟩ := x
  unfold plnV Prt.v
  have hm := IsRow.len h2
  unfold maxLen at hm
  have HV := Lib.hid h2
  clear h2
  go_enter Tryz.func147, Tryz.ntmps147
  go_wp2_with fail
  go_loopw [6] (fun i wr => ∃ k : Nat, i = .int .i64 k ∧ k ≤ P.js.length ∧ Hid (nextL (P.js.drop k) ⟨xe, xx⟩ = nextL P.js ⟨xe, xx⟩) ∧ Gr w wr ∧ wr.cell? ⟨w.heap.size, 1, none⟩ = some (.slice a2 P.js.length c2) ∧
      wr.cell? ⟨w.heap.size + 1, 0, none⟩ = some (.int .i64 xe) ∧ wr.cell? ⟨w.heap.size + 1, 1, none⟩ = some (.int .i64 xx) ∧ wr.cell? ⟨w.heap.size + 1 + 1, 0, none⟩ = some (.int .i64 0) ∧ wr.cell? ⟨w.heap.size + 1 + 1, 1, none⟩ = some (.int .i64 0) ∧
      wr.frozen? ⟨w.heap.size + 1 + 1, 0, none⟩ = false ∧ wr.frozen? ⟨w.heap.size + 1 + 1, 1, none⟩ = false ∧ w.heap.size + 1 + 1 < wr.heap.size) (fun i _ => P.js.length - (intOf i).toNat)
  case atStart => refine ⟨0, rfl, Nat.zero_le _, rfl, (((Gr.refl _).alloc _).alloc _).alloc _, ?_, ?_, ?_, ?_, ?_, ?_, ?_, ?_⟩ <;> go_simp
  case round =>
    obtain ⟨k, rfl, hk, HN, g, p1, x0, x1, r0, r1, f0, f1, hsz⟩ := hrel
    have LX : (Instr.loadAt 67 (.pointer (some ⟨w.heap.size + 1, 0, none⟩))).run Tryz.prog wr = .ok (.agg #[.int .i64 xe, .int .i64 xx]) wr :=
      run_loadAt_mid wr (w.heap.size + 1) 0 67 [.int .i64 xe, .int .i64 xx] _ (fun j v h => by
        match j, h with
        | 0, h => cases h; exact x0
        | 1, h => cases h; exact x1) Tryz.underlying67 rfl (by kernel_rfl)
    by_cases hlt : k < P.js.length
    · obtain ⟨b, o, rfl, zb, y0, y1, y2, y3⟩ := (HV.out.gr g).at k hlt
      have HD := nextL_drop P.js k hlt ⟨xe, xx⟩
      rw [HN.out] at HD
      generalize P.js[k] = q at *
      obtain ⟨⟨ae, ax⟩, ⟨be, bx⟩⟩ := q
      have HD' := Lib.hid HD
      clear HD HN
      have LA : (Instr.loadAt 67 (.pointer (some ⟨b, o + k * 4, none⟩))).run Tryz.prog wr = .ok (.agg #[.int .i64 ae, .int .i64 ax]) wr :=
        run_loadAt_mid wr b (o + k * 4) 67 [.int .i64 ae, .int .i64 ax] _ (fun j v h => by
          match j, h with
          | 0, h => cases h; exact y0
          | 1, h => cases h; exact y1) Tryz.underlying67 rfl (by kernel_rfl)
      have LB : (Instr.loadAt 67 (.pointer (some ⟨b, o + k * 4 + 2, none⟩))).run Tryz.prog wr = .ok (.agg #[.int .i64 be, .int .i64 bx]) wr :=
        run_loadAt_mid wr b (o + k * 4 + 2) 67 [.int .i64 be, .int .i64 bx] _ (fun j v h => by
          match j, h with
          | 0, h => cases h; exact y2
          | 1, h => cases h; exact y3) Tryz.underlying67 rfl (by kernel_rfl)
      have G1 := prt_guard .eql
      have k1 : (k : Int) < (P.js.length : Int) := by omega
      by_cases hA : (⟨ae, ax⟩ : Prt) = ⟨xe, xx⟩
      · have E1 : ∀ w, (binOp .eql 67 (.agg #[.int .i64 ae, .int .i64 ax]) (.agg #[.int .i64 xe, .int .i64 xx])).run Tryz.prog w = .ok (.bool true) w := fun w => by rw [prt_eql, decide_eq_true hA]
        have HR : Hid (nextL P.js ⟨xe, xx⟩ = some ⟨be, bx⟩) := by unfold Hid; rw [HD'.out, if_pos hA]
        clear hA HD'
        go_wp2_with fail
        go_quiet (fail)
        go_wp2
        refine bodyPost_ret (v := .tuple #[.agg #[.int .i64 be, .int .i64 bx], .bool true]) (by simp [results, Tryz.results147, go_sem, r0, r1, hsz, f0, f1]) rfl ⟨by rw [HR.out]; rfl, by
          have hb : w.heap.size ≤ w.heap.size + 1 + 1 := by omega
          first
            | exact (g.setCell hb _).setCell hb _
            | exact ((g.drewN _).setCell hb _).setCell hb _
            | exact (((g.drewN _).drewN _).setCell hb _).setCell hb _⟩
      · have E1 : ∀ w, (binOp .eql 67 (.agg #[.int .i64 ae, .int .i64 ax]) (.agg #[.int .i64 xe, .int .i64 xx])).run Tryz.prog w = .ok (.bool false) w := fun w => by rw [prt_eql, decide_eq_false hA]
        have HD2 := Lib.hid (HD'.out.trans (if_neg hA))
        clear hA HD'
        by_cases hB : (⟨be, bx⟩ : Prt) = ⟨xe, xx⟩
        · have E2 : ∀ w, (binOp .eql 67 (.agg #[.int .i64 be, .int .i64 bx]) (.agg #[.int .i64 xe, .int .i64 xx])).run Tryz.prog w = .ok (.bool true) w := fun w => by rw [prt_eql, decide_eq_true hB]
          have HR : Hid (nextL P.js ⟨xe, xx⟩ = some ⟨ae, ax⟩) := by unfold Hid; rw [HD2.out, if_pos hB]
          clear hB HD2
          go_wp2_with fail
          go_quiet (fail)
          go_wp2_with fail
          go_quiet (fail)
          go_wp2
          refine bodyPost_ret (v := .tuple #[.agg #[.int .i64 ae, .int .i64 ax], .bool true]) (by simp [results, Tryz.results147, go_sem, r0, r1, hsz, f0, f1]) rfl ⟨by rw [HR.out]; rfl, by
            have hb : w.heap.size ≤ w.heap.size + 1 + 1 := by omega
            first
              | exact (g.setCell hb _).setCell hb _
              | exact ((g.drewN _).setCell hb _).setCell hb _
              | exact (((g.drewN _).drewN _).setCell hb _).setCell hb _⟩
        · have E2 : ∀ w, (binOp .eql 67 (.agg #[.int .i64 be, .int .i64 bx]) (.agg #[.int .i64 xe, .int .i64 xx])).run Tryz.prog w = .ok (.bool false) w := fun w => by rw [prt_eql, decide_eq_false hB]
          have HR := Lib.hid (HD2.out.trans (if_neg hB)).symm
          clear hB HD2
          go_wp2_with fail
          go_quiet (fail)
          go_wp2_with fail
          go_quiet (fail)
          go_wp2
          go_roundw
          case rel => exact ⟨k + 1, by go_num, by omega, HR.out, by first | exact (g.drewN _).drewN _ | exact g.drewN _, by simpa using p1, by simpa using x0, by simpa using x1, by simpa using r0, by simpa using r1, by simpa using f0, by simpa using f1, by simpa using hsz⟩
          case measure => simp [intOf]; omega
    · have HR : Hid (nextL P.js ⟨xe, xx⟩ = none) := by
        have := HN.out
        rw [List.drop_of_length_le (by omega)] at this
        exact this.symm
      clear HN
      go_wp2
      refine bodyPost_ret (v := .tuple #[.agg #[.int .i64 0, .int .i64 0], .bool false]) (by simp [results, Tryz.results147, go_sem, r0, r1, hsz, f0, f1]) rfl ⟨by rw [HR.out]; rfl, by
        have hb : w.heap.size ≤ w.heap.size + 1 + 1 := by omega
        first
          | exact (g.setCell hb _).setCell hb _
          | exact ((g.drewN _).setCell hb _).setCell hb _
          | exact (((g.drewN _).drewN _).setCell hb _).setCell hb _⟩
end Go.Proofs.YtknmngejjoohdaaGreatDoor
namespace Go.Proofs.YtknmngejjoohdaaGreatDoor
open Go.ChangeShapes Go.WideShapes Go.ChangeAt Go.RowKit
set_option linter.unusedVariables false
set_option linter.unusedSimpArgs false

theorem readsL_go (l : List Sg) (x : Prt) (k : Nat) (hk : k < l.length) (h : l[k].at_ = x) (hn : ∀ i (hi : i < l.length), i < k → l[i].at_ ≠ x) : readsL l x = some k := by
  induction l generalizing k with
  | nil => simp at hk
  | cons s t ih =>
    unfold readsL
    cases k with
    | zero => rw [if_pos (by simpa using h)]
    | succ k =>
      have h0 : s.at_ ≠ x := hn 0 (by simp) (by omega)
      rw [if_neg h0, ih k (by simpa using hk) (by simpa using h) fun i hi hik => hn (i + 1) (by simpa using hi) (by omega)]
      rfl
theorem readsL_no (l : List Sg) (x : Prt) (hn : ∀ i (hi : i < l.length), l[i].at_ ≠ x) : readsL l x = none := by
  induction l with
  | nil => rfl
  | cons s t ih =>
    have h0 : s.at_ ≠ x := hn 0 (by simp)
    unfold readsL
    rw [if_neg h0, ih fun i hi => hn (i + 1) (by simpa using hi)]
    rfl
def readsN (l : List Sg) (x : Prt) : Int := match readsL l x with | some k => k | none => -1
set_option maxRecDepth 100000 in
theorem refReads_any (v : Value) (P : Pln) (x : Prt) (w : World) (hP : IsPln w v P) :
    Calls Tryz.prog 149 #[v, x.v] w fun e w' => e = .returned (.int .i64 (readsN P.ss x)) ∧ Gr w w' := by
  obtain ⟨a1, c1, a2, c2, a3, c3, a4, c4, rfl, -, -, h3, -⟩ := hP
  obtain ⟨xe, xx⟩ := x
  unfold plnV Prt.v
  have hm := IsRow.len h3
  unfold maxLen at hm
  have HV := Lib.hid h3
  clear h3
  go_enter Tryz.func149, Tryz.ntmps149
  go_wp2_with fail
  go_loopw [5] (fun i wr => ∃ k : Nat, i = .int .i64 k ∧ k ≤ P.ss.length ∧ Hid (∀ i (hi : i < P.ss.length), i < k → P.ss[i].at_ ≠ ⟨xe, xx⟩) ∧ Gr w wr ∧ wr.cell? ⟨w.heap.size, 2, none⟩ = some (.slice a3 P.ss.length c3) ∧
      wr.cell? ⟨w.heap.size + 1, 0, none⟩ = some (.int .i64 xe) ∧ wr.cell? ⟨w.heap.size + 1, 1, none⟩ = some (.int .i64 xx)) (fun i _ => P.ss.length - (intOf i).toNat)
  case atStart => refine ⟨0, rfl, Nat.zero_le _, fun _ _ h => by omega, ((Gr.refl _).alloc _).alloc _, ?_, ?_, ?_⟩ <;> go_simp
  case round =>
    obtain ⟨k, rfl, hk, HN, g, p1, x0, x1⟩ := hrel
    have LX : (Instr.loadAt 67 (.pointer (some ⟨w.heap.size + 1, 0, none⟩))).run Tryz.prog wr = .ok (.agg #[.int .i64 xe, .int .i64 xx]) wr :=
      run_loadAt_mid wr (w.heap.size + 1) 0 67 [.int .i64 xe, .int .i64 xx] _ (fun j v h => by
        match j, h with
        | 0, h => cases h; exact x0
        | 1, h => cases h; exact x1) Tryz.underlying67 rfl (by kernel_rfl)
    by_cases hlt : k < P.ss.length
    · obtain ⟨b, o, rfl, zb, -, y1, y2, -⟩ := (HV.out.gr g).at k hlt
      have HN2 : Hid (P.ss[k].at_ ≠ ⟨xe, xx⟩ → ∀ i (hi : i < P.ss.length), i < k + 1 → P.ss[i].at_ ≠ ⟨xe, xx⟩) := by
        intro h i hi hik
        by_cases e : i = k
        · subst e; exact h
        · exact HN.out i hi (by omega)
      have HN3 : Hid (P.ss[k].at_ = ⟨xe, xx⟩ → readsN P.ss ⟨xe, xx⟩ = k) := fun h => by unfold readsN; rw [readsL_go P.ss _ k hlt h HN.out]
      generalize P.ss[k].at_ = q at *
      obtain ⟨ae, ax⟩ := q
      clear HN
      have LA : (Instr.loadAt 67 (.pointer (some ⟨b, o + k * 4 + 1, none⟩))).run Tryz.prog wr = .ok (.agg #[.int .i64 ae, .int .i64 ax]) wr :=
        run_loadAt_mid wr b (o + k * 4 + 1) 67 [.int .i64 ae, .int .i64 ax] _ (fun j v h => by
          match j, h with
          | 0, h => cases h; exact y1
          | 1, h => cases h; exact y2) Tryz.underlying67 rfl (by kernel_rfl)
      have G1 := prt_guard .eql
      have k1 : (k : Int) < (P.ss.length : Int) := by omega
      by_cases hA : (⟨ae, ax⟩ : Prt) = ⟨xe, xx⟩
      · have E1 : ∀ w, (binOp .eql 67 (.agg #[.int .i64 ae, .int .i64 ax]) (.agg #[.int .i64 xe, .int .i64 xx])).run Tryz.prog w = .ok (.bool true) w := fun w => by rw [prt_eql, decide_eq_true hA]
        have HR := Lib.hid (HN3.out hA)
        clear hA HN2 HN3
        go_wp2_with fail
        go_quiet (fail)
        go_wp2
        go_ret
        exact ⟨ret_int HR.out.symm, by first | exact g.drewN _ | exact g⟩
      · have E1 : ∀ w, (binOp .eql 67 (.agg #[.int .i64 ae, .int .i64 ax]) (.agg #[.int .i64 xe, .int .i64 xx])).run Tryz.prog w = .ok (.bool false) w := fun w => by rw [prt_eql, decide_eq_false hA]
        have HR := Lib.hid (HN2.out hA)
        clear hA HN2 HN3
        go_wp2_with fail
        go_quiet (fail)
        go_wp2
        go_roundw
        case rel => exact ⟨k + 1, by go_num, by omega, HR.out, by first | exact g.drewN _ | exact g, by simpa using p1, by simpa using x0, by simpa using x1⟩
        case measure => simp [intOf]; omega
    · have HR : Hid (readsN P.ss ⟨xe, xx⟩ = -1) := by
        unfold Hid readsN
        rw [readsL_no P.ss _ fun i hi => HN.out i hi (by omega)]
      clear HN
      go_wp2
      go_ret
      exact ⟨ret_int HR.out.symm, g⟩
end Go.Proofs.YtknmngejjoohdaaGreatDoor
namespace Go.Proofs.YtknmngejjoohdaaGreatDoor
open Go.ChangeShapes Go.WideShapes Go.ChangeAt Go.RowKit
set_option linter.unusedVariables false
set_option linter.unusedSimpArgs false

def letB (c : Int) : Bool := (decide (97 ≤ c) && decide (c ≤ 122)) || (decide (65 ≤ c) && decide (c ≤ 90))
def digB (c : Int) : Bool := decide (48 ≤ c) && decide (c ≤ 57)
def okc (i : Nat) (c : Int) : Bool := letB c || (decide (i ≠ 0) && digB c)
def nmB (s : ByteArray) : Bool := decide (1 ≤ s.size) && decide (s.size ≤ 8) && (List.range s.size).all fun i => okc i (bt s i)
theorem nmB_bad (s : ByteArray) (k : Nat) (hk : k < s.size) (h : okc k (bt s k) = false) : nmB s = false := by
  cases hq : nmB s with
  | false => rfl
  | true =>
    unfold nmB at hq
    rw [Bool.and_eq_true, List.all_eq_true] at hq
    rw [hq.2 k (List.mem_range.2 hk)] at h
    cases h
theorem nmB_good (s : ByteArray) (h : ∀ i, i < s.size → okc i (bt s i) = true) : nmB s = (decide (1 ≤ s.size) && decide (s.size ≤ 8)) := by
  unfold nmB
  have : ((List.range s.size).all fun i => okc i (bt s i)) = true := by
    rw [List.all_eq_true]; intro i hi; exact h i (List.mem_range.1 hi)
  rw [this, Bool.and_true]
theorem okc_mk (i : Nat) (c : Int) (h : (97 ≤ c ∧ c ≤ 122) ∨ (65 ≤ c ∧ c ≤ 90) ∨ (i ≠ 0 ∧ 48 ≤ c ∧ c ≤ 57)) : okc i c = true := by
  unfold okc letB digB; simp; omega
theorem okc_iff (i : Nat) (c : Int) : okc i c = true ↔ (97 ≤ c ∧ c ≤ 122) ∨ (65 ≤ c ∧ c ≤ 90) ∨ (i ≠ 0 ∧ 48 ≤ c ∧ c ≤ 57) := by
  unfold okc letB digB; simp; omega
end Go.Proofs.YtknmngejjoohdaaGreatDoor
namespace Go.Proofs.YtknmngejjoohdaaGreatDoor
open Go.ChangeShapes Go.WideShapes Go.ChangeAt Go.RowKit
set_option linter.unusedVariables false
set_option linter.unusedSimpArgs false

def hld (n lo hi : Int) : Int := max lo (min n hi)
def wnt (a b want : Int) (f : Bool) : Int := if f then -b else hld want (-b) a
def nxt (t a b v want : Int) (f : Bool) : Int := hld (hld v 0 t + wnt a b want f) 0 t
def tailS (b : Int) : Nat → Int → Int
  | 0, _ => 0
  | k + 1, V => if 0 < V then V + tailS b k (V - b) else 0
def stp (b v : Int) : Int := tailS b 60 (v - b)
theorem tailS_bd (b : Int) (hb : 1 ≤ b) : ∀ (k : Nat) (V : Int), V ≤ 60 → 0 ≤ tailS b k V ∧ tailS b k V ≤ 60 * k
  | 0, V, h => by simp [tailS]
  | k + 1, V, h => by
    unfold tailS
    split
    · have := tailS_bd b hb k (V - b) (by omega)
      omega
    · omega
theorem stp_bd (b v : Int) (hb : 1 ≤ b) (hv : v ≤ 60) : 0 ≤ stp b v ∧ stp b v ≤ 3600 := by
  have := tailS_bd b hb 60 (v - b) (by omega)
  unfold stp; omega
theorem tailS_pos (b : Int) (k : Nat) (V : Int) (h : 0 < V) (hk : V ≤ k) : ∃ j : Nat, k = j + 1 ∧ tailS b k V = V + tailS b j (V - b) := by
  match k, hk with
  | 0, hk => omega
  | j + 1, _ => exact ⟨j, rfl, by simp [tailS, h]⟩
theorem tailS_no (b : Int) (k : Nat) (V : Int) (h : ¬ 0 < V) : tailS b k V = 0 := by
  match k with
  | 0 => rfl
  | j + 1 => simp [tailS, h]
def acc (t a b v : Int) : Int := nxt t a b v a false
end Go.Proofs.YtknmngejjoohdaaGreatDoor
namespace Go.Proofs.YtknmngejjoohdaaGreatDoor
open Go.ChangeShapes Go.WideShapes Go.ChangeAt Go.RowKit
set_option linter.unusedVariables false
set_option linter.unusedSimpArgs false

def inB (n lo hi : Int) : Bool := decide (lo ≤ n) && decide (n ≤ hi)
def eleB (e : Ele) : Bool := nmB e.n && !decide (endsK e.k = 0) && (if e.k = 4 then decide (e.l = 0) else inB e.l 1 4000)
def argsB (P : Pln) : Bool :=
  inB P.top 1 60 && inB P.brake 1 10 && inB P.margin 1 4000 && inB P.throw 1 20 && !decide (P.es.length = 0) && P.es.all eleB && P.ss.all (fun s => nmB s.n) && P.ls.all (fun l => nmB l.n)
def twiceB (l : List ByteArray) : Bool := !decide l.Nodup
def portsP (P : Pln) : List Prt := P.js.flatMap fun j => [j.a, j.b]
def offGate (P : Pln) (x : Prt) : Bool := match nextL P.js x with | some y => !decide (kindP P y.e = 4) | none => false
def joinedB (P : Pln) : Bool :=
  (portsP P).all (hasP P) && decide (portsP P).Nodup && (List.range P.es.length).all fun i => !decide (kindP P i = 4) || offGate P ⟨i, 0⟩
def sigB (P : Pln) (i : Nat) : Bool :=
  let x := (P.ss.getD i default).at_
  hasP P x && (decide (kindP P x.e = 1) || decide (kindP P x.e = 4)) && offGate P x && decide (readsL P.ss x = some i)
def signalsB (P : Pln) : Bool :=
  (List.range P.ss.length).all (sigB P) && (List.range P.es.length).all fun i => !decide (kindP P i = 4) || (readsL P.ss ⟨i, 0⟩).isSome
def chainB (P : Pln) : List Int → Int → Bool
  | [], _ => true
  | [_], _ => true
  | a :: b :: t, out => match nextL P.js ⟨a, out⟩ with | some y => decide (y.e = b) && chainB P (b :: t) (1 - y.x) | none => false
def outOf (P : Pln) (a b : Int) : Int :=
  let j := fun e : Int => match nextL P.js ⟨a, e⟩ with | some y => decide (y.e = b) | none => false
  if j 0 then 0 else if j 1 then 1 else -1
def rowB (P : Pln) : List Int → Bool
  | a :: b :: t => !decide (outOf P a b < 0) && chainB P (a :: b :: t) (outOf P a b)
  | _ => true
def linesB (P : Pln) : Bool :=
  decide (P.ls.flatMap (·.es)).Nodup && P.ls.all fun l => !decide (l.es.length = 0) && l.es.all (fun e => decide (kindP P e = 1)) && rowB P l.es
def longB (P : Pln) : Bool :=
  decide (P.top + stp P.brake P.top ≤ P.margin) && P.ss.all (fun s => !decide (kindP P s.at_.e = 1) || decide (P.margin ≤ lenP P s.at_.e)) && P.es.all fun e => decide (e.k = 4) || decide (P.top ≤ e.l)
def chk (P : Pln) : Int :=
  if 40 < P.es.length ∨ 24 < P.ss.length ∨ 4 < P.ls.length ∨ 80 < P.js.length then 3
  else if argsB P = false then 1
  else if twiceB (P.es.map (·.n)) || twiceB (P.ss.map (·.n)) || twiceB (P.ls.map (·.n)) then 4
  else if joinedB P = false then 6 else if signalsB P = false then 7 else if linesB P = false then 8 else if longB P = false then 9 else 0
end Go.Proofs.YtknmngejjoohdaaGreatDoor
namespace Go.Proofs.YtknmngejjoohdaaGreatDoor
open Go.ChangeShapes Go.WideShapes Go.ChangeAt Go.RowKit
set_option linter.unusedVariables false
set_option linter.unusedSimpArgs false

def I64 (x : Int) : Prop := (Lit.int .i64 x).wf = true
structure PlnOk (P : Pln) : Prop where
  es : ∀ e ∈ P.es, I64 e.k ∧ I64 e.l ∧ e.n.size ≤ maxLen
  js : ∀ j ∈ P.js, I64 j.a.e ∧ I64 j.a.x ∧ I64 j.b.e ∧ I64 j.b.x
  ss : ∀ s ∈ P.ss, I64 s.at_.e ∧ I64 s.at_.x ∧ s.n.size ≤ maxLen
  ls : ∀ l ∈ P.ls, l.n.size ≤ maxLen ∧ ∀ e ∈ l.es, I64 e
  nums : I64 P.top ∧ I64 P.brake ∧ I64 P.margin ∧ I64 P.throw
def portsL (l : List Jn) : List Prt := l.flatMap fun j => [j.a, j.b]
theorem portsP_eq (P : Pln) : portsP P = portsL P.js := rfl
theorem portsL_cons (j : Jn) (t : List Jn) : portsL (j :: t) = j.a :: j.b :: portsL t := rfl
theorem portsL_snoc (l : List Jn) (j : Jn) : portsL (l ++ [j]) = portsL l ++ [j.a, j.b] := by simp [portsL]
theorem portsL_append (l m : List Jn) : portsL (l ++ m) = portsL l ++ portsL m := by simp [portsL]
theorem nextL_none : ∀ (l : List Jn) (x : Prt), x ∉ portsL l → nextL l x = none
  | [], _, _ => rfl
  | j :: t, x, h => by
    rw [portsL_cons] at h
    simp only [List.mem_cons, not_or] at h
    unfold nextL
    rw [if_neg (fun e => h.1 e.symm), if_neg (fun e => h.2.1 e.symm)]
    exact nextL_none t x h.2.2
theorem nextL_isSome : ∀ (l : List Jn) (x : Prt), (nextL l x).isSome = decide (x ∈ portsL l)
  | [], _ => rfl
  | j :: t, x => by
    rw [portsL_cons]
    unfold nextL
    split
    · rename_i h; simp [h]
    · rename_i h
      split
      · rename_i h2; simp [h2]
      · rename_i h2
        rw [nextL_isSome t x]
        have h' : ¬ x = j.a := fun e => h e.symm
        have h2' : ¬ x = j.b := fun e => h2 e.symm
        simp [h', h2']
theorem nextL_snoc : ∀ (l : List Jn) (j : Jn) (x : Prt), nextL (l ++ [j]) x = (nextL l x).or (if j.a = x then some j.b else if j.b = x then some j.a else none)
  | [], j, x => by simp [nextL]
  | i :: t, j, x => by
    rw [List.cons_append]
    unfold nextL
    split
    · rfl
    · split
      · rfl
      · exact nextL_snoc t j x
theorem take_snoc' {α : Type} (l : List α) (k : Nat) (h : k < l.length) : l.take (k + 1) = l.take k ++ [l[k]] := by
  rw [List.take_succ_eq_append_getElem h]
def okL (P : Pln) (l : List Jn) : Prop := (portsL l).Nodup ∧ ∀ x ∈ portsL l, hasP P x = true
theorem okL_nil (P : Pln) : okL P [] := ⟨List.nodup_nil, fun x h => by cases h⟩
theorem okL_snoc {P : Pln} {l : List Jn} {j : Jn} (h : okL P l) (ha : j.a ∉ portsL l) (hb : j.b ∉ portsL l) (hab : j.a ≠ j.b) (pa : hasP P j.a = true) (pb : hasP P j.b = true) : okL P (l ++ [j]) := by
  obtain ⟨h1, h2⟩ := h
  refine ⟨?_, ?_⟩
  · rw [portsL_snoc, List.nodup_append]
    refine ⟨h1, by simp [hab], ?_⟩
    intro a ha' b hb' e
    subst e
    simp only [List.mem_cons, List.not_mem_nil, or_false] at hb'
    rcases hb' with rfl | rfl
    · exact ha ha'
    · exact hb ha'
  · intro x hx
    rw [portsL_snoc, List.mem_append] at hx
    rcases hx with hx | hx
    · exact h2 x hx
    · simp only [List.mem_cons, List.not_mem_nil, or_false] at hx
      rcases hx with rfl | rfl
      · exact pa
      · exact pb
theorem okL_of_take {P : Pln} (k : Nat) (hk : k < P.js.length) (h : okL P P.js) : P.js[k].a ∉ portsL (P.js.take k) ∧ P.js[k].b ∉ portsL (P.js.take k) ∧ P.js[k].a ≠ P.js[k].b ∧ hasP P P.js[k].a = true ∧ hasP P P.js[k].b = true := by
  obtain ⟨h1, h2⟩ := h
  have hs : P.js = P.js.take (k + 1) ++ P.js.drop (k + 1) := (List.take_append_drop _ _).symm
  rw [take_snoc' _ _ hk] at hs
  have hn : (portsL (P.js.take k ++ [P.js[k]])).Nodup := by
    rw [hs, portsL_append] at h1
    exact (List.nodup_append.1 h1).1
  have hm : ∀ x ∈ portsL (P.js.take k ++ [P.js[k]]), hasP P x = true := fun x hx => h2 x (by rw [hs, portsL_append]; exact List.mem_append.2 (.inl hx))
  rw [portsL_snoc] at hn hm
  rw [List.nodup_append] at hn
  obtain ⟨_, n2, n3⟩ := hn
  refine ⟨fun h => n3 _ h _ (by simp) rfl, fun h => n3 _ h _ (by simp) rfl, ?_, hm _ (by simp), hm _ (by simp)⟩
  intro e
  rw [e] at n2
  simp at n2
def gatesB (P : Pln) : Bool := (List.range P.es.length).all fun i => !decide (kindP P i = 4) || offGate P ⟨i, 0⟩
theorem joinedB_no {P : Pln} (h : ¬ okL P P.js) : joinedB P = false := by
  unfold joinedB
  rw [portsP_eq]
  by_cases h1 : (portsL P.js).Nodup
  · have h2 : (portsL P.js).all (hasP P) = false := by
      rw [Bool.eq_false_iff]
      intro ha
      rw [List.all_eq_true] at ha
      exact h ⟨h1, ha⟩
    rw [h2]; simp
  · simp [h1]
theorem joinedB_yes {P : Pln} (h : okL P P.js) : joinedB P = gatesB P := by
  unfold joinedB gatesB
  rw [portsP_eq]
  have h2 : (portsL P.js).all (hasP P) = true := by rw [List.all_eq_true]; exact h.2
  simp [h.1, h2]
theorem okL_round {P : Pln} (k : Nat) (hk : k < P.js.length) (h : okL P (P.js.take k)) :
    (P.js[k].a ∉ portsL (P.js.take k) ∧ P.js[k].b ∉ portsL (P.js.take k) ∧ P.js[k].a ≠ P.js[k].b ∧ hasP P P.js[k].a = true ∧ hasP P P.js[k].b = true → okL P (P.js.take (k + 1))) ∧
    (¬ (P.js[k].a ∉ portsL (P.js.take k) ∧ P.js[k].b ∉ portsL (P.js.take k) ∧ P.js[k].a ≠ P.js[k].b ∧ hasP P P.js[k].a = true ∧ hasP P P.js[k].b = true) → joinedB P = false) := by
  refine ⟨fun ⟨a, b, c, d, e⟩ => ?_, fun hn => joinedB_no fun hk' => hn (okL_of_take k hk hk')⟩
  rw [take_snoc' _ _ hk]
  exact okL_snoc h a b c d e
def FnL (l : List Jn) (f : Value → Option Value) : Prop := ∀ x : Prt, f x.v = (nextL l x).map Prt.v
theorem FnL.nil : FnL [] (fun _ => none) := fun _ => rfl
theorem prtv_inj {x y : Prt} (h : x.v = y.v) : x = y := by
  obtain ⟨a, b⟩ := x
  obtain ⟨c, d⟩ := y
  unfold Prt.v at h
  simp only [Value.agg.injEq, Array.mk.injEq, List.cons.injEq, Value.int.injEq, true_and, and_true] at h
  rw [h.1, h.2]
end Go.Proofs.YtknmngejjoohdaaGreatDoor
namespace Go.Proofs.YtknmngejjoohdaaGreatDoor
open Go.ChangeShapes Go.WideShapes Go.ChangeAt Go.RowKit
set_option linter.unusedVariables false
set_option linter.unusedSimpArgs false

def OwnS (B : Nat) (w : World) (v : Value) (L : List ByteArray) : Prop := w.ownsRow B 9 1 v L.length (L.map Value.string)
theorem OwnS.nil (B : Nat) (w : World) : OwnS B w (.slice none 0 0) [] := ⟨rfl, .inl ⟨rfl, rfl⟩⟩
theorem OwnS.snoc {B : Nat} {w : World} {v : Value} {L : List ByteArray} {x : ByteArray} (h : w.ownsRow B 9 1 v (L.length + 1) (L.map Value.string ++ [.string x])) : OwnS B w v (L ++ [x]) := by
  unfold OwnS
  simpa using h
theorem own_base {w : World} {B : Nat} {e : TypeId} {sz n : Nat} {v : Value} {xs : List Value} (h : w.ownsRow B e sz v n xs) : ∀ k, v.ownBlock = some k → B ≤ k := by
  intro k hk
  rcases h.2 with ⟨rfl, _⟩ | ⟨g, cap, cur, rfl, hg, _⟩
  · cases hk
  · simp [Value.ownBlock] at hk
    omega
theorem Gr.grown {a w w' : World} {v : Value} {e : TypeId} {sz n : Nat} {xs : List Value} {W : World} (h : Gr a w) (hg : w.grownBy w' v.ownBlock) (ho : W.ownsRow a.heap.size e sz v n xs) : Gr a w' :=
  Below.grown h hg h.size (own_base ho)
theorem OwnS.vals {B : Nat} {w : World} {v : Value} {L : List ByteArray} (h : OwnS B w v L) (hl : L.length ≤ maxLen) : IsVals w v (L.map Value.string) := by
  obtain ⟨h1, h2⟩ := h
  rcases h2 with ⟨rfl, h0⟩ | ⟨g, cap, cur, rfl, hg, hh, hn, hcap, hsz, htake⟩
  · have : L = [] := List.length_eq_zero_iff.1 h0
    subst this
    exact ⟨none, 0, rfl, by simp, .inl rfl⟩
  · refine ⟨some ⟨g, 0, none⟩, cap, by simp, by simpa using hl, .inr ⟨g, 0, rfl, ?_, ?_⟩⟩
    · rcases Nat.lt_or_ge g w.heap.size with h | h
      · exact h
      · rw [Array.getElem?_eq_none h] at hh; cases hh
    · intro i x hx
      rw [← htake] at hx
      unfold World.cell?
      simp only [hh]
      rw [List.getElem?_take] at hx
      split at hx
      · simpa using hx
      · cases hx
def RetS (w : World) (L : List ByteArray) (e : Ending) (w' : World) : Prop := ∃ v, e = .returned v ∧ IsVals w' v (L.map Value.string) ∧ Gr w w'
theorem Tryz.infoS : (Tryz.prog.info? 9).map (fun i => (i.zero, i.size, i.bytes)) = some (some (.string ByteArray.empty), 1, 16) := by kernel_rfl
end Go.Proofs.YtknmngejjoohdaaGreatDoor
namespace Go.Proofs.YtknmngejjoohdaaGreatDoor
open Go.ChangeShapes Go.WideShapes Go.ChangeAt Go.RowKit
set_option linter.unusedVariables false
set_option linter.unusedSimpArgs false

theorem flat_get {α : Type} (f : α → List Value) (sz : Nat) (hf : ∀ x, (f x).length = sz) : ∀ (L : List α) (i j : Nat) (hi : i < L.length), j < sz → (L.flatMap f)[i * sz + j]? = (f L[i])[j]?
  | [], i, j, hi, _ => by simp at hi
  | x :: t, 0, j, hi, hj => by
    rw [List.flatMap_cons, List.getElem?_append_left (by rw [hf]; omega)]; simp
  | x :: t, i + 1, j, hi, hj => by
    rw [List.flatMap_cons, List.getElem?_append_right (by rw [hf, Nat.succ_mul]; omega), hf, show (i + 1) * sz + j - sz = i * sz + j from by rw [Nat.succ_mul]; omega,
      flat_get f sz hf t i j (by simpa using hi) hj]
    rfl
theorem row_of_own {w : World} {B : Nat} {e : TypeId} {sz n : Nat} {v : Value} {xs : List Value} {C : Nat → Nat → Value} (h : w.ownsRow B e sz v n xs) (hl : n ≤ maxLen) (hx : ∀ i j, i < n → j < sz → xs[i * sz + j]? = some (C i j)) : IsRow w v sz n C := by
  obtain ⟨h1, h2⟩ := h
  rcases h2 with ⟨rfl, h0⟩ | ⟨g, cap, cur, rfl, hg, hh, hn, hcap, hsz, htake⟩
  · subst h0; exact ⟨none, 0, rfl, hl, .inl rfl⟩
  · refine ⟨some ⟨g, 0, none⟩, cap, rfl, hl, .inr ⟨g, 0, rfl, ?_, ?_⟩⟩
    · rcases Nat.lt_or_ge g w.heap.size with h | h
      · exact h
      · rw [Array.getElem?_eq_none h] at hh; cases hh
    · intro i j hi hj
      have hx' := hx i j hi hj
      rw [← htake] at hx'
      unfold World.cell?
      simp only [hh]
      rw [List.getElem?_take] at hx'
      split at hx'
      · simpa using hx'
      · cases hx'
def Prt.cs (x : Prt) : List Value := [.int .i64 x.e, .int .i64 x.x]
def Prt.c (x : Prt) (j : Nat) : Value := if j = 0 then .int .i64 x.e else .int .i64 x.x
def IsPrts (w : World) (v : Value) (l : List Prt) : Prop := IsRow w v 2 l.length (fun i j => (l.getD i default).c j)
theorem IsPrts.gr {w w' : World} {v : Value} {l : List Prt} (h : IsPrts w v l) (g : Gr w w') : IsPrts w' v l := IsRow.gr h g
theorem IsPrts.at {w : World} {a : Option Addr} {c m : Nat} {l : List Prt} (h : IsPrts w (.slice a m c) l) (i : Nat) (hi : i < l.length) :
    ∃ b o, a = some ⟨b, o, none⟩ ∧ b < w.heap.size ∧ w.cell? ⟨b, o + i * 2, none⟩ = some (.int .i64 l[i].e) ∧ w.cell? ⟨b, o + i * 2 + 1, none⟩ = some (.int .i64 l[i].x) := by
  obtain ⟨b, o, rfl, hb, hc⟩ := IsRow.at h i hi
  simp only [getD_at l i hi] at hc
  exact ⟨b, o, rfl, hb, hc 0 (by omega), hc 1 (by omega)⟩
def OwnP (B : Nat) (w : World) (v : Value) (L : List Prt) : Prop := w.ownsRow B 67 2 v L.length (L.flatMap Prt.cs)
theorem OwnP.nil (B : Nat) (w : World) : OwnP B w (.slice none 0 0) [] := ⟨rfl, .inl ⟨rfl, rfl⟩⟩
theorem OwnP.prts {B : Nat} {w : World} {v : Value} {L : List Prt} (h : OwnP B w v L) (hl : L.length ≤ maxLen) : IsPrts w v L := by
  refine row_of_own h hl fun i j hi hj => ?_
  rw [flat_get Prt.cs 2 (fun _ => rfl) L i j hi hj, getD_at L i hi]
  match j, hj with
  | 0, _ => rfl
  | 1, _ => rfl
theorem Tryz.infoP : (Tryz.prog.info? 67).map (fun i => (i.zero, i.size, i.bytes)) = some (some (.agg #[.int .i64 0, .int .i64 0]), 2, 16) := by kernel_rfl
theorem OwnP.lt {B : Nat} {w : World} {v : Value} {L : List Prt} (h : OwnP B w v L) : v = .slice none 0 0 ∨ ∃ g cap, v = .slice (some ⟨g, 0, none⟩) L.length cap ∧ B ≤ g := by
  rcases h.2 with ⟨rfl, _⟩ | ⟨g, cap, cur, rfl, hg, _⟩
  · exact .inl rfl
  · exact .inr ⟨g, cap, rfl, hg⟩
theorem refNext_some {P : Pln} {x y : Prt} (h : nextL P.js x = some y) (v : Value) (w : World) (hP : IsPln w v P) :
    Calls Tryz.prog 147 #[v, .agg #[.int .i64 x.e, .int .i64 x.x]] w fun e w' => e = .returned (.tuple #[.agg #[.int .i64 y.e, .int .i64 y.x], .bool true]) ∧ Gr w w' := by
  have := refNextP_any v P x w hP
  rw [h] at this
  exact this
theorem refNext_none {P : Pln} {x : Prt} (h : nextL P.js x = none) (v : Value) (w : World) (hP : IsPln w v P) :
    Calls Tryz.prog 147 #[v, .agg #[.int .i64 x.e, .int .i64 x.x]] w fun e w' => e = .returned (.tuple #[.agg #[.int .i64 0, .int .i64 0], .bool false]) ∧ Gr w w' := by
  have := refNextP_any v P x w hP
  rw [h] at this
  exact this
end Go.Proofs.YtknmngejjoohdaaGreatDoor
