/- Pln2: The plan's readers of the document's answer that loop: Next, Reads.
Pln3: Reads of the document's answer.
ChkP: What Check of a plan answers: plain. No walk.
Own: What the walks carry of a slice of strings that they make.
Row: Slices of structs that a walk makes; ports.
Vls: Slices of strings: their cells; strings that differ.
Wrd4: Words: the walks.
FstP: The first of a list that a test takes: plain.
MapP: A map as a function of its keys, whatever its elements: over the kit's ownsMap with the element itself as the reading. No program.
Prk: Ports, strings and numbers as keys of maps.
MapE: 'm[k], .. = v, ..': an entry is made, then filled: over a map as a function. No program.
ChkQ: Joins as a map: plain. No walk.
Grw: Regions that draw their order and whose callees may make memory: one walk of the text's order, over the class of all worlds in which nothing old has turned. No program.
MapN: The map that a port is joined by: look-ups.
Chk1: The document's answer: twice.
Chk2: The document's answer: within, In.
Chk3: A plan in its box.
NewP: net.New: what its walk carries; what a net is. -/
import Derived.Test.YtgjnlgcdpbilfaaGreatDoorRows
import Derived.Test.YtgjnlgcdpbilfaaGreatDoorB1
import Derived.Deep.MidRow
import Derived.Laws.AppendOwn
import Derived.Laws.OwnMore
import Derived.OwnWalk
import Derived.Maps.OwnSet
import Derived.DeepKeys4
import Derived.WideKeyEntry
import Derived.Maps.OwnOps
import Derived.Deep.LoopGhost
namespace Go.Proofs.YtgjnlgcdpbilfaaGreatDoor
open Go.ChangeShapes Go.WideShapes Go.ChangeAt Go.RowKit
set_option linter.unusedVariables false
set_option linter.unusedSimpArgs false

def nextL : List Jn → Prt → Option Prt
  | [], _ => none
  | j :: t, x => if j.a = x then some j.b else if j.b = x then some j.a else nextL t x
def readsL : List Sg → Prt → Option Nat
  | [], _ => none
  | s :: t, x => if s.at_ = x then some 0 else (readsL t x).map (· + 1)
theorem nextL_drop (l : List Jn) (k : Nat) (hk : k < l.length) (x : Prt) : nextL (l.drop k) x = if l[k].a = x then some l[k].b else if l[k].b = x then some l[k].a else nextL (l.drop (k + 1)) x := by
  rw [List.drop_eq_getElem_cons hk]; rfl
theorem prt_eqg : Tryz.prog.eqGuardType Tryz.prog.depth 79 = false := by kernel_rfl
theorem prt_stood : Tryz.prog.stoodInHeld 79 = false := by kernel_rfl
theorem prt_fields : Tryz.prog.underlying 79 = some (.struct (Tryz.prog.fieldsOf 79)) := by kernel_rfl
set_option maxRecDepth 100000 in
theorem prt_eql (a b c d : Int) (w : World) : (binOp .eql 79 (.agg #[.int .i64 a, .int .i64 b]) (.agg #[.int .i64 c, .int .i64 d])).run Tryz.prog w = .ok (.bool (decide ((⟨a, b⟩ : Prt) = ⟨c, d⟩))) w := by
  have hu := Tryz.underlying79
  have hf := prt_fields
  rw [hu] at hf
  simp only [Option.some.injEq, TypeDesc.struct.injEq] at hf
  rw [run_eql_struct, run_equalIn_agg w 9999 _ _ _ prt_fields prt_stood, ← hf]
  have hd : decide ((⟨a, b⟩ : Prt) = ⟨c, d⟩) = ((a == c) && (b == d)) := by
    rw [Bool.eq_iff_iff]; simp
  rw [hd]
  simp [Op.eqFields, go_sem, Tryz.underlying3]
  by_cases h1 : a = c <;> by_cases h2 : b = d <;> simp [h1, h2]
theorem prt_guard (op : BinOp) (x y : Operand) (xs ys : Array Value) (w : World) : (eqGuard op 79 x y (.agg xs) (.agg ys)).run Tryz.prog w = .ok () w := run_eqGuard_agg w op _ x y xs ys prt_eqg
def prtR (o : Option Prt) : Value := .tuple #[(o.getD default).v, .bool o.isSome]
set_option maxRecDepth 100000 in
theorem refNextP_any (v : Value) (P : Pln) (x : Prt) (w : World) (hP : IsPln w v P) :
    Calls Tryz.prog 97 #[v, x.v] w fun e w' => e = .returned (prtR (nextL P.js x)) ∧ Gr w w' := by
  obtain ⟨a1, c1, a2, c2, a3, c3, a4, c4, rfl, -, h2, -, -⟩ := hP
  obtain ⟨xe, xx⟩ := x
  unfold plnV Prt.v
  have hm := IsRow.len h2
  unfold maxLen at hm
  have HV := Lib.hid h2
  clear h2
  go_enter Tryz.func97, Tryz.ntmps97
  go_wp2_with fail
  go_loopw [6] (fun i wr => ∃ k : Nat, i = .int .i64 k ∧ k ≤ P.js.length ∧ Hid (nextL (P.js.drop k) ⟨xe, xx⟩ = nextL P.js ⟨xe, xx⟩) ∧ Gr w wr ∧ wr.cell? ⟨w.heap.size, 1, none⟩ = some (.slice a2 P.js.length c2) ∧
      wr.cell? ⟨w.heap.size + 1, 0, none⟩ = some (.int .i64 xe) ∧ wr.cell? ⟨w.heap.size + 1, 1, none⟩ = some (.int .i64 xx) ∧ wr.cell? ⟨w.heap.size + 1 + 1, 0, none⟩ = some (.int .i64 0) ∧ wr.cell? ⟨w.heap.size + 1 + 1, 1, none⟩ = some (.int .i64 0) ∧
      wr.frozen? ⟨w.heap.size + 1 + 1, 0, none⟩ = false ∧ wr.frozen? ⟨w.heap.size + 1 + 1, 1, none⟩ = false ∧ w.heap.size + 1 + 1 < wr.heap.size) (fun i _ => P.js.length - (intOf i).toNat)
  case atStart => refine ⟨0, rfl, Nat.zero_le _, rfl, (((Gr.refl _).alloc _).alloc _).alloc _, ?_, ?_, ?_, ?_, ?_, ?_, ?_, ?_⟩ <;> go_simp
  case round =>
    obtain ⟨k, rfl, hk, HN, g, p1, x0, x1, r0, r1, f0, f1, hsz⟩ := hrel
    have LX : (Instr.loadAt 79 (.pointer (some ⟨w.heap.size + 1, 0, none⟩))).run Tryz.prog wr = .ok (.agg #[.int .i64 xe, .int .i64 xx]) wr :=
      run_loadAt_mid wr (w.heap.size + 1) 0 79 [.int .i64 xe, .int .i64 xx] _ (fun j v h => by
        match j, h with
        | 0, h => cases h; exact x0
        | 1, h => cases h; exact x1) Tryz.underlying79 rfl (by kernel_rfl)
    by_cases hlt : k < P.js.length
    · obtain ⟨b, o, rfl, zb, y0, y1, y2, y3⟩ := (HV.out.gr g).at k hlt
      have HD := nextL_drop P.js k hlt ⟨xe, xx⟩
      rw [HN.out] at HD
      generalize P.js[k] = q at *
      obtain ⟨⟨ae, ax⟩, ⟨be, bx⟩⟩ := q
      have HD' := Lib.hid HD
      clear HD HN
      have LA : (Instr.loadAt 79 (.pointer (some ⟨b, o + k * 4, none⟩))).run Tryz.prog wr = .ok (.agg #[.int .i64 ae, .int .i64 ax]) wr :=
        run_loadAt_mid wr b (o + k * 4) 79 [.int .i64 ae, .int .i64 ax] _ (fun j v h => by
          match j, h with
          | 0, h => cases h; exact y0
          | 1, h => cases h; exact y1) Tryz.underlying79 rfl (by kernel_rfl)
      have LB : (Instr.loadAt 79 (.pointer (some ⟨b, o + k * 4 + 2, none⟩))).run Tryz.prog wr = .ok (.agg #[.int .i64 be, .int .i64 bx]) wr :=
        run_loadAt_mid wr b (o + k * 4 + 2) 79 [.int .i64 be, .int .i64 bx] _ (fun j v h => by
          match j, h with
          | 0, h => cases h; exact y2
          | 1, h => cases h; exact y3) Tryz.underlying79 rfl (by kernel_rfl)
      have G1 := prt_guard .eql
      have k1 : (k : Int) < (P.js.length : Int) := by omega
      by_cases hA : (⟨ae, ax⟩ : Prt) = ⟨xe, xx⟩
      · have E1 : ∀ w, (binOp .eql 79 (.agg #[.int .i64 ae, .int .i64 ax]) (.agg #[.int .i64 xe, .int .i64 xx])).run Tryz.prog w = .ok (.bool true) w := fun w => by rw [prt_eql, decide_eq_true hA]
        have HR : Hid (nextL P.js ⟨xe, xx⟩ = some ⟨be, bx⟩) := by unfold Hid; rw [HD'.out, if_pos hA]
        clear hA HD'
        go_wp2_with fail
        go_quiet (fail)
        go_wp2
        refine bodyPost_ret (v := .tuple #[.agg #[.int .i64 be, .int .i64 bx], .bool true]) (by simp [results, Tryz.results97, go_sem, r0, r1, hsz, f0, f1]) rfl ⟨by rw [HR.out]; rfl, by
          have hb : w.heap.size ≤ w.heap.size + 1 + 1 := by omega
          first
            | exact (g.setCell hb _).setCell hb _
            | exact ((g.drewN _).setCell hb _).setCell hb _
            | exact (((g.drewN _).drewN _).setCell hb _).setCell hb _⟩
      · have E1 : ∀ w, (binOp .eql 79 (.agg #[.int .i64 ae, .int .i64 ax]) (.agg #[.int .i64 xe, .int .i64 xx])).run Tryz.prog w = .ok (.bool false) w := fun w => by rw [prt_eql, decide_eq_false hA]
        have HD2 := Lib.hid (HD'.out.trans (if_neg hA))
        clear hA HD'
        by_cases hB : (⟨be, bx⟩ : Prt) = ⟨xe, xx⟩
        · have E2 : ∀ w, (binOp .eql 79 (.agg #[.int .i64 be, .int .i64 bx]) (.agg #[.int .i64 xe, .int .i64 xx])).run Tryz.prog w = .ok (.bool true) w := fun w => by rw [prt_eql, decide_eq_true hB]
          have HR : Hid (nextL P.js ⟨xe, xx⟩ = some ⟨ae, ax⟩) := by unfold Hid; rw [HD2.out, if_pos hB]
          clear hB HD2
          go_wp2_with fail
          go_quiet (fail)
          go_wp2_with fail
          go_quiet (fail)
          go_wp2
          refine bodyPost_ret (v := .tuple #[.agg #[.int .i64 ae, .int .i64 ax], .bool true]) (by simp [results, Tryz.results97, go_sem, r0, r1, hsz, f0, f1]) rfl ⟨by rw [HR.out]; rfl, by
            have hb : w.heap.size ≤ w.heap.size + 1 + 1 := by omega
            first
              | exact (g.setCell hb _).setCell hb _
              | exact ((g.drewN _).setCell hb _).setCell hb _
              | exact (((g.drewN _).drewN _).setCell hb _).setCell hb _⟩
        · have E2 : ∀ w, (binOp .eql 79 (.agg #[.int .i64 be, .int .i64 bx]) (.agg #[.int .i64 xe, .int .i64 xx])).run Tryz.prog w = .ok (.bool false) w := fun w => by rw [prt_eql, decide_eq_false hB]
          have HR := Lib.hid (HD2.out.trans (if_neg hB)).symm
          clear hB HD2
          go_wp2_with fail
          go_quiet (fail)
          go_wp2_with fail
          go_quiet (fail)
          go_wp2
          go_roundw
          case rel => exact ⟨k + 1, by go_num, by omega, HR.out, by first | exact (g.drewN _).drewN _ | exact g.drewN _, by simpa using p1, by simpa using x0, by simpa using x1, by simpa using r0, by simpa using r1, by simpa using f0, by simpa using f1, by simpa using hsz⟩
          case measure => simp [intOf]; omega
    · have HR : Hid (nextL P.js ⟨xe, xx⟩ = none) := by
        have := HN.out
        rw [List.drop_of_length_le (by omega)] at this
        exact this.symm
      clear HN
      go_wp2
      refine bodyPost_ret (v := .tuple #[.agg #[.int .i64 0, .int .i64 0], .bool false]) (by simp [results, Tryz.results97, go_sem, r0, r1, hsz, f0, f1]) rfl ⟨by rw [HR.out]; rfl, by
        have hb : w.heap.size ≤ w.heap.size + 1 + 1 := by omega
        first
          | exact (g.setCell hb _).setCell hb _
          | exact ((g.drewN _).setCell hb _).setCell hb _
          | exact (((g.drewN _).drewN _).setCell hb _).setCell hb _⟩
end Go.Proofs.YtgjnlgcdpbilfaaGreatDoor
namespace Go.Proofs.YtgjnlgcdpbilfaaGreatDoor
open Go.ChangeShapes Go.WideShapes Go.ChangeAt Go.RowKit
set_option linter.unusedVariables false
set_option linter.unusedSimpArgs false

theorem readsL_go (l : List Sg) (x : Prt) (k : Nat) (hk : k < l.length) (h : l[k].at_ = x) (hn : ∀ i (hi : i < l.length), i < k → l[i].at_ ≠ x) : readsL l x = some k := by
  induction l generalizing k with
  | nil => simp at hk
  | cons s t ih =>
    unfold readsL
    cases k with
    | zero => rw [if_pos (by simpa using h)]
    | succ k =>
      have h0 : s.at_ ≠ x := hn 0 (by simp) (by omega)
      rw [if_neg h0, ih k (by simpa using hk) (by simpa using h) fun i hi hik => hn (i + 1) (by simpa using hi) (by omega)]
      rfl
theorem readsL_no (l : List Sg) (x : Prt) (hn : ∀ i (hi : i < l.length), l[i].at_ ≠ x) : readsL l x = none := by
  induction l with
  | nil => rfl
  | cons s t ih =>
    have h0 : s.at_ ≠ x := hn 0 (by simp)
    unfold readsL
    rw [if_neg h0, ih fun i hi => hn (i + 1) (by simpa using hi)]
    rfl
def readsN (l : List Sg) (x : Prt) : Int := match readsL l x with | some k => k | none => -1
set_option maxRecDepth 100000 in
theorem refReads_any (v : Value) (P : Pln) (x : Prt) (w : World) (hP : IsPln w v P) :
    Calls Tryz.prog 99 #[v, x.v] w fun e w' => e = .returned (.int .i64 (readsN P.ss x)) ∧ Gr w w' := by
  obtain ⟨a1, c1, a2, c2, a3, c3, a4, c4, rfl, -, -, h3, -⟩ := hP
  obtain ⟨xe, xx⟩ := x
  unfold plnV Prt.v
  have hm := IsRow.len h3
  unfold maxLen at hm
  have HV := Lib.hid h3
  clear h3
  go_enter Tryz.func99, Tryz.ntmps99
  go_wp2_with fail
  go_loopw [5] (fun i wr => ∃ k : Nat, i = .int .i64 k ∧ k ≤ P.ss.length ∧ Hid (∀ i (hi : i < P.ss.length), i < k → P.ss[i].at_ ≠ ⟨xe, xx⟩) ∧ Gr w wr ∧ wr.cell? ⟨w.heap.size, 2, none⟩ = some (.slice a3 P.ss.length c3) ∧
      wr.cell? ⟨w.heap.size + 1, 0, none⟩ = some (.int .i64 xe) ∧ wr.cell? ⟨w.heap.size + 1, 1, none⟩ = some (.int .i64 xx)) (fun i _ => P.ss.length - (intOf i).toNat)
  case atStart => refine ⟨0, rfl, Nat.zero_le _, fun _ _ h => by omega, ((Gr.refl _).alloc _).alloc _, ?_, ?_, ?_⟩ <;> go_simp
  case round =>
    obtain ⟨k, rfl, hk, HN, g, p1, x0, x1⟩ := hrel
    have LX : (Instr.loadAt 79 (.pointer (some ⟨w.heap.size + 1, 0, none⟩))).run Tryz.prog wr = .ok (.agg #[.int .i64 xe, .int .i64 xx]) wr :=
      run_loadAt_mid wr (w.heap.size + 1) 0 79 [.int .i64 xe, .int .i64 xx] _ (fun j v h => by
        match j, h with
        | 0, h => cases h; exact x0
        | 1, h => cases h; exact x1) Tryz.underlying79 rfl (by kernel_rfl)
    by_cases hlt : k < P.ss.length
    · obtain ⟨b, o, rfl, zb, -, y1, y2, -⟩ := (HV.out.gr g).at k hlt
      have HN2 : Hid (P.ss[k].at_ ≠ ⟨xe, xx⟩ → ∀ i (hi : i < P.ss.length), i < k + 1 → P.ss[i].at_ ≠ ⟨xe, xx⟩) := by
        intro h i hi hik
        by_cases e : i = k
        · subst e; exact h
        · exact HN.out i hi (by omega)
      have HN3 : Hid (P.ss[k].at_ = ⟨xe, xx⟩ → readsN P.ss ⟨xe, xx⟩ = k) := fun h => by unfold readsN; rw [readsL_go P.ss _ k hlt h HN.out]
      generalize P.ss[k].at_ = q at *
      obtain ⟨ae, ax⟩ := q
      clear HN
      have LA : (Instr.loadAt 79 (.pointer (some ⟨b, o + k * 4 + 1, none⟩))).run Tryz.prog wr = .ok (.agg #[.int .i64 ae, .int .i64 ax]) wr :=
        run_loadAt_mid wr b (o + k * 4 + 1) 79 [.int .i64 ae, .int .i64 ax] _ (fun j v h => by
          match j, h with
          | 0, h => cases h; exact y1
          | 1, h => cases h; exact y2) Tryz.underlying79 rfl (by kernel_rfl)
      have G1 := prt_guard .eql
      have k1 : (k : Int) < (P.ss.length : Int) := by omega
      by_cases hA : (⟨ae, ax⟩ : Prt) = ⟨xe, xx⟩
      · have E1 : ∀ w, (binOp .eql 79 (.agg #[.int .i64 ae, .int .i64 ax]) (.agg #[.int .i64 xe, .int .i64 xx])).run Tryz.prog w = .ok (.bool true) w := fun w => by rw [prt_eql, decide_eq_true hA]
        have HR := Lib.hid (HN3.out hA)
        clear hA HN2 HN3
        go_wp2_with fail
        go_quiet (fail)
        go_wp2
        go_ret
        exact ⟨ret_int HR.out.symm, by first | exact g.drewN _ | exact g⟩
      · have E1 : ∀ w, (binOp .eql 79 (.agg #[.int .i64 ae, .int .i64 ax]) (.agg #[.int .i64 xe, .int .i64 xx])).run Tryz.prog w = .ok (.bool false) w := fun w => by rw [prt_eql, decide_eq_false hA]
        have HR := Lib.hid (HN2.out hA)
        clear hA HN2 HN3
        go_wp2_with fail
        go_quiet (fail)
        go_wp2
        go_roundw
        case rel => exact ⟨k + 1, by go_num, by omega, HR.out, by first | exact g.drewN _ | exact g, by simpa using p1, by simpa using x0, by simpa using x1⟩
        case measure => simp [intOf]; omega
    · have HR : Hid (readsN P.ss ⟨xe, xx⟩ = -1) := by
        unfold Hid readsN
        rw [readsL_no P.ss _ fun i hi => HN.out i hi (by omega)]
      clear HN
      go_wp2
      go_ret
      exact ⟨ret_int HR.out.symm, g⟩
end Go.Proofs.YtgjnlgcdpbilfaaGreatDoor
namespace Go.Proofs.YtgjnlgcdpbilfaaGreatDoor
open Go.ChangeShapes Go.WideShapes Go.ChangeAt Go.RowKit
set_option linter.unusedVariables false
set_option linter.unusedSimpArgs false

def inB (n lo hi : Int) : Bool := decide (lo ≤ n) && decide (n ≤ hi)
def eleB (e : Ele) : Bool := nmB e.n && !decide (endsK e.k = 0) && (if e.k = 4 then decide (e.l = 0) else inB e.l 1 4000)
def argsB (P : Pln) : Bool :=
  inB P.top 1 60 && inB P.brake 1 10 && inB P.margin 1 4000 && inB P.throw 1 20 && !decide (P.es.length = 0) && P.es.all eleB && P.ss.all (fun s => nmB s.n) && P.ls.all (fun l => nmB l.n)
def twiceB (l : List ByteArray) : Bool := !decide l.Nodup
def portsP (P : Pln) : List Prt := P.js.flatMap fun j => [j.a, j.b]
def offGate (P : Pln) (x : Prt) : Bool := match nextL P.js x with | some y => !decide (kindP P y.e = 4) | none => false
def joinedB (P : Pln) : Bool :=
  (portsP P).all (hasP P) && decide (portsP P).Nodup && (List.range P.es.length).all fun i => !decide (kindP P i = 4) || offGate P ⟨i, 0⟩
def sigB (P : Pln) (i : Nat) : Bool :=
  let x := (P.ss.getD i default).at_
  hasP P x && (decide (kindP P x.e = 1) || decide (kindP P x.e = 4)) && offGate P x && decide (readsL P.ss x = some i)
def signalsB (P : Pln) : Bool :=
  (List.range P.ss.length).all (sigB P) && (List.range P.es.length).all fun i => !decide (kindP P i = 4) || (readsL P.ss ⟨i, 0⟩).isSome
def chainB (P : Pln) : List Int → Int → Bool
  | [], _ => true
  | [_], _ => true
  | a :: b :: t, out => match nextL P.js ⟨a, out⟩ with | some y => decide (y.e = b) && chainB P (b :: t) (1 - y.x) | none => false
def outOf (P : Pln) (a b : Int) : Int :=
  let j := fun e : Int => match nextL P.js ⟨a, e⟩ with | some y => decide (y.e = b) | none => false
  if j 0 then 0 else if j 1 then 1 else -1
def rowB (P : Pln) : List Int → Bool
  | a :: b :: t => !decide (outOf P a b < 0) && chainB P (a :: b :: t) (outOf P a b)
  | _ => true
def linesB (P : Pln) : Bool :=
  decide (P.ls.flatMap (·.es)).Nodup && P.ls.all fun l => !decide (l.es.length = 0) && l.es.all (fun e => decide (kindP P e = 1)) && rowB P l.es
def longB (P : Pln) : Bool :=
  decide (P.top + stp P.brake P.top ≤ P.margin) && P.ss.all (fun s => !decide (kindP P s.at_.e = 1) || decide (P.margin ≤ lenP P s.at_.e)) && P.es.all fun e => decide (e.k = 4) || decide (P.top ≤ e.l)
def chk (P : Pln) : Int :=
  if 40 < P.es.length ∨ 24 < P.ss.length ∨ 4 < P.ls.length ∨ 80 < P.js.length then 3
  else if argsB P = false then 1
  else if twiceB (P.es.map (·.n)) || twiceB (P.ss.map (·.n)) || twiceB (P.ls.map (·.n)) then 4
  else if joinedB P = false then 6 else if signalsB P = false then 7 else if linesB P = false then 8 else if longB P = false then 9 else 0
end Go.Proofs.YtgjnlgcdpbilfaaGreatDoor
namespace Go.Proofs.YtgjnlgcdpbilfaaGreatDoor
open Go.ChangeShapes Go.WideShapes Go.ChangeAt Go.RowKit
set_option linter.unusedVariables false
set_option linter.unusedSimpArgs false

def OwnS (B : Nat) (w : World) (v : Value) (L : List ByteArray) : Prop := w.ownsRow B 9 1 v L.length (L.map Value.string)
theorem OwnS.nil (B : Nat) (w : World) : OwnS B w (.slice none 0 0) [] := ⟨rfl, .inl ⟨rfl, rfl⟩⟩
theorem OwnS.snoc {B : Nat} {w : World} {v : Value} {L : List ByteArray} {x : ByteArray} (h : w.ownsRow B 9 1 v (L.length + 1) (L.map Value.string ++ [.string x])) : OwnS B w v (L ++ [x]) := by
  unfold OwnS
  simpa using h
theorem own_base {w : World} {B : Nat} {e : TypeId} {sz n : Nat} {v : Value} {xs : List Value} (h : w.ownsRow B e sz v n xs) : ∀ k, v.ownBlock = some k → B ≤ k := by
  intro k hk
  rcases h.2 with ⟨rfl, _⟩ | ⟨g, cap, cur, rfl, hg, _⟩
  · cases hk
  · simp [Value.ownBlock] at hk
    omega
theorem Gr.grown {a w w' : World} {v : Value} {e : TypeId} {sz n : Nat} {xs : List Value} {W : World} (h : Gr a w) (hg : w.grownBy w' v.ownBlock) (ho : W.ownsRow a.heap.size e sz v n xs) : Gr a w' :=
  Below.grown h hg h.size (own_base ho)
theorem OwnS.vals {B : Nat} {w : World} {v : Value} {L : List ByteArray} (h : OwnS B w v L) (hl : L.length ≤ maxLen) : IsVals w v (L.map Value.string) := by
  obtain ⟨h1, h2⟩ := h
  rcases h2 with ⟨rfl, h0⟩ | ⟨g, cap, cur, rfl, hg, hh, hn, hcap, hsz, htake⟩
  · have : L = [] := List.length_eq_zero_iff.1 h0
    subst this
    exact ⟨none, 0, rfl, by simp, .inl rfl⟩
  · refine ⟨some ⟨g, 0, none⟩, cap, by simp, by simpa using hl, .inr ⟨g, 0, rfl, ?_, ?_⟩⟩
    · rcases Nat.lt_or_ge g w.heap.size with h | h
      · exact h
      · rw [Array.getElem?_eq_none h] at hh; cases hh
    · intro i x hx
      rw [← htake] at hx
      unfold World.cell?
      simp only [hh]
      rw [List.getElem?_take] at hx
      split at hx
      · simpa using hx
      · cases hx
def RetS (w : World) (L : List ByteArray) (e : Ending) (w' : World) : Prop := ∃ v, e = .returned v ∧ IsVals w' v (L.map Value.string) ∧ Gr w w'
theorem Tryz.infoS : (Tryz.prog.info? 9).map (fun i => (i.zero, i.size, i.bytes)) = some (some (.string ByteArray.empty), 1, 16) := by kernel_rfl
end Go.Proofs.YtgjnlgcdpbilfaaGreatDoor
namespace Go.Proofs.YtgjnlgcdpbilfaaGreatDoor
open Go.ChangeShapes Go.WideShapes Go.ChangeAt Go.RowKit
set_option linter.unusedVariables false
set_option linter.unusedSimpArgs false

theorem flat_len {α : Type} (f : α → List Value) (sz : Nat) (hf : ∀ x, (f x).length = sz) : ∀ (L : List α), (L.flatMap f).length = L.length * sz
  | [] => by simp
  | x :: t => by
    rw [List.flatMap_cons, List.length_append, hf, flat_len f sz hf t, List.length_cons, Nat.succ_mul]; omega
theorem flat_get {α : Type} (f : α → List Value) (sz : Nat) (hf : ∀ x, (f x).length = sz) : ∀ (L : List α) (i j : Nat) (hi : i < L.length), j < sz → (L.flatMap f)[i * sz + j]? = (f L[i])[j]?
  | [], i, j, hi, _ => by simp at hi
  | x :: t, 0, j, hi, hj => by
    rw [List.flatMap_cons, List.getElem?_append_left (by rw [hf]; omega)]; simp
  | x :: t, i + 1, j, hi, hj => by
    rw [List.flatMap_cons, List.getElem?_append_right (by rw [hf, Nat.succ_mul]; omega), hf, show (i + 1) * sz + j - sz = i * sz + j from by rw [Nat.succ_mul]; omega,
      flat_get f sz hf t i j (by simpa using hi) hj]
    rfl
theorem row_of_own {w : World} {B : Nat} {e : TypeId} {sz n : Nat} {v : Value} {xs : List Value} {C : Nat → Nat → Value} (h : w.ownsRow B e sz v n xs) (hl : n ≤ maxLen) (hx : ∀ i j, i < n → j < sz → xs[i * sz + j]? = some (C i j)) : IsRow w v sz n C := by
  obtain ⟨h1, h2⟩ := h
  rcases h2 with ⟨rfl, h0⟩ | ⟨g, cap, cur, rfl, hg, hh, hn, hcap, hsz, htake⟩
  · subst h0; exact ⟨none, 0, rfl, hl, .inl rfl⟩
  · refine ⟨some ⟨g, 0, none⟩, cap, rfl, hl, .inr ⟨g, 0, rfl, ?_, ?_⟩⟩
    · rcases Nat.lt_or_ge g w.heap.size with h | h
      · exact h
      · rw [Array.getElem?_eq_none h] at hh; cases hh
    · intro i j hi hj
      have hx' := hx i j hi hj
      rw [← htake] at hx'
      unfold World.cell?
      simp only [hh]
      rw [List.getElem?_take] at hx'
      split at hx'
      · simpa using hx'
      · cases hx'
def Prt.cs (x : Prt) : List Value := [.int .i64 x.e, .int .i64 x.x]
def Prt.c (x : Prt) (j : Nat) : Value := if j = 0 then .int .i64 x.e else .int .i64 x.x
def IsPrts (w : World) (v : Value) (l : List Prt) : Prop := IsRow w v 2 l.length (fun i j => (l.getD i default).c j)
theorem IsPrts.gr {w w' : World} {v : Value} {l : List Prt} (h : IsPrts w v l) (g : Gr w w') : IsPrts w' v l := IsRow.gr h g
theorem IsPrts.at {w : World} {a : Option Addr} {c m : Nat} {l : List Prt} (h : IsPrts w (.slice a m c) l) (i : Nat) (hi : i < l.length) :
    ∃ b o, a = some ⟨b, o, none⟩ ∧ b < w.heap.size ∧ w.cell? ⟨b, o + i * 2, none⟩ = some (.int .i64 l[i].e) ∧ w.cell? ⟨b, o + i * 2 + 1, none⟩ = some (.int .i64 l[i].x) := by
  obtain ⟨b, o, rfl, hb, hc⟩ := IsRow.at h i hi
  simp only [getD_at l i hi] at hc
  exact ⟨b, o, rfl, hb, hc 0 (by omega), hc 1 (by omega)⟩
def OwnP (B : Nat) (w : World) (v : Value) (L : List Prt) : Prop := w.ownsRow B 79 2 v L.length (L.flatMap Prt.cs)
theorem OwnP.nil (B : Nat) (w : World) : OwnP B w (.slice none 0 0) [] := ⟨rfl, .inl ⟨rfl, rfl⟩⟩
theorem OwnP.prts {B : Nat} {w : World} {v : Value} {L : List Prt} (h : OwnP B w v L) (hl : L.length ≤ maxLen) : IsPrts w v L := by
  refine row_of_own h hl fun i j hi hj => ?_
  rw [flat_get Prt.cs 2 (fun _ => rfl) L i j hi hj, getD_at L i hi]
  match j, hj with
  | 0, _ => rfl
  | 1, _ => rfl
theorem Tryz.infoP : (Tryz.prog.info? 79).map (fun i => (i.zero, i.size, i.bytes)) = some (some (.agg #[.int .i64 0, .int .i64 0]), 2, 16) := by kernel_rfl
theorem OwnP.lt {B : Nat} {w : World} {v : Value} {L : List Prt} (h : OwnP B w v L) : v = .slice none 0 0 ∨ ∃ g cap, v = .slice (some ⟨g, 0, none⟩) L.length cap ∧ B ≤ g := by
  rcases h.2 with ⟨rfl, _⟩ | ⟨g, cap, cur, rfl, hg, _⟩
  · exact .inl rfl
  · exact .inr ⟨g, cap, rfl, hg⟩
theorem refNext_some {P : Pln} {x y : Prt} (h : nextL P.js x = some y) (v : Value) (w : World) (hP : IsPln w v P) :
    Calls Tryz.prog 97 #[v, .agg #[.int .i64 x.e, .int .i64 x.x]] w fun e w' => e = .returned (.tuple #[.agg #[.int .i64 y.e, .int .i64 y.x], .bool true]) ∧ Gr w w' := by
  have := refNextP_any v P x w hP
  rw [h] at this
  exact this
theorem refNext_none {P : Pln} {x : Prt} (h : nextL P.js x = none) (v : Value) (w : World) (hP : IsPln w v P) :
    Calls Tryz.prog 97 #[v, .agg #[.int .i64 x.e, .int .i64 x.x]] w fun e w' => e = .returned (.tuple #[.agg #[.int .i64 0, .int .i64 0], .bool false]) ∧ Gr w w' := by
  have := refNextP_any v P x w hP
  rw [h] at this
  exact this
end Go.Proofs.YtgjnlgcdpbilfaaGreatDoor
namespace Go.Proofs.YtgjnlgcdpbilfaaGreatDoor
open Go.ChangeShapes Go.WideShapes Go.ChangeAt Go.RowKit
set_option linter.unusedVariables false
set_option linter.unusedSimpArgs false

theorem vals_at {w : World} {A : List ByteArray} {a : Option Addr} {c : Nat} (h : IsVals w (.slice a A.length c) (A.map Value.string)) (k : Nat) (hk : k < A.length) :
    ∃ b o, a = some ⟨b, o, none⟩ ∧ b < w.heap.size ∧ w.cell? ⟨b, o + k, none⟩ = some (.string A[k]) := by
  obtain ⟨a', c', e, _, hx⟩ := h
  simp only [Value.slice.injEq] at e
  obtain ⟨rfl, -, rfl⟩ := e
  rcases hx with hx | ⟨b, o, rfl, hb, hc⟩
  · exfalso
    have := congrArg List.length hx
    simp at this
    rw [this] at hk
    simp at hk
  · exact ⟨b, o, rfl, hb, hc k _ (by rw [List.getElem?_map, List.getElem?_eq_getElem hk]; rfl)⟩
theorem str_ne {a b : ByteArray} (h : ¬ a = b) : (a.toList == b.toList) = false := by
  rw [beq_eq_false_iff_ne]
  intro e
  rw [ByteArray.toList_eq, ByteArray.toList_eq] at e
  exact h (ByteArray.ext (Array.toList_inj.1 e))
end Go.Proofs.YtgjnlgcdpbilfaaGreatDoor
namespace Go.Proofs.YtgjnlgcdpbilfaaGreatDoor
open Go.ChangeShapes Go.WideShapes Go.ChangeAt Go.RowKit
set_option linter.unusedVariables false
set_option linter.unusedSimpArgs false

def RetW (w : World) (o : Option (List ByteArray)) (e : Ending) (w' : World) : Prop :=
  ∃ v, e = .returned (.tuple #[v, .bool o.isSome]) ∧ IsVals w' v ((o.getD []).map Value.string) ∧ Gr w w'
theorem RetW.no {w w' : World} {o : Option (List ByteArray)} (h : o = none) (g : Gr w w') : RetW w o (.returned (.tuple #[.slice none 0 0, .bool false])) w' := by
  subst h
  exact ⟨_, rfl, ⟨none, 0, rfl, by simp, .inl rfl⟩, g⟩
theorem RetW.yes {w w' : World} {o : Option (List ByteArray)} {L : List ByteArray} {v : Value} (h : o = some L) (hv : IsVals w' v (L.map Value.string)) (g : Gr w w') : RetW w o (.returned (.tuple #[v, .bool true])) w' := by
  subst h
  exact ⟨_, rfl, hv, g⟩
def CapOk (v : Value) : Prop := ∀ a n c, v = .slice a n c → n ≤ c
theorem OwnS.cap {B : Nat} {w : World} {v : Value} {L : List ByteArray} (h : OwnS B w v L) : CapOk v := by
  intro a n c e
  obtain ⟨-, h⟩ := h
  rcases h with ⟨rfl, -⟩ | ⟨g, cap, cur, rfl, -, -, hc, -⟩
  · cases e; omega
  · cases e; exact hc
def RetWc (w : World) (o : Option (List ByteArray)) (e : Ending) (w' : World) : Prop :=
  ∃ v, e = .returned (.tuple #[v, .bool o.isSome]) ∧ IsVals w' v ((o.getD []).map Value.string) ∧ CapOk v ∧ Gr w w'
theorem RetWc.no {w w' : World} {o : Option (List ByteArray)} (h : o = none) (g : Gr w w') : RetWc w o (.returned (.tuple #[.slice none 0 0, .bool false])) w' := by
  subst h
  exact ⟨_, rfl, ⟨none, 0, rfl, by simp, .inl rfl⟩, fun a n c e => by cases e; omega, g⟩
theorem RetWc.yes {w w' : World} {o : Option (List ByteArray)} {L : List ByteArray} {v : Value} (h : o = some L) (hv : IsVals w' v (L.map Value.string)) (hc : CapOk v) (g : Gr w w') : RetWc w o (.returned (.tuple #[v, .bool true])) w' := by
  subst h
  exact ⟨_, rfl, hv, hc, g⟩
theorem RetWc.drop {w w' : World} {o : Option (List ByteArray)} {e : Ending} (h : RetWc w o e w') : RetW w o e w' := by
  obtain ⟨v, h1, h2, -, h3⟩ := h
  exact ⟨v, h1, h2, h3⟩
end Go.Proofs.YtgjnlgcdpbilfaaGreatDoor
namespace Go.Proofs.YtgjnlgcdpbilfaaGreatDoor
set_option linter.unusedVariables false
def fstB {α : Type} (p : α → Bool) : List α → Option Nat
  | [] => none
  | x :: t => if p x then some 0 else (fstB p t).map (· + 1)
def fstN {α : Type} (p : α → Bool) (l : List α) : Int := match fstB p l with | some k => (k : Int) | none => -1
theorem fstB_go {α : Type} (p : α → Bool) : ∀ (l : List α) (k : Nat) (hk : k < l.length), p l[k] = true → (∀ i (hi : i < l.length), i < k → p l[i] = false) → fstB p l = some k
  | [], k, hk, _, _ => absurd hk (by simp)
  | x :: t, 0, _, h, _ => by unfold fstB; rw [if_pos (show p x = true from h)]
  | x :: t, k + 1, hk, h, hn => by
    have h0 := hn 0 (by simp) (by omega)
    unfold fstB
    rw [if_neg (by rw [show p x = false from h0]; decide), fstB_go p t k (by simpa using hk) (by simpa using h) (fun i hi hik => by have := hn (i + 1) (by simpa using hi) (by omega); simpa using this)]
    rfl
theorem fstB_no {α : Type} (p : α → Bool) : ∀ (l : List α), (∀ i (hi : i < l.length), p l[i] = false) → fstB p l = none
  | [], _ => rfl
  | x :: t, hn => by
    have h0 := hn 0 (by simp)
    unfold fstB
    rw [if_neg (by rw [show p x = false from h0]; decide), fstB_no p t (fun i hi => by have := hn (i + 1) (by simpa using hi); simpa using this)]
    rfl
theorem fstB_some {α : Type} {p : α → Bool} : ∀ {l : List α} {k : Nat}, fstB p l = some k → ∃ h : k < l.length, p l[k] = true ∧ ∀ i (hi : i < l.length), i < k → p l[i] = false
  | [], _, h => by cases h
  | x :: t, k, h => by
    unfold fstB at h
    split at h
    · cases h; exact ⟨by simp, by assumption, fun i _ hi => by omega⟩
    · rename_i hne
      rw [Option.map_eq_some_iff] at h
      obtain ⟨m, hm, rfl⟩ := h
      obtain ⟨h1, h2, h3⟩ := fstB_some hm
      refine ⟨by simpa using h1, by simpa using h2, fun i hi hik => ?_⟩
      cases i with
      | zero => simpa using hne
      | succ i => have := h3 i (by simpa using hi) (by omega); simpa using this
theorem fstN_go {α : Type} (p : α → Bool) {l : List α} {k : Nat} (hk : k < l.length) (h : p l[k] = true) (hn : ∀ i (hi : i < l.length), i < k → p l[i] = false) : fstN p l = k := by
  unfold fstN; rw [fstB_go p l k hk h hn]
theorem fstN_no {α : Type} (p : α → Bool) {l : List α} (hn : ∀ i (hi : i < l.length), p l[i] = false) : fstN p l = -1 := by
  unfold fstN; rw [fstB_no p l hn]
theorem fstN_any {α : Type} (p : α → Bool) (l : List α) : decide (0 ≤ fstN p l) = l.any p := by
  unfold fstN
  cases h : fstB p l with
  | none =>
    dsimp only
    rw [Bool.eq_iff_iff]
    simp only [decide_eq_true_eq, List.any_eq_true]
    constructor
    · intro h; omega
    · rintro ⟨x, hx, hp⟩
      exfalso
      obtain ⟨k, hk, rfl⟩ := List.getElem_of_mem hx
      have : ∀ (l : List α), fstB p l = none → ∀ x ∈ l, p x = false := by
        intro l
        induction l with
        | nil => intro _ x hx; cases hx
        | cons a t ih =>
          intro h x hx
          unfold fstB at h
          split at h
          · cases h
          · rename_i hne
            rw [Option.map_eq_none_iff] at h
            rcases List.mem_cons.1 hx with rfl | hx
            · simpa using hne
            · exact ih h x hx
      rw [this l h _ (List.getElem_mem hk)] at hp
      cases hp
  | some k =>
    obtain ⟨h1, h2, -⟩ := fstB_some h
    dsimp only
    rw [Bool.eq_iff_iff]
    simp only [decide_eq_true_eq, List.any_eq_true]
    exact ⟨fun _ => ⟨_, List.getElem_mem h1, h2⟩, fun _ => by omega⟩
end Go.Proofs.YtgjnlgcdpbilfaaGreatDoor
namespace Go.Proofs.YtgjnlgcdpbilfaaGreatDoor
open Go.ChangeShapes Go.WideShapes Go.ChangeAt Go.RowKit Go.Maps
set_option linter.unusedVariables false
set_option linter.unusedSimpArgs false

def heldR (v : Value) : Option (DataW Value × List MemPlace) := some (.held v, [])
open Classical in
/-- block b is a map of n entries at most; f: what it has at a key -/
def MapIs (P : Program) (k : TypeId) (w : World) (b n : Nat) (f : Value → Option Value) : Prop :=
  ∃ D : DataW Value, w.ownsMap P k heldR b n D ∧ Maps.IsMap D ∧ ∀ key kl, keyOf P k key = some kl →
    Maps.has D kl = (f key).isSome ∧ ∀ z : Value, D.atKey kl (.held z) = .held ((f key).getD z)
open Classical in
noncomputable def put (f : Value → Option Value) (key val : Value) : Value → Option Value := fun x => if x = key then some val else f x
variable {P : Program} {k e t : TypeId} {w : World} {b n : Nat} {f : Value → Option Value}
theorem MapIs.lt (h : MapIs P k w b n f) : b < w.heap.size := by obtain ⟨D, ho, _⟩ := h; exact ho.lt
theorem MapIs.block {w' : World} (h : MapIs P k w b n f) (hb : w'.heap[b]? = w.heap[b]?) : MapIs P k w' b n f := by
  obtain ⟨D, ⟨es, clock, h1, h2⟩, hm, hf⟩ := h
  exact ⟨D, ⟨es, clock, hb.trans h1, h2⟩, hm, hf⟩
theorem MapIs.gr {w' : World} (h : MapIs P k w b n f) (g : Gr w w') : MapIs P k w' b n f := h.block (g.block b h.lt)
theorem Gr.grownM {a w' : World} (g : Gr a w) (hg : w.grownBy w' (some b)) (hb : a.heap.size ≤ b) : Gr a w' :=
  Below.grown g hg g.size (fun j hj => by cases hj; exact hb)
end Go.Proofs.YtgjnlgcdpbilfaaGreatDoor
namespace Go.Proofs.YtgjnlgcdpbilfaaGreatDoor
open Go.ChangeShapes Go.WideShapes Go.ChangeAt Go.RowKit Go.Maps
set_option linter.unusedVariables false
set_option linter.unusedSimpArgs false
theorem prt_cells : Tryz.prog.cellsOf 79 = 2 := by kernel_rfl
theorem int_cells : Tryz.prog.cellsOf 3 = 1 := by kernel_rfl
end Go.Proofs.YtgjnlgcdpbilfaaGreatDoor
namespace Go.Proofs.YtgjnlgcdpbilfaaGreatDoor
open Go.ChangeShapes Go.WideShapes Go.ChangeAt Go.RowKit Go.Maps
open Go.ChangeMaps Go.WideElems
set_option linter.unusedVariables false
set_option linter.unusedSimpArgs false
variable {P : Program} {k e t : TypeId} {w : World} {b n : Nat} {f : Value → Option Value}
end Go.Proofs.YtgjnlgcdpbilfaaGreatDoor
namespace Go.Proofs.YtgjnlgcdpbilfaaGreatDoor
open Go.ChangeShapes Go.WideShapes Go.ChangeAt Go.RowKit
set_option linter.unusedVariables false
set_option linter.unusedSimpArgs false

def I64 (x : Int) : Prop := (Lit.int .i64 x).wf = true
structure PlnOk (P : Pln) : Prop where
  es : ∀ e ∈ P.es, I64 e.k ∧ I64 e.l ∧ e.n.size ≤ maxLen
  js : ∀ j ∈ P.js, I64 j.a.e ∧ I64 j.a.x ∧ I64 j.b.e ∧ I64 j.b.x
  ss : ∀ s ∈ P.ss, I64 s.at_.e ∧ I64 s.at_.x ∧ s.n.size ≤ maxLen
  ls : ∀ l ∈ P.ls, l.n.size ≤ maxLen ∧ ∀ e ∈ l.es, I64 e
  nums : I64 P.top ∧ I64 P.brake ∧ I64 P.margin ∧ I64 P.throw
def portsL (l : List Jn) : List Prt := l.flatMap fun j => [j.a, j.b]
theorem portsP_eq (P : Pln) : portsP P = portsL P.js := rfl
theorem portsL_cons (j : Jn) (t : List Jn) : portsL (j :: t) = j.a :: j.b :: portsL t := rfl
theorem portsL_snoc (l : List Jn) (j : Jn) : portsL (l ++ [j]) = portsL l ++ [j.a, j.b] := by simp [portsL]
theorem take_snoc' {α : Type} (l : List α) (k : Nat) (h : k < l.length) : l.take (k + 1) = l.take k ++ [l[k]] := by
  rw [List.take_succ_eq_append_getElem h]
def okL (P : Pln) (l : List Jn) : Prop := (portsL l).Nodup ∧ ∀ x ∈ portsL l, hasP P x = true
def gatesB (P : Pln) : Bool := (List.range P.es.length).all fun i => !decide (kindP P i = 4) || offGate P ⟨i, 0⟩
theorem joinedB_no {P : Pln} (h : ¬ okL P P.js) : joinedB P = false := by
  unfold joinedB
  rw [portsP_eq]
  by_cases h1 : (portsL P.js).Nodup
  · have h2 : (portsL P.js).all (hasP P) = false := by
      rw [Bool.eq_false_iff]
      intro ha
      rw [List.all_eq_true] at ha
      exact h ⟨h1, ha⟩
    rw [h2]; simp
  · simp [h1]
theorem joinedB_yes {P : Pln} (h : okL P P.js) : joinedB P = gatesB P := by
  unfold joinedB gatesB
  rw [portsP_eq]
  have h2 : (portsL P.js).all (hasP P) = true := by rw [List.all_eq_true]; exact h.2
  simp [h.1, h2]
def FnL (l : List Jn) (f : Value → Option Value) : Prop := ∀ x : Prt, f x.v = (nextL l x).map Prt.v
theorem FnL.nil : FnL [] (fun _ => none) := fun _ => rfl
theorem prtv_inj {x y : Prt} (h : x.v = y.v) : x = y := by
  obtain ⟨a, b⟩ := x
  obtain ⟨c, d⟩ := y
  unfold Prt.v at h
  simp only [Value.agg.injEq, Array.mk.injEq, List.cons.injEq, Value.int.injEq, true_and, and_true] at h
  rw [h.1, h.2]
end Go.Proofs.YtgjnlgcdpbilfaaGreatDoor
namespace Go.Proofs.YtgjnlgcdpbilfaaGreatDoor
open Go.ChangeShapes Go.WideShapes Go.ChangeAt Go.RowKit
set_option linter.unusedVariables false
set_option linter.unusedSimpArgs false

structure GrW (w : World) where
  wd : World
  gr : Gr w wd
instance (w : World) : Nonempty (GrW w) := ⟨⟨w, Gr.refl w⟩⟩
theorem GrW.cell {w : World} {b : Nat} (hb : b < w.heap.size) (i : GrW w) (o : Nat) : i.wd.cell? ⟨b, o, none⟩ = w.cell? ⟨b, o, none⟩ := i.gr.cell b o hb
theorem GrW.frozen {w : World} {b : Nat} (hb : b < w.heap.size) (i : GrW w) (o : Nat) : i.wd.frozen? ⟨b, o, none⟩ = w.frozen? ⟨b, o, none⟩ := i.gr.frozen b o hb
theorem wp_region_gr {P : Program} {id : Nat} {Q : Exit → Act → World → Prop} {a : Act} {w : World} {l : List Oper} (hm : P.follows .mixedOrders = true) (hB : Region.lexB .any l.toArray = true)
    (h : wpQuiet P l.toArray (fun w' => ∃ i : GrW w, w' = i.wd) (fun a' => ∀ w', (∃ i : GrW w, w' = i.wd) → Q .normal a' w') l a) : (Code.region id l.toArray true).wp P Q a w :=
  wp_region_quiet (C := fun w' => ∃ i : GrW w, w' = i.wd) hm hB ⟨⟨w.drew, (Gr.refl w).drew⟩, rfl⟩ (by simpa using h)
theorem Calls.gr_of {P : Program} {f : FuncId} {args : Array Value} {w : World} {i : GrW w} {v : Value}
    (h : Calls P f args i.wd fun e w' => e = .returned v ∧ Gr i.wd w') : Calls P f args i.wd fun e w'' => e = .returned v ∧ ∃ j : GrW w, w'' = j.wd :=
  h.mono fun _ w' ⟨he, hg⟩ => ⟨he, ⟨w', i.gr.trans hg⟩, rfl⟩
theorem new2 {wr w5 : World} {t : TypeId} {x y : Value} (h : Gr ((wr.alloc (.cells #[x, y] t)).drew) w5) : w5.cell? ⟨wr.heap.size, 0, none⟩ = some x ∧ w5.cell? ⟨wr.heap.size, 1, none⟩ = some y ∧ w5.frozen? ⟨wr.heap.size, 0, none⟩ = false ∧ w5.frozen? ⟨wr.heap.size, 1, none⟩ = false ∧ wr.heap.size < w5.heap.size := by
  have hz : wr.heap.size < ((wr.alloc (.cells #[x, y] t)).drew).heap.size := by simp
  exact ⟨(h.cell _ _ hz).trans (by simp), (h.cell _ _ hz).trans (by simp), (h.frozen _ _ hz).trans (by simp), (h.frozen _ _ hz).trans (by simp), Nat.lt_of_lt_of_le hz h.size⟩
def NewAt (wr wz : World) (g : Nat) (x y : Value) : Prop := Gr wr wz ∧ wr.heap.size ≤ g ∧ g < wz.heap.size ∧ wz.cell? ⟨g, 0, none⟩ = some x ∧ wz.cell? ⟨g, 1, none⟩ = some y
theorem newAt_alloc {wr w5 : World} {t : TypeId} {x y : Value} (g : Gr wr w5) : NewAt wr (w5.alloc (.cells #[x, y] t)) w5.heap.size x y :=
  ⟨g.alloc _, g.size, by simp, by simp, by simp⟩
theorem newAt_set {wr w5 : World} {t : TypeId} {a b x y : Value} (h : Gr ((wr.alloc (.cells #[a, b] t)).drew) w5) : NewAt wr ((w5.setCell ⟨wr.heap.size, 0, none⟩ x).setCell ⟨wr.heap.size, 1, none⟩ y) wr.heap.size x y := by
  obtain ⟨k0, k1, f0, f1, z⟩ := new2 h
  refine ⟨((((Gr.refl wr).alloc _).drew.trans h).setCell (Nat.le_refl _) _).setCell (Nat.le_refl _) _, Nat.le_refl _, by simpa using z, ?_, ?_⟩
  · exact (World.cell?_setCell_other _ _ _ _ (by simp)).trans (World.cell?_setCell_same _ _ _ k0)
  · exact World.cell?_setCell_same _ _ _ ((World.cell?_setCell_other _ _ _ _ (by simp)).trans k1)
theorem own_gr {w w' : World} {B : Nat} {e : TypeId} {sz n : Nat} {v : Value} {xs : List Value} (h : w.ownsRow B e sz v n xs) (g : Gr w w') : w'.ownsRow B e sz v n xs := by
  refine ⟨h.1, ?_⟩
  rcases h.2 with h | ⟨b, cap, cur, hv, hb, hh, rest⟩
  · exact .inl h
  · refine .inr ⟨b, cap, cur, hv, hb, ?_, rest⟩
    have hlt : b < w.heap.size := by
      rcases Nat.lt_or_ge b w.heap.size with hl | hl
      · exact hl
      · rw [Array.getElem?_eq_none hl] at hh; cases hh
    rw [g.block b hlt]; exact hh
theorem own_lt {w : World} {B : Nat} {e : TypeId} {sz n : Nat} {v : Value} {xs : List Value} (h : w.ownsRow B e sz v n xs) : ∀ b, v.ownBlock = some b → b < w.heap.size := by
  intro b hb
  rcases h.2 with ⟨rfl, _⟩ | ⟨g, cap, cur, rfl, hg, hh, rest⟩
  · cases hb
  · simp [Value.ownBlock] at hb
    subst hb
    rcases Nat.lt_or_ge g w.heap.size with hl | hl
    · exact hl
    · rw [Array.getElem?_eq_none hl] at hh; cases hh
theorem beqF {a b : Int} (h : a ≠ b) : (a == b) = false := by simpa using h
theorem beqT {a b : Int} (h : a = b) : (a == b) = true := by simpa using h
theorem bneF {a b : Int} (h : a = b) : (a != b) = false := by simpa using h
theorem bneT {a b : Int} (h : a ≠ b) : (a != b) = true := by simpa using h
end Go.Proofs.YtgjnlgcdpbilfaaGreatDoor
namespace Go.Proofs.YtgjnlgcdpbilfaaGreatDoor
open Go.ChangeShapes Go.WideShapes Go.ChangeAt Go.RowKit Go.Maps
set_option linter.unusedVariables false
set_option linter.unusedSimpArgs false

def PrtOk (x : Prt) : Prop := I64 x.e ∧ I64 x.x
theorem put_self (f : Value → Option Value) (k v : Value) : put f k v k = some v := by unfold put; rw [if_pos rfl]
theorem put_else (f : Value → Option Value) {k v x : Value} (h : x ≠ k) : put f k v x = f x := by unfold put; rw [if_neg h]
end Go.Proofs.YtgjnlgcdpbilfaaGreatDoor
namespace Go.Proofs.YtgjnlgcdpbilfaaGreatDoor
open Go.ChangeShapes Go.WideShapes Go.ChangeAt Go.RowKit
set_option linter.unusedVariables false
set_option linter.unusedSimpArgs false
theorem strs_at {w : World} {A : List ByteArray} {a : Option Addr} {c : Nat} (h : IsVals w (.slice a A.length c) (A.map Value.string)) (k : Nat) (hk : k < A.length) :
    ∃ b o, a = some ⟨b, o, none⟩ ∧ b < w.heap.size ∧ w.cell? ⟨b, o + k, none⟩ = some (.string A[k]) := by
  obtain ⟨a', c', e, _, hx⟩ := h
  simp only [Value.slice.injEq] at e
  obtain ⟨rfl, -, rfl⟩ := e
  rcases hx with hx | ⟨b, o, rfl, hb, hc⟩
  · exfalso
    have := congrArg List.length hx
    simp at this
    rw [this] at hk
    simp at hk
  · exact ⟨b, o, rfl, hb, hc k _ (by rw [List.getElem?_map, List.getElem?_eq_getElem hk]; rfl)⟩
theorem bytes_eq {a b : ByteArray} (h : ¬ a = b) : (a.toList == b.toList) = false := by
  rw [beq_eq_false_iff_ne]
  intro e
  rw [ByteArray.toList_eq, ByteArray.toList_eq] at e
  exact h (ByteArray.ext (Array.toList_inj.1 e))
theorem twice_yes {l : List ByteArray} {i k : Nat} (hi : i < l.length) (hk : k < i) (h : l[i] = l[k]'(by omega)) : twiceB l = true := by
  unfold twiceB
  simp only [Bool.not_eq_true', decide_eq_false_iff_not]
  intro hn
  have := List.pairwise_iff_getElem.1 hn k i (by omega) hi hk
  exact this h.symm
theorem twice_no {l : List ByteArray} (h : ∀ i k (hi : i < l.length) (hk : k < i), l[i] ≠ l[k]'(by omega)) : twiceB l = false := by
  unfold twiceB
  simp only [Bool.not_eq_false', decide_eq_true_eq]
  exact List.pairwise_iff_getElem.2 fun i j hi hj hij e => h j i hj hij e.symm
set_option maxRecDepth 100000 in
theorem refTwice_any (v : Value) (L : List ByteArray) (w : World) (hv : IsVals w v (L.map Value.string)) :
    Calls Tryz.prog 63 #[v] w fun e w' => e = .returned (.bool (twiceB L)) ∧ Gr w w' := by
  have hv' := hv
  obtain ⟨a, c, rfl, hm, -⟩ := hv
  simp only [List.length_map] at hv' hm ⊢
  unfold maxLen at hm
  have HV := Lib.hid hv'
  clear hv'
  go_enter Tryz.func63, Tryz.ntmps63
  go_wp2_with fail
  go_loopg [2, 3, 4] L.length (fun gh _ x2 _ wr => ∃ i : Nat, i + gh = L.length ∧ x2 = .int .i64 i ∧ Hid (∀ p q (hp : p < L.length) (hq : q < p), p < i → L[p] ≠ L[q]'(by omega)) ∧ Gr w wr)
  case atStart => exact ⟨0, by omega, rfl, fun p q _ _ h => by omega, Gr.refl _⟩
  case round =>
    obtain ⟨i, hig, rfl, HA, g⟩ := hrel
    have HIG := Lib.hid hig
    clear hig
    by_cases hlt : i < L.length
    · have i1 : (i : Int) < (L.length : Int) := by omega
      go_wp2_with fail
      go_loopg [4] i (fun g2 x3 wy => ∃ k : Nat, k + g2 = i ∧ x3 = .int .i64 k ∧ Hid (∀ q (hq : q < i), q < k → L[i] ≠ L[q]'(by omega)) ∧ Gr w wy)
      case atStart => exact ⟨0, by omega, rfl, fun q _ h => by omega, g⟩
      case round =>
        obtain ⟨k, hkg, rfl, HB, g3⟩ := hrel
        have HKG := Lib.hid hkg
        clear hkg
        by_cases hk : k < i
        · have k1 : (k : Int) < (i : Int) := by omega
          obtain ⟨b1, o1, rfl, z1, c1⟩ := strs_at (HV.out.gr g3) i hlt
          obtain ⟨b2, o2, e2, z2, c2⟩ := strs_at (HV.out.gr g3) k (by omega)
          simp only [Option.some.injEq, Addr.mk.injEq, and_true] at e2
          obtain ⟨rfl, rfl⟩ := e2
          by_cases he : L[i] = L[k]
          · have HR := Lib.hid (twice_yes hlt hk he)
            rw [he] at c1
            clear he HA HB
            generalize L[k] = y at *
            go_wp2_with fail
            go_quiet (fail)
            go_wp2
            try rw [Exit.noGoto_ret]
            go_ret
            exact ⟨ret_bool HR.out.symm, by first | exact g3.drewN _ | exact g3⟩
          · have hs := bytes_eq he
            have HB' : Hid (∀ q (hq : q < i), q < k + 1 → L[i] ≠ L[q]'(by omega)) := by
              intro q hq h
              by_cases e : q = k
              · subst e; exact he
              · exact HB.out q hq (by omega)
            clear he HB
            obtain ⟨x, hx⟩ : ∃ x, x = L[i] := ⟨_, rfl⟩
            obtain ⟨y, hy⟩ : ∃ y, y = L[k] := ⟨_, rfl⟩
            rw [← hx] at c1 hs
            rw [← hy] at c2 hs
            clear hx hy
            go_wp2_with fail
            go_quiet (fail)
            go_wp2
            go_roundg (i - (k + 1))
            case measure => have := HKG.out; omega
            case rel => exact ⟨k + 1, by have := HKG.out; omega, by go_num, HB'.out, by first | exact g3.drewN _ | exact g3⟩
        · have HA' : Hid (∀ p q (hp : p < L.length) (hq : q < p), p < i + 1 → L[p] ≠ L[q]'(by omega)) := by
            intro p q hp hq h
            by_cases e : p = i
            · subst e; exact HB.out q hq (by omega)
            · exact HA.out p q hp hq (by omega)
          clear HA HB
          go_wp2
          go_roundg (L.length - (i + 1))
          case measure => have := HIG.out; omega
          case rel => exact ⟨i + 1, by have := HIG.out; omega, by go_num, HA'.out, g3⟩
    · have HR := Lib.hid (twice_no fun p q hp hq => HA.out p q hp hq (by omega))
      clear HA
      go_wp2
      go_ret
      exact ⟨ret_bool HR.out.symm, g⟩
end Go.Proofs.YtgjnlgcdpbilfaaGreatDoor
namespace Go.Proofs.YtgjnlgcdpbilfaaGreatDoor
open Go.ChangeShapes Go.WideShapes Go.ChangeAt Go.RowKit
set_option linter.unusedVariables false
set_option linter.unusedSimpArgs false
theorem ints_at {w : World} {A : List Int} {a : Option Addr} {c : Nat} (h : IsVals w (.slice a A.length c) (A.map (Value.int .i64))) (k : Nat) (hk : k < A.length) :
    ∃ b o, a = some ⟨b, o, none⟩ ∧ b < w.heap.size ∧ w.cell? ⟨b, o + k, none⟩ = some (.int .i64 A[k]) := by
  obtain ⟨a', c', e, _, hx⟩ := h
  simp only [Value.slice.injEq] at e
  obtain ⟨rfl, -, rfl⟩ := e
  rcases hx with hx | ⟨b, o, rfl, hb, hc⟩
  · exfalso
    have := congrArg List.length hx
    simp at this
    rw [this] at hk
    simp at hk
  · exact ⟨b, o, rfl, hb, hc k _ (by rw [List.getElem?_map, List.getElem?_eq_getElem hk]; rfl)⟩
theorem refWithin_any (n lo hi : Int) (w : World) : Calls Tryz.prog 94 #[.int .i64 n, .int .i64 lo, .int .i64 hi] w fun e w' => e = .returned (.bool (inB n lo hi)) ∧ w' = w := by
  by_cases h : lo ≤ n
  · have HN : Hid (inB n lo hi = decide (n ≤ hi)) := by unfold Hid inB; simp [h]
    go_enter Tryz.func94, Tryz.ntmps94
    go_wp2
    go_ret
    exact ⟨ret_bool (by rw [HN.out]), rfl⟩
  · have HN : Hid (inB n lo hi = false) := by unfold Hid inB; simp [h]
    go_enter Tryz.func94, Tryz.ntmps94
    go_wp2
    go_ret
    exact ⟨ret_bool (by rw [HN.out]), rfl⟩
theorem refIn_any (v : Value) (L : List Int) (n : Int) (w : World) (hv : IsVals w v (L.map (Value.int .i64))) :
    Calls Tryz.prog 100 #[v, .int .i64 n] w fun e w' => e = .returned (.bool (decide (n ∈ L))) ∧ Gr w w' := by
  have hv' := hv
  obtain ⟨a, c, rfl, hm, -⟩ := hv
  simp only [List.length_map] at hv' hm ⊢
  unfold maxLen at hm
  have HV := Lib.hid hv'
  clear hv'
  go_enter Tryz.func100, Tryz.ntmps100
  go_wp2_with fail
  go_loopg [4, 5] L.length (fun gh _ x wr => ∃ i : Nat, i + gh = L.length ∧ x = .int .i64 i ∧ Hid (∀ p (hp : p < L.length), p < i → L[p] ≠ n) ∧ Gr w wr)
  case atStart => exact ⟨0, by omega, rfl, fun p _ h => by omega, Gr.refl _⟩
  case round =>
    obtain ⟨i, hig, rfl, HA, g⟩ := hrel
    have HIG := Lib.hid hig
    clear hig
    by_cases hlt : i < L.length
    · have i1 : (i : Int) < (L.length : Int) := by omega
      obtain ⟨b, o, rfl, z, cx⟩ := ints_at (HV.out.gr g) i hlt
      by_cases he : L[i] = n
      · have HR : Hid (decide (n ∈ L) = true) := by unfold Hid; simp only [decide_eq_true_eq]; rw [← he]; exact List.getElem_mem hlt
        have t1 : (L[i] == n) = true := by simpa using he
        clear he HA
        go_wp2
        go_ret
        exact ⟨ret_bool HR.out.symm, g⟩
      · have t1 : (L[i] == n) = false := by simpa using he
        have HA' : Hid (∀ p (hp : p < L.length), p < i + 1 → L[p] ≠ n) := by
          intro p hp h
          by_cases e : p = i
          · subst e; exact he
          · exact HA.out p hp (by omega)
        clear he HA
        go_wp2
        go_roundg (L.length - (i + 1))
        case measure => have := HIG.out; omega
        case rel => exact ⟨i + 1, by have := HIG.out; omega, by go_num, HA'.out, g⟩
    · have HR : Hid (decide (n ∈ L) = false) := by
        unfold Hid
        simp only [decide_eq_false_iff_not]
        intro hm
        obtain ⟨p, hp, e⟩ := List.mem_iff_getElem.1 hm
        exact HA.out p hp (by omega) e
      clear HA
      go_wp2
      go_ret
      exact ⟨ret_bool HR.out.symm, g⟩
end Go.Proofs.YtgjnlgcdpbilfaaGreatDoor
namespace Go.Proofs.YtgjnlgcdpbilfaaGreatDoor
open Go.ChangeShapes Go.WideShapes Go.ChangeAt Go.RowKit
set_option linter.unusedVariables false
set_option linter.unusedSimpArgs false
def PBox (w : World) (b : Nat) (P : Pln) (e j s l : Value) : Prop :=
  b < w.heap.size ∧ w.cell? ⟨b, 0, none⟩ = some e ∧ w.cell? ⟨b, 1, none⟩ = some j ∧ w.cell? ⟨b, 2, none⟩ = some s ∧ w.cell? ⟨b, 3, none⟩ = some l ∧ w.cell? ⟨b, 4, none⟩ = some (.int .i64 P.top) ∧
    w.cell? ⟨b, 5, none⟩ = some (.int .i64 P.brake) ∧ w.cell? ⟨b, 6, none⟩ = some (.int .i64 P.margin) ∧ w.cell? ⟨b, 7, none⟩ = some (.int .i64 P.throw) ∧ w.cell? ⟨b, 8, none⟩ = some (.bool P.hard)
theorem PBox.gr {w w' : World} {b : Nat} {P : Pln} {e j s l : Value} (h : PBox w b P e j s l) (g : Gr w w') : PBox w' b P e j s l := by
  obtain ⟨hb, c0, c1, c2, c3, c4, c5, c6, c7, c8⟩ := h
  refine ⟨Nat.lt_of_lt_of_le hb g.size, ?_, ?_, ?_, ?_, ?_, ?_, ?_, ?_, ?_⟩ <;> (rw [g.cell _ _ hb]; assumption)
theorem PBox.drewN {w : World} {b : Nat} {P : Pln} {e j s l : Value} (h : PBox w b P e j s l) (n : Nat) : PBox (w.drewN n) b P e j s l := h.gr ((Gr.refl w).drewN n)
theorem PBox.drew {w : World} {b : Nat} {P : Pln} {e j s l : Value} (h : PBox w b P e j s l) : PBox w.drew b P e j s l := h.gr ((Gr.refl w).drew)
theorem PBox.load {w : World} {b : Nat} {P : Pln} {e j s l : Value} (h : PBox w b P e j s l) : (Instr.loadAt 27 (.pointer (some ⟨b, 0, none⟩))).run Tryz.prog w = .ok (plnV P e j s l) w := by
  obtain ⟨hb, c0, c1, c2, c3, c4, c5, c6, c7, c8⟩ := h
  exact run_loadAt_mid w b 0 27 [e, j, s, l, .int .i64 P.top, .int .i64 P.brake, .int .i64 P.margin, .int .i64 P.throw, .bool P.hard] _ (fun i v h => by
    match i, h with
    | 0, h => cases h; exact c0
    | 1, h => cases h; exact c1
    | 2, h => cases h; exact c2
    | 3, h => cases h; exact c3
    | 4, h => cases h; exact c4
    | 5, h => cases h; exact c5
    | 6, h => cases h; exact c6
    | 7, h => cases h; exact c7
    | 8, h => cases h; exact c8) Tryz.underlying27 rfl (by kernel_rfl)
theorem PBox.new (w : World) (P : Pln) (e j s l : Value) : PBox (w.alloc (.cells #[e, j, s, l, .int .i64 P.top, .int .i64 P.brake, .int .i64 P.margin, .int .i64 P.throw, .bool P.hard] 27)) w.heap.size P e j s l := by
  refine ⟨by simp, ?_, ?_, ?_, ?_, ?_, ?_, ?_, ?_, ?_⟩ <;> (rw [World.cell?_alloc_mark]; rfl)
def PS (w : World) (b : Nat) (P : Pln) (e j s l : Value) (w' : World) : Prop :=
  Gr w w' ∧ PBox w' b P e j s l ∧ (Instr.loadAt 27 (.pointer (some ⟨b, 0, none⟩))).run Tryz.prog w' = .ok (plnV P e j s l) w'
theorem PS.of {w w' : World} {b : Nat} {P : Pln} {e j s l : Value} (g : Gr w w') (h : PBox w' b P e j s l) : PS w b P e j s l w' := ⟨g, h, h.load⟩
theorem PS.gr {w w1 w2 : World} {b : Nat} {P : Pln} {e j s l : Value} (h : PS w b P e j s l w1) (g : Gr w1 w2) : PS w b P e j s l w2 := PS.of (h.1.trans g) (h.2.1.gr g)
theorem PS.drew {w w1 : World} {b : Nat} {P : Pln} {e j s l : Value} (h : PS w b P e j s l w1) : PS w b P e j s l w1.drew := h.gr ((Gr.refl _).drew)
theorem PBox.ps {w w' : World} {b : Nat} {P : Pln} {e j s l : Value} (h : PBox w' b P e j s l) (g : Gr w w') : PS w b P e j s l w' := PS.of g h
theorem IsPln.mk {w w' : World} {P : Pln} {a1 a2 a3 a4 : Option Addr} {c1 c2 c3 c4 : Nat} (h1 : IsEles w (.slice a1 P.es.length c1) P.es) (h2 : IsJns w (.slice a2 P.js.length c2) P.js) (h3 : IsSgs w (.slice a3 P.ss.length c3) P.ss) (h4 : IsLns w (.slice a4 P.ls.length c4) P.ls) (g : Gr w w') :
    IsPln w' (.agg #[.slice a1 P.es.length c1, .slice a2 P.js.length c2, .slice a3 P.ss.length c3, .slice a4 P.ls.length c4, .int .i64 P.top, .int .i64 P.brake, .int .i64 P.margin, .int .i64 P.throw, .bool P.hard]) P :=
  ⟨a1, c1, a2, c2, a3, c3, a4, c4, rfl, h1.gr g, h2.gr g, h3.gr g, h4.gr g⟩
end Go.Proofs.YtgjnlgcdpbilfaaGreatDoor
namespace Go.Proofs.YtgjnlgcdpbilfaaGreatDoor
open Go.ChangeShapes Go.WideShapes Go.ChangeAt Go.RowKit Go.Maps
set_option linter.unusedVariables false
set_option linter.unusedSimpArgs false
theorem PBox.blk {w w' : World} {b : Nat} {P : Pln} {e j s l : Value} (h : PBox w b P e j s l) (hb : w'.heap[b]? = w.heap[b]?) (hs : w.heap.size ≤ w'.heap.size) : PBox w' b P e j s l := by
  have q : ∀ o, w'.cell? ⟨b, o, none⟩ = w.cell? ⟨b, o, none⟩ := fun o => World.cell?_of_block hb
  obtain ⟨z, b0, b1, b2, b3, b4, b5, b6, b7, b8⟩ := h
  exact ⟨Nat.lt_of_lt_of_le z hs, (q _).trans b0, (q _).trans b1, (q _).trans b2, (q _).trans b3, (q _).trans b4, (q _).trans b5, (q _).trans b6, (q _).trans b7, (q _).trans b8⟩
structure NetW (w2 : World) (P : Pln) (v1 v2 v3 v4 : Value) (n1 : Nat) (f1 : Value → Option Value) (n2 : Nat) (f2 : Value → Option Value) (n3 : Nat) (f3 : Value → Option Value) (n4 : Nat) (f4 : Value → Option Value) (wr : World) : Prop where
  gr : Gr w2 wr
  net : PBox wr (w2.heap.size + 4) P v1 v2 v3 v4
  c9 : wr.cell? ⟨w2.heap.size + 4, 9, none⟩ = some (.map (some w2.heap.size))
  c10 : wr.cell? ⟨w2.heap.size + 4, 10, none⟩ = some (.map (some (w2.heap.size + 1)))
  c11 : wr.cell? ⟨w2.heap.size + 4, 11, none⟩ = some (.map (some (w2.heap.size + 2)))
  c12 : wr.cell? ⟨w2.heap.size + 4, 12, none⟩ = some (.map (some (w2.heap.size + 3)))
  nx : MapIs Tryz.prog 79 wr w2.heap.size n1 f1
  rd : MapIs Tryz.prog 79 wr (w2.heap.size + 1) n2 f2
  ln : MapIs Tryz.prog 3 wr (w2.heap.size + 2) n3 f3
  ld : MapIs Tryz.prog 3 wr (w2.heap.size + 3) n4 f4
variable {w2 : World} {P : Pln} {v1 v2 v3 v4 : Value} {n1 n2 n3 n4 : Nat} {f1 f2 f3 f4 : Value → Option Value} {wr w' : World}
theorem NetW.grow (h : NetW w2 P v1 v2 v3 v4 n1 f1 n2 f2 n3 f3 n4 f4 wr) (g : Gr wr w') : NetW w2 P v1 v2 v3 v4 n1 f1 n2 f2 n3 f3 n4 f4 w' :=
  have z := h.net.1
  ⟨h.gr.trans g, h.net.gr g, (g.cell _ _ z).trans h.c9, (g.cell _ _ z).trans h.c10, (g.cell _ _ z).trans h.c11, (g.cell _ _ z).trans h.c12, h.nx.gr g, h.rd.gr g, h.ln.gr g, h.ld.gr g⟩
theorem NetW.turn (h : NetW w2 P v1 v2 v3 v4 n1 f1 n2 f2 n3 f3 n4 f4 wr) {m : Nat} (g : wr.grownBy w' (some m)) (h1 : w2.heap.size ≤ m) (h2 : m < w2.heap.size + 4) :
    Gr w2 w' ∧ PBox w' (w2.heap.size + 4) P v1 v2 v3 v4 ∧ w'.cell? ⟨w2.heap.size + 4, 9, none⟩ = some (.map (some w2.heap.size)) ∧ w'.cell? ⟨w2.heap.size + 4, 10, none⟩ = some (.map (some (w2.heap.size + 1))) ∧ w'.cell? ⟨w2.heap.size + 4, 11, none⟩ = some (.map (some (w2.heap.size + 2))) ∧ w'.cell? ⟨w2.heap.size + 4, 12, none⟩ = some (.map (some (w2.heap.size + 3))) ∧ ∀ i, i < w2.heap.size + 4 → i ≠ m → w'.heap[i]? = wr.heap[i]? := by
  have z := h.net.1
  have hb : w'.heap[w2.heap.size + 4]? = wr.heap[w2.heap.size + 4]? := g.block _ z (fun e => by injection e; omega)
  exact ⟨h.gr.grownM g h1, h.net.blk hb g.size, (World.cell?_of_block hb).trans h.c9, (World.cell?_of_block hb).trans h.c10, (World.cell?_of_block hb).trans h.c11, (World.cell?_of_block hb).trans h.c12, fun i hi hne => g.block i (by omega) (fun e => by injection e; omega)⟩
def FnR (l : List Sg) (f : Value → Option Value) : Prop := ∀ x : Prt, f x.v = (readsL l x).map fun i => .int .i64 (i : Int)
def NetIs (w : World) (b : Nat) (P : Pln) : Prop :=
  ∃ v1 v2 v3 v4 bn n1 f1 br n2 f2 bl n3 f3 bd n4 f4, PBox w b P v1 v2 v3 v4 ∧ IsPln w (plnV P v1 v2 v3 v4) P ∧ w.cell? ⟨b, 9, none⟩ = some (.map (some bn)) ∧ w.cell? ⟨b, 10, none⟩ = some (.map (some br)) ∧ w.cell? ⟨b, 11, none⟩ = some (.map (some bl)) ∧ w.cell? ⟨b, 12, none⟩ = some (.map (some bd)) ∧
    MapIs Tryz.prog 79 w bn n1 f1 ∧ FnL P.js f1 ∧ MapIs Tryz.prog 79 w br n2 f2 ∧ FnR P.ss f2 ∧ MapIs Tryz.prog 3 w bl n3 f3 ∧ MapIs Tryz.prog 3 w bd n4 f4
theorem NetIs.gr {w w' : World} {b : Nat} {P : Pln} (h : NetIs w b P) (g : Gr w w') : NetIs w' b P := by
  obtain ⟨v1, v2, v3, v4, bn, n1, f1, br, n2, f2, bl, n3, f3, bd, n4, f4, a, b', c, d, e, f, i, j, k, l, m, n⟩ := h
  have z := a.1
  exact ⟨v1, v2, v3, v4, bn, n1, f1, br, n2, f2, bl, n3, f3, bd, n4, f4, a.gr g, b'.gr g, (g.cell _ _ z).trans c, (g.cell _ _ z).trans d, (g.cell _ _ z).trans e, (g.cell _ _ z).trans f, i.gr g, j, k.gr g, l, m.gr g, n.gr g⟩
theorem FnR.nil : FnR [] (fun _ => none) := fun _ => rfl
theorem readsL_snoc (l : List Sg) (s : Sg) (x : Prt) : readsL (l ++ [s]) x = match readsL l x with | some i => some i | none => if s.at_ = x then some l.length else none := by
  induction l with
  | nil => simp [readsL]
  | cons a t ih =>
    simp only [List.cons_append, readsL]
    split
    · rfl
    · rw [ih]
      cases readsL t x with
      | some i => rfl
      | none =>
        by_cases h : s.at_ = x
        · simp [h]
        · simp [h]
theorem FnR.one {l : List Sg} {f : Value → Option Value} (h : FnR l f) (s : Sg) (hn : readsL l s.at_ = none) : FnR (l ++ [s]) (put f s.at_.v (.int .i64 (l.length : Int))) := by
  intro x
  rw [readsL_snoc]
  by_cases e : x = s.at_
  · subst e
    rw [put_self, hn, if_pos rfl]; rfl
  · rw [put_else _ (fun e' => e (prtv_inj e')), h x, if_neg (fun e' => e e'.symm)]
    cases readsL l x <;> rfl
end Go.Proofs.YtgjnlgcdpbilfaaGreatDoor
