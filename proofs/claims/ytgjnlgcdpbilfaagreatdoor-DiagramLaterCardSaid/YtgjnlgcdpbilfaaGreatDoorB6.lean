/- Chkc: The document's answer: Check.
Few: Few, Fine.
NewQ: net.New: the plain rounds.
Net1: the net's small methods.
Net2: the net's Next; walk.lies; lamp.Passes.
Net3: the net's Outs.
Net4: the net's Through.
Net5: walk.Step.
Bod: bodies; body.Head.
Ref1: the reference's passes and Lies.
Ref2: the plain tie between the net's element and the reference's kind.
SeeP: How far a head sees: plain.
StQ: Lists of kinds of trains, their texts: plain.
ClkP: Clock: plain laws of a time's text. No program.
DgP: Timetables as data: what a diagram is in memory; what Check and Last answer. No walk.
StT: Kinds of trains as texts, there and back: plain. -/
import Derived.Test.YtgjnlgcdpbilfaaGreatDoorRows
import Derived.Test.YtgjnlgcdpbilfaaGreatDoorB5
import Derived.Test.YtgjnlgcdpbilfaaGreatDoorB2
import Derived.Test.YtgjnlgcdpbilfaaGreatDoorB4
import Derived.OpenShut
import Derived.BigRegion
import Derived.Deep.Cut
import Derived.Deep.DrawnRows
import Derived.Test.YtgjnlgcdpbilfaaGreatDoorB1
namespace Go.Proofs.YtgjnlgcdpbilfaaGreatDoor
open Go.ChangeShapes Go.WideShapes Go.ChangeAt Go.RowKit
set_option linter.unusedVariables false
set_option linter.unusedSimpArgs false
theorem chk_long {P : Pln} (h : 40 < P.es.length ∨ 24 < P.ss.length ∨ 4 < P.ls.length ∨ 80 < P.js.length) : chk P = 3 := by unfold chk; rw [if_pos h]
theorem chk_rest {P : Pln} (h : ¬ (40 < P.es.length ∨ 24 < P.ss.length ∨ 4 < P.ls.length ∨ 80 < P.js.length)) :
    chk P = if argsB P = false then 1 else if (twiceB (P.es.map (·.n)) || twiceB (P.ss.map (·.n)) || twiceB (P.ls.map (·.n))) = true then 4 else if joinedB P = false then 6 else if signalsB P = false then 7 else if linesB P = false then 8 else if longB P = false then 9 else 0 := by
  unfold chk; rw [if_neg h]
theorem joined_ports {P : Pln} (h : joinedB P = true) : okL P P.js := Classical.byContradiction fun hn => by rw [joinedB_no hn] at h; cases h
theorem args_nums {P : Pln} (h : argsB P = true) : (1 ≤ P.top ∧ P.top ≤ 60) ∧ (1 ≤ P.brake ∧ P.brake ≤ 10) ∧ (1 ≤ P.margin ∧ P.margin ≤ 4000) ∧ (1 ≤ P.throw ∧ P.throw ≤ 20) ∧ 0 < P.es.length := by
  rw [argsB_eq] at h
  simp only [Bool.and_eq_true] at h
  have h0 := h.1.1.1
  unfold numsB inB at h0
  simp only [Bool.and_eq_true, decide_eq_true_eq, Bool.not_eq_true', decide_eq_false_iff_not] at h0
  omega
set_option maxRecDepth 100000 in
set_option maxHeartbeats 1000000 in
theorem refCheck_any (v : Value) (P : Pln) (w : World) (hP : IsPln w v P) (hk : PlnOk P) (hl : (P.ls.flatMap (·.es)).length ≤ 1000000) :
    Calls Tryz.prog 29 #[v] w fun e w' => e = .returned (.int .i64 (chk P)) ∧ Gr w w' := by
  have hPz := hP
  obtain ⟨a1, c1, a2, c2, a3, c3, a4, c4, rfl, h1, h2, h3, h4⟩ := hP
  have m1 := IsRow.len h1
  have m2 := IsRow.len h2
  have m3 := IsRow.len h3
  have m4 : P.ls.length ≤ maxLen := by obtain ⟨S, hS, -⟩ := h4; exact IsRow.len hS
  unfold maxLen at m1 m2 m3 m4
  have HPv := Lib.hid (fun (w' : World) (g : Gr w w') => IsPln.mk (w' := w') h1 h2 h3 h4 g)
  have HB := Lib.hid (bxW_box w P (.slice a1 P.es.length c1) (.slice a2 P.js.length c2) (.slice a3 P.ss.length c3) (.slice a4 P.ls.length c4))
  have hw0 := bxW_gr w P (.slice a1 P.es.length c1) (.slice a2 P.js.length c2) (.slice a3 P.ss.length c3) (.slice a4 P.ls.length c4)
  obtain ⟨wb, hwb⟩ : ∃ wb, wb = bxW w P (.slice a1 P.es.length c1) (.slice a2 P.js.length c2) (.slice a3 P.ss.length c3) (.slice a4 P.ls.length c4) := ⟨_, rfl⟩
  rw [← hwb] at HB hw0
  unfold plnV
  have HWB := Lib.hid hwb
  have HKK := Lib.hid hk
  have HLL := Lib.hid hl
  clear h1 h2 h3 h4 hwb hk hl hPz
  by_cases hlong : 40 < P.es.length ∨ 24 < P.ss.length ∨ 4 < P.ls.length ∨ 80 < P.js.length
  · have HC := Lib.hid (chk_long hlong)
    have hcs : (40 < (P.es.length : Int)) ∨ (¬ 40 < (P.es.length : Int) ∧ 24 < (P.ss.length : Int)) ∨ (¬ 40 < (P.es.length : Int) ∧ ¬ 24 < (P.ss.length : Int) ∧ 4 < (P.ls.length : Int)) ∨ (¬ 40 < (P.es.length : Int) ∧ ¬ 24 < (P.ss.length : Int) ∧ ¬ 4 < (P.ls.length : Int) ∧ 80 < (P.js.length : Int)) := by omega
    clear hlong
    rcases hcs with l1 | ⟨l1, l2⟩ | ⟨l1, l2, l3⟩ | ⟨l1, l2, l3, l4⟩
    all_goals
      go_enter Tryz.func29, Tryz.ntmps29
      go_wp2
      go_ret
      exact ⟨ret_int HC.out.symm, (Gr.refl _).alloc _⟩
  have HC := Lib.hid (chk_rest hlong)
  obtain ⟨l1, l2, l3, l4⟩ : ¬ 40 < (P.es.length : Int) ∧ ¬ 24 < (P.ss.length : Int) ∧ ¬ 4 < (P.ls.length : Int) ∧ ¬ 80 < (P.js.length : Int) := by omega
  clear hlong
  go_enter Tryz.func29, Tryz.ntmps29
  go_wp2_with (fail)
  rw [show (w.alloc (.cells #[.slice a1 P.es.length c1, .slice a2 P.js.length c2, .slice a3 P.ss.length c3, .slice a4 P.ls.length c4, .int .i64 P.top, .int .i64 P.brake, .int .i64 P.margin, .int .i64 P.throw, .bool P.hard] 27)) = wb from HWB.out.symm]
  clear HWB
  have HNM := Lib.hid (fun (v' : Value) (w' : World) (h : IsPln w' v' P) => refNames_any v' P w' h (by omega) (by omega) (by omega))
  have HAR := Lib.hid (fun (v' : Value) (w' : World) (h : IsPln w' v' P) => refArgs_any v' P w' h HKK.out)
  have HTA := Lib.hid (fun (v' : Value) (w' : World) (h : IsVals w' v' ((P.es.map (·.n)).map Value.string)) => refTwice_any v' _ w' h)
  have HTB := Lib.hid (fun (v' : Value) (w' : World) (h : IsVals w' v' ((P.ss.map (·.n)).map Value.string)) => refTwice_any v' _ w' h)
  have HTC := Lib.hid (fun (v' : Value) (w' : World) (h : IsVals w' v' ((P.ls.map (·.n)).map Value.string)) => refTwice_any v' _ w' h)
  have HJO := Lib.hid (fun (v' : Value) (w' : World) (h : IsPln w' v' P) => refJoined_any v' P w' h (by omega))
  have HSI := Lib.hid (fun (v' : Value) (w' : World) (h : IsPln w' v' P) => refSignals_any v' P w' h (by omega))
  have HLN : Hid (joinedB P = true → ∀ (v' : Value) (w' : World) (h : IsPln w' v' P), Calls Tryz.prog 66 #[v'] w' fun e w'' => e = .returned (.bool (linesB P)) ∧ Gr w' w'') := fun hj v' w' h => refLines_any6 v' P w' h (joined_ports hj).2 HLL.out (by omega)
  have HLG : Hid (argsB P = true → ∀ (v' : Value) (w' : World) (h : IsPln w' v' P), Calls Tryz.prog 67 #[v'] w' fun e w'' => e = .returned (.bool (longB P)) ∧ Gr w' w'') := fun ha v' w' h => refLong_any v' P w' h (by have := args_nums ha; omega) (by have := args_nums ha; omega)
  generalize argsB P = ab at *
  generalize twiceB (P.es.map (·.n)) = ta at *
  generalize twiceB (P.ss.map (·.n)) = tb at *
  generalize twiceB (P.ls.map (·.n)) = tc at *
  generalize joinedB P = jb at *
  generalize signalsB P = sb at *
  generalize linesB P = lb at *
  generalize longB P = gb at *
  have hz : Gr wb wb := Gr.refl _
  refine (HNM.out _ _ (HPv.out _ hw0)).mono ?_
  rintro e w5 ⟨va, vb, vc, rfl, n1, n2, n3, h5⟩
  have NA := Lib.hid n1
  have NB := Lib.hid n2
  have NC := Lib.hid n3
  replace hz := hz.trans h5
  have hy : Gr w5 w5 := Gr.refl _
  obtain ⟨zb5, d05, d15, d25, d35, d45, d55, d65, d75, d85⟩ := HB.out.gr hz
  clear n1 n2 n3
  cases ab
  · go_wp2_with (first | (go_at_call 62; (with_reducible refine (HAR.out _ _ (HPv.out _ (hw0.trans hz))).mono ?_); rintro e w11 ⟨rfl, h11⟩; replace hz := hz.trans h11; replace hy := hy.trans h11; obtain ⟨zb11, d011, d111, d211, d311, d411, d511, d611, d711, d811⟩ := HB.out.gr hz) | fail)
    (go_ret; exact ⟨ret_int (by rw [HC.out]; rfl), hw0.trans hz⟩)
  go_wp2_with (first | (go_at_call 62; (with_reducible refine (HAR.out _ _ (HPv.out _ (hw0.trans hz))).mono ?_); rintro e w11 ⟨rfl, h11⟩; replace hz := hz.trans h11; replace hy := hy.trans h11; obtain ⟨zb11, d011, d111, d211, d311, d411, d511, d611, d711, d811⟩ := HB.out.gr hz) | fail)
  cases ta
  case true => (go_wp2_with (first | (go_at_call 63; first | ((with_reducible refine (HTA.out _ _ (NA.out.gr hy)).mono ?_); rintro e w21 ⟨rfl, h21⟩; replace hz := hz.trans h21; replace hy := hy.trans h21; obtain ⟨zb21, d021, d121, d221, d321, d421, d521, d621, d721, d821⟩ := HB.out.gr hz) | ((with_reducible refine (HTB.out _ _ (NB.out.gr hy)).mono ?_); rintro e w22 ⟨rfl, h22⟩; replace hz := hz.trans h22; replace hy := hy.trans h22; obtain ⟨zb22, d022, d122, d222, d322, d422, d522, d622, d722, d822⟩ := HB.out.gr hz) | ((with_reducible refine (HTC.out _ _ (NC.out.gr hy)).mono ?_); rintro e w23 ⟨rfl, h23⟩; replace hz := hz.trans h23; replace hy := hy.trans h23; obtain ⟨zb23, d023, d123, d223, d323, d423, d523, d623, d723, d823⟩ := HB.out.gr hz)) | fail)); (go_ret; exact ⟨ret_int (by rw [HC.out]; rfl), hw0.trans hz⟩)
  cases tb
  case true => (go_wp2_with (first | (go_at_call 63; first | ((with_reducible refine (HTA.out _ _ (NA.out.gr hy)).mono ?_); rintro e w21 ⟨rfl, h21⟩; replace hz := hz.trans h21; replace hy := hy.trans h21; obtain ⟨zb21, d021, d121, d221, d321, d421, d521, d621, d721, d821⟩ := HB.out.gr hz) | ((with_reducible refine (HTB.out _ _ (NB.out.gr hy)).mono ?_); rintro e w22 ⟨rfl, h22⟩; replace hz := hz.trans h22; replace hy := hy.trans h22; obtain ⟨zb22, d022, d122, d222, d322, d422, d522, d622, d722, d822⟩ := HB.out.gr hz) | ((with_reducible refine (HTC.out _ _ (NC.out.gr hy)).mono ?_); rintro e w23 ⟨rfl, h23⟩; replace hz := hz.trans h23; replace hy := hy.trans h23; obtain ⟨zb23, d023, d123, d223, d323, d423, d523, d623, d723, d823⟩ := HB.out.gr hz)) | fail)); (go_ret; exact ⟨ret_int (by rw [HC.out]; rfl), hw0.trans hz⟩)
  cases tc
  case true => (go_wp2_with (first | (go_at_call 63; first | ((with_reducible refine (HTA.out _ _ (NA.out.gr hy)).mono ?_); rintro e w21 ⟨rfl, h21⟩; replace hz := hz.trans h21; replace hy := hy.trans h21; obtain ⟨zb21, d021, d121, d221, d321, d421, d521, d621, d721, d821⟩ := HB.out.gr hz) | ((with_reducible refine (HTB.out _ _ (NB.out.gr hy)).mono ?_); rintro e w22 ⟨rfl, h22⟩; replace hz := hz.trans h22; replace hy := hy.trans h22; obtain ⟨zb22, d022, d122, d222, d322, d422, d522, d622, d722, d822⟩ := HB.out.gr hz) | ((with_reducible refine (HTC.out _ _ (NC.out.gr hy)).mono ?_); rintro e w23 ⟨rfl, h23⟩; replace hz := hz.trans h23; replace hy := hy.trans h23; obtain ⟨zb23, d023, d123, d223, d323, d423, d523, d623, d723, d823⟩ := HB.out.gr hz)) | fail)); (go_ret; exact ⟨ret_int (by rw [HC.out]; rfl), hw0.trans hz⟩)
  go_wp2_with (first | (go_at_call 63; first | ((with_reducible refine (HTA.out _ _ (NA.out.gr hy)).mono ?_); rintro e w21 ⟨rfl, h21⟩; replace hz := hz.trans h21; replace hy := hy.trans h21; obtain ⟨zb21, d021, d121, d221, d321, d421, d521, d621, d721, d821⟩ := HB.out.gr hz) | ((with_reducible refine (HTB.out _ _ (NB.out.gr hy)).mono ?_); rintro e w22 ⟨rfl, h22⟩; replace hz := hz.trans h22; replace hy := hy.trans h22; obtain ⟨zb22, d022, d122, d222, d322, d422, d522, d622, d722, d822⟩ := HB.out.gr hz) | ((with_reducible refine (HTC.out _ _ (NC.out.gr hy)).mono ?_); rintro e w23 ⟨rfl, h23⟩; replace hz := hz.trans h23; replace hy := hy.trans h23; obtain ⟨zb23, d023, d123, d223, d323, d423, d523, d623, d723, d823⟩ := HB.out.gr hz)) | fail)
  cases jb
  · go_wp2_with (first | (go_at_call 64; (with_reducible refine (HJO.out _ _ (HPv.out _ (hw0.trans hz))).mono ?_); rintro e w12 ⟨rfl, h12⟩; replace hz := hz.trans h12; replace hy := hy.trans h12; obtain ⟨zb12, d012, d112, d212, d312, d412, d512, d612, d712, d812⟩ := HB.out.gr hz) | fail)
    (go_ret; exact ⟨ret_int (by rw [HC.out]; rfl), hw0.trans hz⟩)
  have HLN2 := Lib.hid (HLN.out (by trivial))
  have HLG2 := Lib.hid (HLG.out (by trivial))
  go_wp2_with (first | (go_at_call 64; (with_reducible refine (HJO.out _ _ (HPv.out _ (hw0.trans hz))).mono ?_); rintro e w12 ⟨rfl, h12⟩; replace hz := hz.trans h12; replace hy := hy.trans h12; obtain ⟨zb12, d012, d112, d212, d312, d412, d512, d612, d712, d812⟩ := HB.out.gr hz) | fail)
  cases sb
  · go_wp2_with (first | (go_at_call 65; (with_reducible refine (HSI.out _ _ (HPv.out _ (hw0.trans hz))).mono ?_); rintro e w13 ⟨rfl, h13⟩; replace hz := hz.trans h13; replace hy := hy.trans h13; obtain ⟨zb13, d013, d113, d213, d313, d413, d513, d613, d713, d813⟩ := HB.out.gr hz) | fail)
    (go_ret; exact ⟨ret_int (by rw [HC.out]; rfl), hw0.trans hz⟩)
  go_wp2_with (first | (go_at_call 65; (with_reducible refine (HSI.out _ _ (HPv.out _ (hw0.trans hz))).mono ?_); rintro e w13 ⟨rfl, h13⟩; replace hz := hz.trans h13; replace hy := hy.trans h13; obtain ⟨zb13, d013, d113, d213, d313, d413, d513, d613, d713, d813⟩ := HB.out.gr hz) | fail)
  cases lb
  · go_wp2_with (first | (go_at_call 66; (with_reducible refine (HLN2.out _ _ (HPv.out _ (hw0.trans hz))).mono ?_); rintro e w14 ⟨rfl, h14⟩; replace hz := hz.trans h14; replace hy := hy.trans h14; obtain ⟨zb14, d014, d114, d214, d314, d414, d514, d614, d714, d814⟩ := HB.out.gr hz) | fail)
    (go_ret; exact ⟨ret_int (by rw [HC.out]; rfl), hw0.trans hz⟩)
  go_wp2_with (first | (go_at_call 66; (with_reducible refine (HLN2.out _ _ (HPv.out _ (hw0.trans hz))).mono ?_); rintro e w14 ⟨rfl, h14⟩; replace hz := hz.trans h14; replace hy := hy.trans h14; obtain ⟨zb14, d014, d114, d214, d314, d414, d514, d614, d714, d814⟩ := HB.out.gr hz) | fail)
  cases gb
  · go_wp2_with (first | (go_at_call 67; (with_reducible refine (HLG2.out _ _ (HPv.out _ (hw0.trans hz))).mono ?_); rintro e w15 ⟨rfl, h15⟩; replace hz := hz.trans h15; replace hy := hy.trans h15; obtain ⟨zb15, d015, d115, d215, d315, d415, d515, d615, d715, d815⟩ := HB.out.gr hz) | fail)
    (go_ret; exact ⟨ret_int (by rw [HC.out]; rfl), hw0.trans hz⟩)
  go_wp2_with (first | (go_at_call 67; (with_reducible refine (HLG2.out _ _ (HPv.out _ (hw0.trans hz))).mono ?_); rintro e w15 ⟨rfl, h15⟩; replace hz := hz.trans h15; replace hy := hy.trans h15; obtain ⟨zb15, d015, d115, d215, d315, d415, d515, d615, d715, d815⟩ := HB.out.gr hz) | fail)
  (go_ret; exact ⟨ret_int (by rw [HC.out]; rfl), hw0.trans hz⟩)
end Go.Proofs.YtgjnlgcdpbilfaaGreatDoor
namespace Go.Proofs.YtgjnlgcdpbilfaaGreatDoor
open Go.ChangeShapes Go.WideShapes Go.ChangeAt Go.RowKit
set_option linter.unusedVariables false
set_option linter.unusedSimpArgs false
def fewL (l : Ln) : Bool := decide (l.es.length ≤ 60) && decide (l.n.size ≤ 100)
def fewB (P : Pln) : Bool := (decide (P.es.length ≤ 60) && decide (P.js.length ≤ 120) && decide (P.ss.length ≤ 60) && decide (P.ls.length ≤ 20)) && P.ls.all fewL && P.es.all (fun e => decide (e.n.size ≤ 100)) && P.ss.all (fun s => decide (s.n.size ≤ 100))
theorem fewB_num {P : Pln} (h : 60 < P.es.length ∨ 120 < P.js.length ∨ 60 < P.ss.length ∨ 20 < P.ls.length) : fewB P = false := by
  unfold fewB
  have : (decide (P.es.length ≤ 60) && decide (P.js.length ≤ 120) && decide (P.ss.length ≤ 60) && decide (P.ls.length ≤ 20)) = false := by
    simp; omega
  rw [this]; rfl
theorem fewB_ls {P : Pln} {k : Nat} (hk : k < P.ls.length) (h : fewL P.ls[k] = false) : fewB P = false := by unfold fewB; rw [all_false_of _ _ k hk h]; simp
theorem fewB_es {P : Pln} {k : Nat} (hk : k < P.es.length) (h : 100 < P.es[k].n.size) : fewB P = false := by
  unfold fewB; rw [all_false_of P.es (fun e => decide (e.n.size ≤ 100)) k hk (by simpa using h)]; simp
theorem fewB_ss {P : Pln} {k : Nat} (hk : k < P.ss.length) (h : 100 < P.ss[k].n.size) : fewB P = false := by
  unfold fewB; rw [all_false_of P.ss (fun e => decide (e.n.size ≤ 100)) k hk (by simpa using h)]; simp
theorem fewB_yes {P : Pln} (h0 : P.es.length ≤ 60 ∧ P.js.length ≤ 120 ∧ P.ss.length ≤ 60 ∧ P.ls.length ≤ 20) (h1 : ∀ k (hk : k < P.ls.length), fewL P.ls[k] = true) (h2 : ∀ k (hk : k < P.es.length), P.es[k].n.size ≤ 100) (h3 : ∀ k (hk : k < P.ss.length), P.ss[k].n.size ≤ 100) : fewB P = true := by
  unfold fewB
  rw [all_true_of _ _ h1, all_true_of P.es (fun e => decide (e.n.size ≤ 100)) (fun k hk => by simpa using h2 k hk), all_true_of P.ss (fun e => decide (e.n.size ≤ 100)) (fun k hk => by simpa using h3 k hk)]
  simp [h0]
theorem few_bd {P : Pln} (h : fewB P = true) : P.es.length ≤ 60 ∧ P.js.length ≤ 120 ∧ P.ss.length ≤ 60 ∧ P.ls.length ≤ 20 ∧ (∀ l ∈ P.ls, l.es.length ≤ 60 ∧ l.n.size ≤ 100) ∧ (∀ e ∈ P.es, e.n.size ≤ 100) ∧ (∀ s ∈ P.ss, s.n.size ≤ 100) := by
  unfold fewB at h
  simp only [Bool.and_eq_true, decide_eq_true_eq, List.all_eq_true] at h
  refine ⟨h.1.1.1.1.1.1, h.1.1.1.1.1.2, h.1.1.1.1.2, h.1.1.1.2, fun l hl => ?_, h.1.2, h.2⟩
  have := h.1.1.2 l hl
  unfold fewL at this
  simpa using this
theorem flat_len_le : ∀ (l : List Ln) (n : Nat), (∀ x ∈ l, x.es.length ≤ n) → (l.flatMap (·.es)).length ≤ l.length * n
  | [], _, _ => by simp
  | x :: t, n, h => by
    have h1 := h x (by simp)
    have h2 := flat_len_le t n fun y hy => h y (by simp [hy])
    rw [List.flatMap_cons, List.length_append, List.length_cons, Nat.succ_mul]
    omega
theorem few_flat {P : Pln} (h : fewB P = true) : (P.ls.flatMap (·.es)).length ≤ 1200 := by
  obtain ⟨-, -, -, h4, h5, -, -⟩ := few_bd h
  have := flat_len_le P.ls 60 fun x hx => (h5 x hx).1
  have h6 : P.ls.length * 60 ≤ 20 * 60 := Nat.mul_le_mul_right 60 h4
  omega
set_option maxRecDepth 100000 in
set_option maxHeartbeats 1000000 in
theorem few_any (v : Value) (P : Pln) (w : World) (hP : IsPln w v P) :
    Calls Tryz.prog 28 #[v] w fun e w' => e = .returned (.bool (fewB P)) ∧ Gr w w' := by
  obtain ⟨a1, c1, a2, c2, a3, c3, a4, c4, rfl, h1, h2, h3, h4⟩ := hP
  have m1 := IsRow.len h1
  have m2 := IsRow.len h2
  have m3 := IsRow.len h3
  have m4 : P.ls.length ≤ maxLen := by obtain ⟨S, hS, -⟩ := h4; exact IsRow.len hS
  unfold maxLen at m1 m2 m3 m4
  have H1 := Lib.hid h1
  have H3 := Lib.hid h3
  have H4 := Lib.hid h4
  have HB := Lib.hid (bxW_box w P (.slice a1 P.es.length c1) (.slice a2 P.js.length c2) (.slice a3 P.ss.length c3) (.slice a4 P.ls.length c4))
  have hw0 := bxW_gr w P (.slice a1 P.es.length c1) (.slice a2 P.js.length c2) (.slice a3 P.ss.length c3) (.slice a4 P.ls.length c4)
  obtain ⟨wb, hwb⟩ : ∃ wb, wb = bxW w P (.slice a1 P.es.length c1) (.slice a2 P.js.length c2) (.slice a3 P.ss.length c3) (.slice a4 P.ls.length c4) := ⟨_, rfl⟩
  rw [← hwb] at HB hw0
  unfold plnV
  have HWB := Lib.hid hwb
  have HYES := Lib.hid (@fewB_yes P)
  clear h1 h2 h3 h4 hwb
  by_cases hlong : 60 < P.es.length ∨ 120 < P.js.length ∨ 60 < P.ss.length ∨ 20 < P.ls.length
  · have HC := Lib.hid (fewB_num hlong)
    have hcs : (60 < (P.es.length : Int)) ∨ (¬ 60 < (P.es.length : Int) ∧ 120 < (P.js.length : Int)) ∨ (¬ 60 < (P.es.length : Int) ∧ ¬ 120 < (P.js.length : Int) ∧ 60 < (P.ss.length : Int)) ∨ (¬ 60 < (P.es.length : Int) ∧ ¬ 120 < (P.js.length : Int) ∧ ¬ 60 < (P.ss.length : Int) ∧ 20 < (P.ls.length : Int)) := by omega
    clear hlong
    rcases hcs with l1 | ⟨l1, l2⟩ | ⟨l1, l2, l3⟩ | ⟨l1, l2, l3, l4⟩
    all_goals
      go_enter Tryz.func28, Tryz.ntmps28
      go_wp2
      go_ret
      exact ⟨ret_bool HC.out.symm, (Gr.refl _).alloc _⟩
  have HL0 : Hid (P.es.length ≤ 60 ∧ P.js.length ≤ 120 ∧ P.ss.length ≤ 60 ∧ P.ls.length ≤ 20) := by unfold Hid; omega
  obtain ⟨l1, l2, l3, l4⟩ : ¬ 60 < (P.es.length : Int) ∧ ¬ 120 < (P.js.length : Int) ∧ ¬ 60 < (P.ss.length : Int) ∧ ¬ 20 < (P.ls.length : Int) := by omega
  clear hlong
  go_enter Tryz.func28, Tryz.ntmps28
  go_wp2_with fail
  rw [show (w.alloc (.cells #[.slice a1 P.es.length c1, .slice a2 P.js.length c2, .slice a3 P.ss.length c3, .slice a4 P.ls.length c4, .int .i64 P.top, .int .i64 P.brake, .int .i64 P.margin, .int .i64 P.throw, .bool P.hard] 27)) = wb from HWB.out.symm]
  clear l1 l2 l3 l4
  have hbo := HB.out
  obtain ⟨zb, b0, b1, b2, b3, b4, b5, b6, b7, b8⟩ := hbo
  go_loopw [3] (fun i wr => ∃ k : Nat, i = .int .i64 k ∧ k ≤ P.ls.length ∧ wb = wr ∧ Hid (∀ j (hj : j < P.ls.length), j < k → fewL P.ls[j] = true)) (fun i _ => P.ls.length - (intOf i).toNat)
  case atStart => exact ⟨0, rfl, Nat.zero_le _, rfl, fun j _ h => by omega⟩
  case round =>
    obtain ⟨k, rfl, hk, rfl, HA⟩ := hrel
    by_cases hlt : k < P.ls.length
    · obtain ⟨b, o, u, hsome, zs, y0, y1, hu⟩ := (H4.out.gr hw0).at k hlt
      subst hsome
      obtain ⟨au, cu, rfl, -, -⟩ := hu
      simp only [List.length_map] at y1
      have hk1 : (k : Int) < (P.ls.length : Int) := by omega
      have HNO := Lib.hid (@fewB_ls P k hlt)
      have HA' : Hid (fewL P.ls[k] = true → ∀ j (hj : j < P.ls.length), j < k + 1 → fewL P.ls[j] = true) := by
        intro h j hj hjk
        by_cases e : j = k
        · subst e; exact h
        · exact HA.out j hj (by omega)
      have HF : Hid (fewL P.ls[k] = (decide (P.ls[k].es.length ≤ 60) && decide (P.ls[k].n.size ≤ 100))) := rfl
      clear HA
      generalize P.ls[k] = q at *
      obtain ⟨ln, le⟩ := q
      dsimp only at HF y0 y1
      by_cases q1 : 60 < le.length
      · have HR := Lib.hid (HNO.out (by rw [HF.out, decide_eq_false (by omega : ¬ le.length ≤ 60)]; rfl))
        have t1 : 60 < (le.length : Int) := by omega
        go_wp2
        go_ret
        exact ⟨ret_bool HR.out.symm, hw0⟩
      have t1 : ¬ 60 < (le.length : Int) := by omega
      by_cases q2 : 100 < ln.size
      · have HR := Lib.hid (HNO.out (by rw [HF.out, decide_eq_false (by omega : ¬ ln.size ≤ 100)]; simp))
        have t2 : 100 < (ln.size : Int) := by omega
        go_wp2
        go_ret
        exact ⟨ret_bool HR.out.symm, hw0⟩
      · have HG := Lib.hid (HA'.out (by rw [HF.out, decide_eq_true (by omega : ln.size ≤ 100), decide_eq_true (by omega : le.length ≤ 60)]; rfl))
        have t2 : ¬ 100 < (ln.size : Int) := by omega
        go_wp2
        go_roundw
        case rel => exact ⟨k + 1, by go_num, by omega, by trivial, HG.out⟩
        case measure => simp [intOf]; omega
    · have HY1 : Hid ((∀ k (hk : k < P.es.length), P.es[k].n.size ≤ 100) → (∀ k (hk : k < P.ss.length), P.ss[k].n.size ≤ 100) → fewB P = true) := fun h2 h3 => HYES.out HL0.out (fun j hj => HA.out j hj (by omega)) h2 h3
      clear HA HYES
      go_wp2_with fail
      go_loopw [4] (fun i wr => ∃ k : Nat, i = .int .i64 k ∧ k ≤ P.es.length ∧ wb = wr ∧ Hid (∀ j (hj : j < P.es.length), j < k → P.es[j].n.size ≤ 100)) (fun i _ => P.es.length - (intOf i).toNat)
      case atStart => exact ⟨0, rfl, Nat.zero_le _, rfl, fun j _ h => by omega⟩
      case round =>
        clear hlt hk
        obtain ⟨k, rfl, hk, rfl, HA⟩ := hrel
        by_cases hlt : k < P.es.length
        · obtain ⟨b, o, hsome, zs, y0, -, -⟩ := (H1.out.gr hw0).at k hlt
          subst hsome
          have hk1 : (k : Int) < (P.es.length : Int) := by omega
          have HNO := Lib.hid (@fewB_es P k hlt)
          have HA' : Hid (P.es[k].n.size ≤ 100 → ∀ j (hj : j < P.es.length), j < k + 1 → P.es[j].n.size ≤ 100) := by
            intro h j hj hjk
            by_cases e : j = k
            · subst e; exact h
            · exact HA.out j hj (by omega)
          clear HA
          generalize P.es[k].n = ln at *
          by_cases q2 : 100 < ln.size
          · have HR := Lib.hid (HNO.out q2)
            have t2 : 100 < (ln.size : Int) := by omega
            go_wp2
            go_ret
            exact ⟨ret_bool HR.out.symm, hw0⟩
          · have HG := Lib.hid (HA'.out (by omega))
            have t2 : ¬ 100 < (ln.size : Int) := by omega
            go_wp2
            go_roundw
            case rel => exact ⟨k + 1, by go_num, by omega, by trivial, HG.out⟩
            case measure => simp [intOf]; omega
        · have HY2 : Hid ((∀ k (hk : k < P.ss.length), P.ss[k].n.size ≤ 100) → fewB P = true) := fun h3 => HY1.out (fun j hj => HA.out j hj (by omega)) h3
          clear HA HY1
          go_wp2_with fail
          go_loopw [5] (fun i wr => ∃ k : Nat, i = .int .i64 k ∧ k ≤ P.ss.length ∧ wb = wr ∧ Hid (∀ j (hj : j < P.ss.length), j < k → P.ss[j].n.size ≤ 100)) (fun i _ => P.ss.length - (intOf i).toNat)
          case atStart => exact ⟨0, rfl, Nat.zero_le _, rfl, fun j _ h => by omega⟩
          case round =>
            clear hlt hk
            obtain ⟨k, rfl, hk, rfl, HA⟩ := hrel
            by_cases hlt : k < P.ss.length
            · obtain ⟨b, o, hsome, zs, y0, -, -, -⟩ := (H3.out.gr hw0).at k hlt
              subst hsome
              have hk1 : (k : Int) < (P.ss.length : Int) := by omega
              have HNO := Lib.hid (@fewB_ss P k hlt)
              have HA' : Hid (P.ss[k].n.size ≤ 100 → ∀ j (hj : j < P.ss.length), j < k + 1 → P.ss[j].n.size ≤ 100) := by
                intro h j hj hjk
                by_cases e : j = k
                · subst e; exact h
                · exact HA.out j hj (by omega)
              clear HA
              generalize P.ss[k].n = ln at *
              by_cases q2 : 100 < ln.size
              · have HR := Lib.hid (HNO.out q2)
                have t2 : 100 < (ln.size : Int) := by omega
                go_wp2
                go_ret
                exact ⟨ret_bool HR.out.symm, hw0⟩
              · have HG := Lib.hid (HA'.out (by omega))
                have t2 : ¬ 100 < (ln.size : Int) := by omega
                go_wp2
                go_roundw
                case rel => exact ⟨k + 1, by go_num, by omega, by trivial, HG.out⟩
                case measure => simp [intOf]; omega
            · have HR := Lib.hid (HY2.out fun j hj => HA.out j hj (by omega))
              clear HA
              go_wp2
              go_ret
              exact ⟨ret_bool HR.out.symm, hw0⟩
def fineB (P : Pln) : Bool := fewB P && decide (chk P = 0)
set_option maxRecDepth 100000 in
theorem fine_any (v : Value) (P : Pln) (w : World) (hP : IsPln w v P) (hk : PlnOk P) :
    Calls Tryz.prog 11 #[v] w fun e w' => e = .returned (.bool (fineB P)) ∧ Gr w w' := by
  obtain ⟨a1, c1, a2, c2, a3, c3, a4, c4, rfl, h1, h2, h3, h4⟩ := hP
  have HPv := Lib.hid (fun (w' : World) (g : Gr w w') => IsPln.mk (w' := w') h1 h2 h3 h4 g)
  have HB := Lib.hid (bxW_box w P (.slice a1 P.es.length c1) (.slice a2 P.js.length c2) (.slice a3 P.ss.length c3) (.slice a4 P.ls.length c4))
  have hw0 := bxW_gr w P (.slice a1 P.es.length c1) (.slice a2 P.js.length c2) (.slice a3 P.ss.length c3) (.slice a4 P.ls.length c4)
  have HFW := Lib.hid (fun (v' : Value) (w' : World) (h : IsPln w' v' P) => few_any v' P w' h)
  have HCK : Hid (fewB P = true → ∀ (v' : Value) (w' : World), IsPln w' v' P → Calls Tryz.prog 29 #[v'] w' fun e w'' => e = .returned (.int .i64 (chk P)) ∧ Gr w' w'') := fun hf v' w' h => refCheck_any v' P w' h hk (by have := few_flat hf; omega)
  have HFB : Hid (fineB P = (fewB P && decide (chk P = 0))) := rfl
  unfold plnV
  generalize fewB P = fb at *
  generalize chk P = ck at *
  clear h1 h2 h3 h4
  cases fb
  · go_enter Tryz.func11, Tryz.ntmps11
    go_wp2_with (go_at_call 28; refine (HFW.out _ _ (HPv.out _ hw0)).mono ?_; rintro e w5 ⟨rfl, h5⟩)
    go_ret
    exact ⟨ret_bool (by rw [HFB.out]; rfl), hw0.trans h5⟩
  · have HCK2 := Lib.hid (HCK.out rfl)
    by_cases hck : ck = 0
    · have t1 := beqT hck
      have HR : Hid (fineB P = true) := by unfold Hid; rw [HFB.out, decide_eq_true hck]; rfl
      clear hck
      go_enter Tryz.func11, Tryz.ntmps11
      go_wp2_with (first | (go_at_call 28; refine (HFW.out _ _ (HPv.out _ hw0)).mono ?_; rintro e w5 ⟨rfl, h5⟩; obtain ⟨zb5, d05, d15, d25, d35, d45, d55, d65, d75, d85⟩ := HB.out.gr h5) | (go_at_call 29; refine (HCK2.out _ _ (HPv.out _ (hw0.trans h5))).mono ?_; rintro e w6 ⟨rfl, h6⟩))
      go_ret
      exact ⟨ret_bool HR.out.symm, (hw0.trans h5).trans h6⟩
    · have t1 := beqF hck
      have HR : Hid (fineB P = false) := by unfold Hid; rw [HFB.out, decide_eq_false hck]; rfl
      clear hck
      go_enter Tryz.func11, Tryz.ntmps11
      go_wp2_with (first | (go_at_call 28; refine (HFW.out _ _ (HPv.out _ hw0)).mono ?_; rintro e w5 ⟨rfl, h5⟩; obtain ⟨zb5, d05, d15, d25, d35, d45, d55, d65, d75, d85⟩ := HB.out.gr h5) | (go_at_call 29; refine (HCK2.out _ _ (HPv.out _ (hw0.trans h5))).mono ?_; rintro e w6 ⟨rfl, h6⟩))
      go_ret
      exact ⟨ret_bool HR.out.symm, (hw0.trans h5).trans h6⟩
end Go.Proofs.YtgjnlgcdpbilfaaGreatDoor
namespace Go.Proofs.YtgjnlgcdpbilfaaGreatDoor
open Go.ChangeShapes Go.WideShapes Go.ChangeAt Go.RowKit Go.Maps
set_option linter.unusedVariables false
theorem i64_wrap (x : Int) : I64 (IntKind.i64.wrap x) := wf_wrap _ _
end Go.Proofs.YtgjnlgcdpbilfaaGreatDoor
namespace Go.Proofs.YtgjnlgcdpbilfaaGreatDoor
open Go.ChangeShapes Go.WideShapes Go.ChangeAt Go.RowKit Go.Maps
set_option linter.unusedVariables false
set_option linter.unusedSimpArgs false
end Go.Proofs.YtgjnlgcdpbilfaaGreatDoor
namespace Go.Proofs.YtgjnlgcdpbilfaaGreatDoor
open Go.ChangeShapes Go.WideShapes Go.ChangeAt Go.RowKit Go.Maps
set_option linter.unusedVariables false
set_option linter.unusedSimpArgs false
end Go.Proofs.YtgjnlgcdpbilfaaGreatDoor
namespace Go.Proofs.YtgjnlgcdpbilfaaGreatDoor
open Go.ChangeShapes Go.WideShapes Go.ChangeAt Go.RowKit Go.Maps
set_option linter.unusedVariables false
set_option linter.unusedSimpArgs false
end Go.Proofs.YtgjnlgcdpbilfaaGreatDoor
namespace Go.Proofs.YtgjnlgcdpbilfaaGreatDoor
open Go.ChangeShapes Go.WideShapes Go.ChangeAt Go.RowKit Go.Maps
set_option linter.unusedVariables false
set_option linter.unusedSimpArgs false
end Go.Proofs.YtgjnlgcdpbilfaaGreatDoor
namespace Go.Proofs.YtgjnlgcdpbilfaaGreatDoor
open Go.ChangeShapes Go.WideShapes Go.ChangeAt Go.RowKit Go.Maps
set_option linter.unusedVariables false
set_option linter.unusedSimpArgs false
end Go.Proofs.YtgjnlgcdpbilfaaGreatDoor
namespace Go.Proofs.YtgjnlgcdpbilfaaGreatDoor
open Go.ChangeShapes Go.WideShapes Go.ChangeAt Go.RowKit Go.Maps
set_option linter.unusedVariables false
set_option linter.unusedSimpArgs false
structure Bdy where
  mode : Int
  trail : List Prt
  left : Int
  over : Int
  v : Int
def bdyV (B : Bdy) (t : Value) : Value := .agg #[.int .i64 B.mode, t, .int .i64 B.left, .int .i64 B.over, .int .i64 B.v]
def IsBdy (w : World) (v : Value) (B : Bdy) : Prop := ∃ a c, v = bdyV B (.slice a B.trail.length c) ∧ IsPrts w (.slice a B.trail.length c) B.trail
theorem IsBdy.gr {w w' : World} {v : Value} {B : Bdy} (h : IsBdy w v B) (g : Gr w w') : IsBdy w' v B := by
  obtain ⟨a, c, rfl, h1⟩ := h
  exact ⟨a, c, rfl, h1.gr g⟩
end Go.Proofs.YtgjnlgcdpbilfaaGreatDoor
namespace Go.Proofs.YtgjnlgcdpbilfaaGreatDoor
open Go.ChangeShapes Go.WideShapes Go.ChangeAt Go.RowKit Go.Maps
set_option linter.unusedVariables false
set_option linter.unusedSimpArgs false
end Go.Proofs.YtgjnlgcdpbilfaaGreatDoor
namespace Go.Proofs.YtgjnlgcdpbilfaaGreatDoor
open Go.ChangeShapes Go.WideShapes Go.ChangeAt Go.RowKit Go.Maps
set_option linter.unusedVariables false
end Go.Proofs.YtgjnlgcdpbilfaaGreatDoor
namespace Go.Proofs.YtgjnlgcdpbilfaaGreatDoor
open Go.ChangeShapes Go.WideShapes Go.ChangeAt Go.RowKit Go.Maps
set_option linter.unusedVariables false
theorem I64_of {x : Int} (h0 : -9223372036854775808 ≤ x) (h1 : x ≤ 9223372036854775807) : I64 x := by
  rw [← IntWalk.i64_in x ⟨h0, h1⟩]; exact i64_wrap _
end Go.Proofs.YtgjnlgcdpbilfaaGreatDoor
namespace Go.Proofs.YtgjnlgcdpbilfaaGreatDoor
open Go.ChangeShapes Go.WideShapes Go.ChangeAt Go.RowKit Go.Maps
set_option linter.unusedVariables false
set_option linter.unusedSimpArgs false
instance : Inhabited Stk := ⟨⟨ByteArray.empty, 0, 0, 0, 0⟩⟩
def Stk.v (s : Stk) : Value := .agg #[.string s.nm, .int .i64 s.l, .int .i64 s.t, .int .i64 s.a, .int .i64 s.b]
def Stk.cs (s : Stk) : List Value := [.string s.nm, .int .i64 s.l, .int .i64 s.t, .int .i64 s.a, .int .i64 s.b]
def Stk.c (s : Stk) (j : Nat) : Value := if j = 0 then .string s.nm else if j = 1 then .int .i64 s.l else if j = 2 then .int .i64 s.t else if j = 3 then .int .i64 s.a else .int .i64 s.b
def IsStks (w : World) (v : Value) (l : List Stk) : Prop := IsRow w v 5 l.length (fun i j => (l.getD i default).c j) ∧ CapOk v
theorem IsStks.gr {w w' : World} {v : Value} {l : List Stk} (h : IsStks w v l) (g : Gr w w') : IsStks w' v l := ⟨IsRow.gr h.1 g, h.2⟩
theorem IsStks.form {w : World} {v : Value} {l : List Stk} (h : IsStks w v l) : ∃ a c, v = .slice a l.length c ∧ l.length ≤ maxLen ∧ l.length ≤ c := by
  obtain ⟨⟨a, c, rfl, hm, -⟩, hc⟩ := h
  exact ⟨a, c, rfl, hm, hc _ _ _ rfl⟩
theorem IsStks.at {w : World} {a : Option Addr} {c m : Nat} {l : List Stk} (h : IsStks w (.slice a m c) l) (i : Nat) (hi : i < l.length) :
    ∃ b o, a = some ⟨b, o, none⟩ ∧ b < w.heap.size ∧ w.cell? ⟨b, o + i * 5, none⟩ = some (.string l[i].nm) ∧ w.cell? ⟨b, o + i * 5 + 1, none⟩ = some (.int .i64 l[i].l) ∧ w.cell? ⟨b, o + i * 5 + 2, none⟩ = some (.int .i64 l[i].t) ∧ w.cell? ⟨b, o + i * 5 + 3, none⟩ = some (.int .i64 l[i].a) ∧ w.cell? ⟨b, o + i * 5 + 4, none⟩ = some (.int .i64 l[i].b) := by
  obtain ⟨b, o, rfl, hb, hc⟩ := IsRow.at h.1 i hi
  simp only [getD_at l i hi] at hc
  exact ⟨b, o, rfl, hb, hc 0 (by omega), hc 1 (by omega), hc 2 (by omega), hc 3 (by omega), hc 4 (by omega)⟩
theorem IsStks.nil (w : World) : IsStks w (.slice none 0 0) [] := ⟨⟨none, 0, rfl, by simp, .inl rfl⟩, fun a n c e => by cases e; omega⟩
def StkOk (s : Stk) : Prop := s.nm.size ≤ maxLen ∧ I64 s.l ∧ I64 s.t ∧ I64 s.a ∧ I64 s.b
def mayS (s : Stk) : Bool := mayB s.nm s.l s.t s.a s.b
def findN (l : List Stk) (n : ByteArray) : Int := fstN (fun s => decide (s.nm = n)) l
def plainE (l : List Stk) : Int := if 4 < l.length then 3 else if l.all mayS = false then 1 else if twiceB (l.map (·.nm)) then 4 else 0
theorem nodup_iff_lt {α : Type} : ∀ (l : List α), l.Nodup ↔ ∀ i k (hi : i < l.length) (hk : k < i), l[i] ≠ l[k]'(by omega)
  | l => by
    rw [List.nodup_iff_pairwise_ne, List.pairwise_iff_getElem]
    exact ⟨fun h i k hi hk e => h k i (by omega) hi hk e.symm, fun h i j hi hj hij e => h j i hj hij e.symm⟩
theorem twiceS_yes {l : List Stk} {i k : Nat} (hi : i < l.length) (hk : k < i) (h : l[k].nm = l[i].nm) : twiceB (l.map (·.nm)) = true := by
  unfold twiceB
  simp only [Bool.not_eq_true', decide_eq_false_iff_not]
  intro hn
  rw [nodup_iff_lt] at hn
  exact hn i k (by simpa using hi) hk (by simpa using h.symm)
theorem twiceS_no {l : List Stk} (h : ∀ i k (hi : i < l.length) (hk : k < i), l[k].nm ≠ l[i].nm) : twiceB (l.map (·.nm)) = false := by
  unfold twiceB
  simp only [Bool.not_eq_false', decide_eq_true_eq]
  rw [nodup_iff_lt]
  intro i k hi hk e
  exact h i k (by simpa using hi) hk (by simpa using e.symm)
theorem allS_bad {l : List Stk} {k : Nat} (hk : k < l.length) (h : mayS l[k] = false) : l.all mayS = false := by
  rw [List.all_eq_false]
  exact ⟨_, List.getElem_mem hk, by rw [h]; decide⟩
theorem allS_good {l : List Stk} (h : ∀ k (hk : k < l.length), mayS l[k] = true) : l.all mayS = true := by
  rw [List.all_eq_true]
  intro x hx
  obtain ⟨k, hk, rfl⟩ := List.getElem_of_mem hx
  exact h k hk
def shortS (top brake : Int) (s : Stk) : Bool := decide (top < s.t) || decide (s.b < brake)
def checkS (top brake : Int) (l : List Stk) : Int := if plainE l ≠ 0 then plainE l else if l.any (shortS top brake) then 9 else 0
theorem plain_ok {l : List Stk} (h : plainE l = 0) : l.length ≤ 4 ∧ (∀ s ∈ l, mayS s = true) ∧ twiceB (l.map (·.nm)) = false := by
  unfold plainE at h
  split at h
  · omega
  split at h
  · omega
  split at h
  · omega
  rename_i h1 h2 h3
  exact ⟨by omega, by simpa using h2, by simpa using h3⟩
def bStock : ByteArray := ⟨#[115, 116, 111, 99, 107]⟩
def wordsS (s : Stk) : List ByteArray := [bStock, s.nm, dgs s.l, dgs s.t, dgs s.a, dgs s.b]
def lineS (s : Stk) : ByteArray := jnW (wordsS s)
def printS : List Stk → ByteArray
  | [] => ⟨#[]⟩
  | s :: t => lineS s ++ ⟨#[10]⟩ ++ printS t
def rowS : List ByteArray → Option Stk
  | [a, b, c, d, e, f] => if a = bStock ∧ nmB b = true ∧ numB c 4 = true ∧ numB d 4 = true ∧ numB e 4 = true ∧ numB f 4 = true then some ⟨b, numN c 4, numN d 4, numN e 4, numN f 4⟩ else none
  | _ => none
end Go.Proofs.YtgjnlgcdpbilfaaGreatDoor
namespace Go.Proofs.YtgjnlgcdpbilfaaGreatDoor
open Go.ChangeShapes Go.WideShapes Go.ChangeAt Go.RowKit
set_option linter.unusedVariables false
set_option linter.unusedSimpArgs false

def twoB (x y : Int) : Bool := !(decide (x < 48) || decide (57 < x) || decide (y < 48) || decide (57 < y))
def twoN (x y : Int) : Int := if twoB x y then (x - 48) * 10 + (y - 48) else 0
def digT (n : Int) : ByteArray := ⟨#[UInt8.ofNat (48 + n / 10).toNat, UInt8.ofNat (48 + n % 10).toNat]⟩
def clkT (t : Int) : ByteArray := digT (t / 3600) ++ ⟨#[58]⟩ ++ digT (t / 60 % 60) ++ ⟨#[58]⟩ ++ digT (t % 60)
def clkB (s : ByteArray) : Bool :=
  decide (s.size = 8) && decide (bt s 2 = 58) && decide (bt s 5 = 58) && twoB (bt s 0) (bt s 1) && twoB (bt s 3) (bt s 4) && twoB (bt s 6) (bt s 7) &&
  decide (twoN (bt s 0) (bt s 1) ≤ 23) && decide (twoN (bt s 3) (bt s 4) ≤ 59) && decide (twoN (bt s 6) (bt s 7) ≤ 59)
def clkN (s : ByteArray) : Int := if clkB s then (twoN (bt s 0) (bt s 1) * 60 + twoN (bt s 3) (bt s 4)) * 60 + twoN (bt s 6) (bt s 7) else 0
def clkL (t : Int) : List UInt8 := [UInt8.ofNat (48 + t / 3600 / 10).toNat, UInt8.ofNat (48 + t / 3600 % 10).toNat, 58, UInt8.ofNat (48 + t / 60 % 60 / 10).toNat, UInt8.ofNat (48 + t / 60 % 60 % 10).toNat, 58, UInt8.ofNat (48 + t % 60 / 10).toNat, UInt8.ofNat (48 + t % 60 % 10).toNat]
theorem clkT_lit (t : Int) : clkT t = ⟨(clkL t).toArray⟩ := by
  apply ByteArray.ext
  simp [clkT, digT, clkL]
theorem clkT_size (t : Int) : (clkT t).size = 8 := by rw [clkT_lit]; rfl
theorem clk_byte (n : Int) (h : 0 ≤ n ∧ n ≤ 255) : ((UInt8.ofNat n.toNat).toNat : Int) = n := by
  simp; omega
theorem bt_clk (t : Int) (h0 : 0 ≤ t) (h1 : t < 86400) :
    bt (clkT t) 0 = 48 + t / 3600 / 10 ∧ bt (clkT t) 1 = 48 + t / 3600 % 10 ∧ bt (clkT t) 2 = 58 ∧ bt (clkT t) 3 = 48 + t / 60 % 60 / 10 ∧ bt (clkT t) 4 = 48 + t / 60 % 60 % 10 ∧ bt (clkT t) 5 = 58 ∧ bt (clkT t) 6 = 48 + t % 60 / 10 ∧ bt (clkT t) 7 = 48 + t % 60 % 10 := by
  rw [clkT_lit]
  refine ⟨?_, ?_, ?_, ?_, ?_, ?_, ?_, ?_⟩
  · exact clk_byte _ (by omega)
  · exact clk_byte _ (by omega)
  · rfl
  · exact clk_byte _ (by omega)
  · exact clk_byte _ (by omega)
  · rfl
  · exact clk_byte _ (by omega)
  · exact clk_byte _ (by omega)
theorem twoB_of {x y : Int} (h : 48 ≤ x ∧ x ≤ 57 ∧ 48 ≤ y ∧ y ≤ 57) : twoB x y = true := by unfold twoB; simp; omega
theorem of_twoB {x y : Int} (h : twoB x y = true) : 48 ≤ x ∧ x ≤ 57 ∧ 48 ≤ y ∧ y ≤ 57 := by unfold twoB at h; simp at h; omega
theorem twoN_of {x y : Int} (h : twoB x y = true) : twoN x y = (x - 48) * 10 + (y - 48) := by unfold twoN; rw [h]; rfl
theorem twoN_bd (x y : Int) : 0 ≤ twoN x y ∧ twoN x y ≤ 99 := by
  unfold twoN
  split
  · rename_i h
    have := of_twoB h
    omega
  · omega
theorem clkN_val (t : Int) (h0 : 0 ≤ t) (h1 : t < 86400) : clkB (clkT t) = true ∧ clkN (clkT t) = t := by
  obtain ⟨e0, e1, e2, e3, e4, e5, e6, e7⟩ := bt_clk t h0 h1
  have a : twoB (bt (clkT t) 0) (bt (clkT t) 1) = true := twoB_of (by omega)
  have b : twoB (bt (clkT t) 3) (bt (clkT t) 4) = true := twoB_of (by omega)
  have c : twoB (bt (clkT t) 6) (bt (clkT t) 7) = true := twoB_of (by omega)
  have a' := twoN_of a
  have b' := twoN_of b
  have c' := twoN_of c
  have hB : clkB (clkT t) = true := by
    unfold clkB
    rw [a, b, c]
    simp [clkT_size]
    omega
  refine ⟨hB, ?_⟩
  unfold clkN
  rw [hB, a', b', c', e0, e1, e3, e4, e6, e7]
  simp
  omega
theorem clkB_parts {s : ByteArray} (h : clkB s = true) : s.size = 8 ∧ bt s 2 = 58 ∧ bt s 5 = 58 ∧ twoB (bt s 0) (bt s 1) = true ∧ twoB (bt s 3) (bt s 4) = true ∧ twoB (bt s 6) (bt s 7) = true ∧ twoN (bt s 0) (bt s 1) ≤ 23 ∧ twoN (bt s 3) (bt s 4) ≤ 59 ∧ twoN (bt s 6) (bt s 7) ≤ 59 := by
  unfold clkB at h
  simp at h
  obtain ⟨⟨⟨⟨⟨⟨⟨⟨a, b⟩, c⟩, d⟩, e⟩, f⟩, g⟩, i⟩, j⟩ := h
  exact ⟨a, b, c, d, e, f, g, i, j⟩
theorem toList_inj {a b : ByteArray} (h : a.toList = b.toList) : a = b := by
  rw [ByteArray.toList_eq, ByteArray.toList_eq] at h
  exact ByteArray.ext (Array.toList_inj.1 h)
end Go.Proofs.YtgjnlgcdpbilfaaGreatDoor
namespace Go.Proofs.YtgjnlgcdpbilfaaGreatDoor
open Go.ChangeShapes Go.WideShapes Go.ChangeAt Go.RowKit Go.Maps
set_option linter.unusedVariables false
set_option linter.unusedSimpArgs false
structure Leg where
  turn : Bool
  at_ : Int
  en : Int
  dst : Int
structure Rn where
  nm : ByteArray
  st : Int
  fr : Int
  lf : Int
  legs : List Leg
structure Dgm where
  beg : Int
  st : List Stk
  runs : List Rn
instance : Inhabited Leg := ⟨⟨false, 0, 0, 0⟩⟩
instance : Inhabited Rn := ⟨⟨ByteArray.empty, 0, 0, 0, []⟩⟩
def Leg.c (l : Leg) (j : Nat) : Value := if j = 0 then .bool l.turn else if j = 1 then .int .i64 l.at_ else if j = 2 then .int .i64 l.en else .int .i64 l.dst
def Leg.cs (l : Leg) : List Value := [.bool l.turn, .int .i64 l.at_, .int .i64 l.en, .int .i64 l.dst]
def Leg.v (l : Leg) : Value := .agg #[.bool l.turn, .int .i64 l.at_, .int .i64 l.en, .int .i64 l.dst]
def IsLegs (w : World) (v : Value) (l : List Leg) : Prop := IsRow w v 4 l.length (fun i j => (l.getD i default).c j) ∧ CapOk v
theorem IsLegs.gr {w w' : World} {v : Value} {l : List Leg} (h : IsLegs w v l) (g : Gr w w') : IsLegs w' v l := ⟨IsRow.gr h.1 g, h.2⟩
theorem IsLegs.form {w : World} {v : Value} {l : List Leg} (h : IsLegs w v l) : ∃ a c, v = .slice a l.length c ∧ l.length ≤ maxLen ∧ l.length ≤ c := by
  obtain ⟨⟨a, c, rfl, hm, -⟩, hc⟩ := h
  exact ⟨a, c, rfl, hm, hc _ _ _ rfl⟩
theorem IsLegs.at {w : World} {a : Option Addr} {c m : Nat} {l : List Leg} (h : IsLegs w (.slice a m c) l) (i : Nat) (hi : i < l.length) :
    ∃ b o, a = some ⟨b, o, none⟩ ∧ b < w.heap.size ∧ w.cell? ⟨b, o + i * 4, none⟩ = some (.bool l[i].turn) ∧ w.cell? ⟨b, o + i * 4 + 1, none⟩ = some (.int .i64 l[i].at_) ∧ w.cell? ⟨b, o + i * 4 + 2, none⟩ = some (.int .i64 l[i].en) ∧ w.cell? ⟨b, o + i * 4 + 3, none⟩ = some (.int .i64 l[i].dst) := by
  obtain ⟨b, o, rfl, hb, hc⟩ := IsRow.at h.1 i hi
  simp only [getD_at l i hi] at hc
  exact ⟨b, o, rfl, hb, hc 0 (by omega), hc 1 (by omega), hc 2 (by omega), hc 3 (by omega)⟩
theorem IsLegs.nil (w : World) : IsLegs w (.slice none 0 0) [] := ⟨⟨none, 0, rfl, by simp, .inl rfl⟩, fun a n c e => by cases e; omega⟩
def Rn.c (r : Rn) (u : Value) (j : Nat) : Value := if j = 0 then .string r.nm else if j = 1 then .int .i64 r.st else if j = 2 then .int .i64 r.fr else if j = 3 then .int .i64 r.lf else u
def Rn.cs (r : Rn) (u : Value) : List Value := [.string r.nm, .int .i64 r.st, .int .i64 r.fr, .int .i64 r.lf, u]
def IsRuns (w : World) (v : Value) (l : List Rn) : Prop := (∃ S : Nat → Value, IsRow w v 5 l.length (fun i j => (l.getD i default).c (S i) j) ∧ ∀ i, i < l.length → IsLegs w (S i) (l.getD i default).legs) ∧ CapOk v
theorem IsRuns.gr {w w' : World} {v : Value} {l : List Rn} (h : IsRuns w v l) (g : Gr w w') : IsRuns w' v l := by
  obtain ⟨⟨S, h1, h2⟩, h3⟩ := h
  exact ⟨⟨S, h1.gr g, fun i hi => (h2 i hi).gr g⟩, h3⟩
theorem IsRuns.form {w : World} {v : Value} {l : List Rn} (h : IsRuns w v l) : ∃ a c, v = .slice a l.length c ∧ l.length ≤ maxLen ∧ l.length ≤ c := by
  obtain ⟨⟨S, ⟨a, c, rfl, hm, -⟩, -⟩, hc⟩ := h
  exact ⟨a, c, rfl, hm, hc _ _ _ rfl⟩
theorem IsRuns.at {w : World} {a : Option Addr} {c m : Nat} {l : List Rn} (h : IsRuns w (.slice a m c) l) (i : Nat) (hi : i < l.length) :
    ∃ b o la lc, a = some ⟨b, o, none⟩ ∧ b < w.heap.size ∧ w.cell? ⟨b, o + i * 5, none⟩ = some (.string l[i].nm) ∧ w.cell? ⟨b, o + i * 5 + 1, none⟩ = some (.int .i64 l[i].st) ∧ w.cell? ⟨b, o + i * 5 + 2, none⟩ = some (.int .i64 l[i].fr) ∧ w.cell? ⟨b, o + i * 5 + 3, none⟩ = some (.int .i64 l[i].lf) ∧ w.cell? ⟨b, o + i * 5 + 4, none⟩ = some (.slice la l[i].legs.length lc) ∧ IsLegs w (.slice la l[i].legs.length lc) l[i].legs := by
  obtain ⟨⟨S, h1, h2⟩, -⟩ := h
  obtain ⟨b, o, rfl, hb, hc⟩ := IsRow.at h1 i hi
  have h3 := h2 i hi
  simp only [getD_at l i hi] at hc h3
  obtain ⟨la, lc, hS, -⟩ := h3.form
  rw [hS] at h3
  refine ⟨b, o, la, lc, rfl, hb, hc 0 (by omega), hc 1 (by omega), hc 2 (by omega), hc 3 (by omega), ?_, h3⟩
  rw [← hS]; exact hc 4 (by omega)
theorem IsRuns.nil (w : World) : IsRuns w (.slice none 0 0) [] := ⟨⟨fun _ => .slice none 0 0, ⟨none, 0, rfl, by simp, .inl rfl⟩, fun i hi => absurd hi (by simp)⟩, fun a n c e => by cases e; omega⟩
theorem IsRuns.take {w : World} {a : Option Addr} {n c : Nat} {l : List Rn} (h : IsRuns w (.slice a n c) l) (k : Nat) (hk : k ≤ l.length) : IsRuns w (.slice a k c) (l.take k) := by
  obtain ⟨⟨S, ⟨a', c', e, hm, hx⟩, h2⟩, h3⟩ := h
  cases e
  have hl : (l.take k).length = k := by rw [List.length_take]; omega
  have hg : ∀ i, i < k → (l.take k).getD i default = l.getD i default := fun i hi => by
    rw [List.getD_eq_getElem?_getD, List.getD_eq_getElem?_getD, List.getElem?_take, if_pos hi]
  refine ⟨⟨S, ⟨a, c, by rw [hl], by rw [hl]; omega, ?_⟩, fun i hi => ?_⟩, fun a' n' c' e => by cases e; have := h3 _ _ _ rfl; omega⟩
  · rcases hx with hx | ⟨b, o, rfl, hb, hc⟩
    · exact .inl (by rw [hl]; omega)
    · exact .inr ⟨b, o, rfl, hb, fun i j hi hj => by rw [hl] at hi; show _ = some (((l.take k).getD i default).c (S i) j); rw [hg i hi]; exact hc i j (by omega) hj⟩
  · rw [hl] at hi
    rw [hg i hi]; exact h2 i (by omega)
def dgmV (D : Dgm) (s r : Value) : Value := .agg #[.int .i64 D.beg, s, r]
def IsDgm (w : World) (v : Value) (D : Dgm) : Prop := ∃ a1 c1 a2 c2, v = dgmV D (.slice a1 D.st.length c1) (.slice a2 D.runs.length c2) ∧ IsStks w (.slice a1 D.st.length c1) D.st ∧ IsRuns w (.slice a2 D.runs.length c2) D.runs
theorem IsDgm.gr {w w' : World} {v : Value} {D : Dgm} (h : IsDgm w v D) (g : Gr w w') : IsDgm w' v D := by
  obtain ⟨a1, c1, a2, c2, rfl, h1, h2⟩ := h
  exact ⟨a1, c1, a2, c2, rfl, h1.gr g, h2.gr g⟩
theorem IsDgm.of {w : World} {D : Dgm} {s r : Value} (h1 : IsStks w s D.st) (h2 : IsRuns w r D.runs) : IsDgm w (.agg #[.int .i64 D.beg, s, r]) D := by
  obtain ⟨a1, c1, rfl, -⟩ := h1.form
  obtain ⟨a2, c2, rfl, -⟩ := h2.form
  exact ⟨a1, c1, a2, c2, rfl, h1, h2⟩
def dgm0 : Dgm := ⟨0, [], []⟩
theorem IsDgm.nil (w : World) : IsDgm w (.agg #[.int .i64 0, .slice none 0 0, .slice none 0 0]) dgm0 := IsDgm.of (D := dgm0) (IsStks.nil w) (IsRuns.nil w)
def LegOk (l : Leg) : Prop := I64 l.at_ ∧ I64 l.en ∧ I64 l.dst
def RnOk (r : Rn) : Prop := r.nm.size ≤ maxLen ∧ I64 r.st ∧ I64 r.fr ∧ I64 r.lf ∧ ∀ l ∈ r.legs, LegOk l
def DgmOk (D : Dgm) : Prop := I64 D.beg ∧ (∀ s ∈ D.st, StkOk s) ∧ ∀ r ∈ D.runs, RnOk r
def legTo (P : Pln) (l : Leg) : Bool :=
  if l.en = 1 then winB l.dst 0 ((P.ss.length : Int) - 1) else if l.en = 2 then decide (kindP P l.dst = 4) else if l.en = 3 then decide (kindP P l.dst = 1) else false
def legsB (P : Pln) : Int → List Leg → Bool
  | _, [] => true
  | a, l :: t => winB l.at_ a 2000 && legTo P l && legsB P l.at_ t
theorem legsB_cons (P : Pln) (a : Int) (l : Leg) (t : List Leg) : legsB P a (l :: t) = (winB l.at_ a 2000 && legTo P l && legsB P l.at_ t) := rfl
def runB (P : Pln) (ns : Nat) (r : Rn) : Bool := nmB r.nm && winB r.st 0 ((ns : Int) - 1) && winB r.fr 0 ((P.ss.length : Int) - 1) && winB r.lf 0 4000 && legsB P 0 r.legs
def longD (D : Dgm) : Bool := decide (8 < D.runs.length) || D.runs.any fun r => decide (12 < r.legs.length)
def chkD (P : Pln) (D : Dgm) : Int :=
  if longD D then 3 else if checkS P.top P.brake D.st ≠ 0 then checkS P.top P.brake D.st
  else if winB D.beg 0 86399 = false then 1 else if D.runs.all (runB P D.st.length) = false then 1 else if twiceB (D.runs.map (·.nm)) then 4 else 0
def lastL : Int → List Leg → Int
  | n, [] => n
  | n, l :: t => lastL (max n l.at_) t
def lastR : Int → List Rn → Int
  | n, [] => n
  | n, r :: t => lastR (lastL n r.legs) t
def lastD (D : Dgm) : Int := lastR 0 D.runs
theorem lastL_append (a b : List Leg) : ∀ n, lastL n (a ++ b) = lastL (lastL n a) b := by
  induction a with
  | nil => intro n; rfl
  | cons x t ih => intro n; show lastL (max n x.at_) (t ++ b) = _; rw [ih]; rfl
theorem lastR_append (a b : List Rn) : ∀ n, lastR n (a ++ b) = lastR (lastR n a) b := by
  induction a with
  | nil => intro n; rfl
  | cons x t ih => intro n; show lastR (lastL n x.legs) (t ++ b) = _; rw [ih]; rfl
theorem lastL_snoc {L : List Leg} {k : Nat} (hk : k < L.length) (n : Int) : lastL n (L.take (k + 1)) = max (lastL n (L.take k)) L[k].at_ := by
  rw [List.take_succ_eq_append_getElem hk, lastL_append]; rfl
theorem lastR_snoc {L : List Rn} {k : Nat} (hk : k < L.length) (n : Int) : lastR n (L.take (k + 1)) = lastL (lastR n (L.take k)) L[k].legs := by
  rw [List.take_succ_eq_append_getElem hk, lastR_append]; rfl
theorem lastL_ge : ∀ (L : List Leg) (n : Int), n ≤ lastL n L
  | [], n => Int.le_refl _
  | l :: t, n => by have := lastL_ge t (max n l.at_); unfold lastL; omega
theorem lastR_ge : ∀ (L : List Rn) (n : Int), n ≤ lastR n L
  | [], n => Int.le_refl _
  | r :: t, n => Int.le_trans (lastL_ge r.legs n) (lastR_ge t _)
theorem winB_no {n lo hi : Int} (h : ¬ (lo ≤ n ∧ n ≤ hi)) : winB n lo hi = false := by
  cases e : winB n lo hi
  · rfl
  · exact absurd ((winB_iff _ _ _).1 e) h
def LegK (P : Pln) (L : List Leg) (k : Nat) (a : Int) : Prop := legsB P 0 L = legsB P a (L.drop k) ∧ 0 ≤ a ∧ a ≤ 2000
theorem LegK.start (P : Pln) (L : List Leg) : LegK P L 0 0 := ⟨rfl, by omega, by omega⟩
theorem LegK.yes {P : Pln} {L : List Leg} {k : Nat} {a : Int} (h : LegK P L k a) (hk : k < L.length) (h1 : winB L[k].at_ a 2000 = true) (h2 : legTo P L[k] = true) : LegK P L (k + 1) L[k].at_ := by
  obtain ⟨h0, ha, hb⟩ := h
  have hw := (winB_iff _ _ _).1 h1
  refine ⟨?_, by omega, by omega⟩
  rw [h0, List.drop_eq_getElem_cons hk, legsB_cons, h1, h2, Bool.and_true, Bool.true_and]
theorem LegK.no {P : Pln} {L : List Leg} {k : Nat} {a : Int} (h : LegK P L k a) (hk : k < L.length) (h1 : winB L[k].at_ a 2000 = false ∨ legTo P L[k] = false) : legsB P 0 L = false := by
  rw [h.1, List.drop_eq_getElem_cons hk, legsB_cons]
  rcases h1 with h1 | h1
  · rw [h1]; rfl
  · rw [h1, Bool.and_false]; rfl
theorem LegK.done {P : Pln} {L : List Leg} {k : Nat} {a : Int} (h : LegK P L k a) (hk : ¬ k < L.length) : legsB P 0 L = true := by
  rw [h.1, List.drop_eq_nil_of_le (by omega)]; rfl
theorem twiceR_yes {l : List Rn} {i k : Nat} (hi : i < l.length) (hk : k < i) (h : l[k].nm = l[i].nm) : twiceB (l.map (·.nm)) = true := by
  unfold twiceB
  simp only [Bool.not_eq_true', decide_eq_false_iff_not]
  intro hn
  rw [nodup_iff_lt] at hn
  exact hn i k (by simpa using hi) hk (by simpa using h.symm)
theorem twiceR_no {l : List Rn} (h : ∀ i k (hi : i < l.length) (hk : k < i), l[k].nm ≠ l[i].nm) : twiceB (l.map (·.nm)) = false := by
  unfold twiceB
  simp only [Bool.not_eq_false', decide_eq_true_eq]
  rw [nodup_iff_lt]
  intro i k hi hk e
  exact h i k (by simpa using hi) hk (by simpa using e.symm)
theorem allR_bad {P : Pln} {n : Nat} {l : List Rn} {k : Nat} (hk : k < l.length) (h : runB P n l[k] = false) : l.all (runB P n) = false := by
  rw [List.all_eq_false]
  exact ⟨_, List.getElem_mem hk, by rw [h]; decide⟩
theorem allR_good {P : Pln} {n : Nat} {l : List Rn} (h : ∀ k (hk : k < l.length), runB P n l[k] = true) : l.all (runB P n) = true := by
  rw [List.all_eq_true]
  intro x hx
  obtain ⟨k, hk, rfl⟩ := List.getElem_of_mem hx
  exact h k hk
theorem chkD_ok {P : Pln} {D : Dgm} (h : chkD P D = 0) : D.runs.length ≤ 8 ∧ (∀ r ∈ D.runs, r.legs.length ≤ 12) ∧ checkS P.top P.brake D.st = 0 ∧ (0 ≤ D.beg ∧ D.beg ≤ 86399) ∧ (∀ r ∈ D.runs, runB P D.st.length r = true) ∧ twiceB (D.runs.map (·.nm)) = false := by
  unfold chkD at h
  split at h
  · omega
  split at h
  · omega
  split at h
  · omega
  split at h
  · omega
  split at h
  · omega
  rename_i h1 h2 h3 h4 h5
  unfold longD at h1
  simp only [Bool.or_eq_true, decide_eq_true_eq, List.any_eq_true, not_or, not_exists, not_and] at h1
  refine ⟨by omega, fun r hr => by have := h1.2 r hr; omega, by omega, (winB_iff _ _ _).1 (by simpa using h3), ?_, by simpa using h5⟩
  have h4' : D.runs.all (runB P D.st.length) = true := by simpa using h4
  exact List.all_eq_true.1 h4'
end Go.Proofs.YtgjnlgcdpbilfaaGreatDoor
namespace Go.Proofs.YtgjnlgcdpbilfaaGreatDoor
open Go.ChangeShapes Go.WideShapes Go.ChangeAt Go.RowKit Go.Maps
set_option linter.unusedVariables false
set_option linter.unusedSimpArgs false
theorem app_data (a b : ByteArray) : (a ++ b).data.toList = a.data.toList ++ b.data.toList := by simp [ByteArray.data_append]
theorem nm_word {n : ByteArray} (h : nmB n = true) : wordB n := by
  unfold nmB at h
  simp only [Bool.and_eq_true, decide_eq_true_eq, List.all_eq_true, List.mem_range] at h
  refine wordB_of (by omega) fun j hj => ?_
  have := (okc_iff j (bt n j)).1 (h.2 j hj)
  omega
def lineB (x : ByteArray) : Prop := ∀ c ∈ x.data.toList, c ≠ 10
theorem word_line {x : ByteArray} (h : wordB x) : lineB x := fun c hc e => by
  have := h.2 c hc
  subst e
  revert this; decide
theorem line_app {a b : ByteArray} (ha : lineB a) (hb : lineB b) : lineB (a ++ b) := fun c hc => by
  rw [app_data, List.mem_append] at hc
  rcases hc with h | h
  · exact ha c h
  · exact hb c h
theorem line_blank : lineB ⟨#[32]⟩ := fun c hc => by
  have : c = 32 := by simpa using hc
  subst this; decide
theorem jnW_line : ∀ (L : List ByteArray), (∀ x ∈ L, lineB x) → lineB (jnW L)
  | [], _ => fun c hc => by simp [jnW, Lib.join] at hc
  | [b], h => by
    have e : jnW [b] = b := by
      show (⟨(Lib.join [b.data.toList] [32]).toArray⟩ : ByteArray) = b
      rw [Lib.join_one]
    rw [e]
    exact h b (by simp)
  | b :: a :: t, h => by
    rw [jnW_cons]
    exact line_app (line_app (h b (by simp)) line_blank) (jnW_line (a :: t) fun x hx => h x (List.mem_cons_of_mem _ hx))
def unl : List ByteArray → ByteArray
  | [] => ⟨#[]⟩
  | x :: t => x ++ ⟨#[10]⟩ ++ unl t
theorem unl_data : ∀ (L : List ByteArray), (unl L).data.toList = L.flatMap fun x => x.data.toList ++ [10]
  | [] => rfl
  | x :: t => by unfold unl; rw [app_data, app_data, unl_data t]; simp
theorem lnB_unl : ∀ (L : List ByteArray), (∀ x ∈ L, lineB x) → lnB (unl L) = L
  | [], _ => rfl
  | x :: t, h => by
    have ih := lnB_unl t fun y hy => h y (List.mem_cons_of_mem _ hy)
    unfold lnB at ih ⊢
    unfold unl
    rw [app_data, app_data, List.append_assoc, lnsA_pre _ _ _ (h x (by simp))]
    show (lnsA ([] ++ x.data.toList) (10 :: (unl t).data.toList)).map toB = _
    unfold lnsA
    rw [if_pos rfl, List.map_cons, ih, List.nil_append, toB_data]
theorem unl_lnsA : ∀ (l acc : List UInt8), (unl ((lnsA acc l).map toB)).data.toList = acc ++ l ∨ (unl ((lnsA acc l).map toB)).data.toList = acc ++ l ++ [10]
  | [], acc => by
    unfold lnsA
    by_cases h : acc = []
    · rw [if_pos h, h]; exact .inl rfl
    · rw [if_neg h]; right
      simp only [List.map_cons, List.map_nil, unl_data, List.flatMap_cons, List.flatMap_nil, List.append_nil]
      simp [toB]
  | c :: t, acc => by
    unfold lnsA
    by_cases h : c = 10
    · rw [if_pos h]
      subst h
      have ih := unl_lnsA t []
      rw [List.map_cons, unl, app_data, app_data]
      have e : (toB acc).data.toList = acc := by simp [toB]
      rw [e]
      rcases ih with ih | ih
      · left; rw [ih]; simp
      · right; rw [ih]; simp
    · rw [if_neg h]
      have ih := unl_lnsA t (acc ++ [c])
      rcases ih with ih | ih
      · left; rw [ih]; simp
      · right; rw [ih]; simp
theorem unl_lnB (s : ByteArray) : unl (lnB s) = s ∨ unl (lnB s) = s ++ ⟨#[10]⟩ := by
  have key : ∀ a b : ByteArray, a.data.toList = b.data.toList → a = b := fun a b h => ByteArray.ext (Array.toList_inj.1 h)
  rcases unl_lnsA s.data.toList [] with h | h
  · left; exact key _ _ (by unfold lnB; rw [h]; rfl)
  · right; refine key _ _ ?_
    rw [app_data]
    unfold lnB
    rw [h]; rfl
theorem printS_unl : ∀ (L : List Stk), printS L = unl (L.map lineS)
  | [] => rfl
  | s :: t => by unfold printS; rw [printS_unl t]; rfl
theorem mayS_parts {s : Stk} (h : mayS s = true) : nmB s.nm = true ∧ (1 ≤ s.l ∧ s.l ≤ 4000) ∧ (1 ≤ s.t ∧ s.t ≤ 60) ∧ (1 ≤ s.a ∧ s.a ≤ 10) ∧ (1 ≤ s.b ∧ s.b ≤ 10) := mayB_parts h
theorem stock_word : wordB bStock := wordB_of (by decide) (by decide)
theorem wordsS_word {s : Stk} (h : mayS s = true) : ∀ x ∈ wordsS s, wordB x := by
  obtain ⟨h0, h1, h2, h3, h4⟩ := mayS_parts h
  intro x hx
  simp only [wordsS, List.mem_cons, List.not_mem_nil, or_false] at hx
  rcases hx with rfl | rfl | rfl | rfl | rfl | rfl
  · exact stock_word
  · exact nm_word h0
  all_goals exact dgs_word _ (by omega) (by omega)
theorem num4 {n : Int} (h0 : 0 ≤ n) (h1 : n < 10000) : numB (dgs n) 4 = true ∧ numN (dgs n) 4 = n := num_dgs 3 n h0 (by simpa using h1) (by omega)
theorem rowS_words {s : Stk} (h : mayS s = true) : rowS (wordsS s) = some s := by
  obtain ⟨h0, h1, h2, h3, h4⟩ := mayS_parts h
  have n1 := num4 (n := s.l) (by omega) (by omega)
  have n2 := num4 (n := s.t) (by omega) (by omega)
  have n3 := num4 (n := s.a) (by omega) (by omega)
  have n4 := num4 (n := s.b) (by omega) (by omega)
  show (if bStock = bStock ∧ nmB s.nm = true ∧ numB (dgs s.l) 4 = true ∧ numB (dgs s.t) 4 = true ∧ numB (dgs s.a) 4 = true ∧ numB (dgs s.b) 4 = true then some (⟨s.nm, numN (dgs s.l) 4, numN (dgs s.t) 4, numN (dgs s.a) 4, numN (dgs s.b) 4⟩ : Stk) else none) = some s
  rw [if_pos ⟨rfl, h0, n1.1, n2.1, n3.1, n4.1⟩, n1.2, n2.2, n3.2, n4.2]
theorem rowS_inv {l : List ByteArray} {s : Stk} (h : rowS l = some s) : l = wordsS s := by
  match l with
  | [a, b, c, d, e, f] =>
    have h : (if a = bStock ∧ nmB b = true ∧ numB c 4 = true ∧ numB d 4 = true ∧ numB e 4 = true ∧ numB f 4 = true then some (⟨b, numN c 4, numN d 4, numN e 4, numN f 4⟩ : Stk) else none) = some s := h
    split at h
    · rename_i hh
      obtain ⟨h1, h2, h3, h4, h5, h6⟩ := hh
      cases h
      unfold wordsS
      dsimp only
      rw [dgs_num h3, dgs_num h4, dgs_num h5, dgs_num h6, h1]
    · cases h
  | [] => cases h
  | [_] => cases h
  | [_, _] => cases h
  | [_, _, _] => cases h
  | [_, _, _, _] => cases h
  | [_, _, _, _, _] => cases h
  | _ :: _ :: _ :: _ :: _ :: _ :: _ :: _ => cases h
theorem dgs4_size {n : Int} (h0 : 0 ≤ n) (h1 : n < 10000) : (dgs n).size ≤ 4 := by
  have h := (dgs_spec 3 n h0 (by simpa using h1)).2.1
  omega
theorem nm_size {n : ByteArray} (h : nmB n = true) : n.size ≤ 8 := by
  unfold nmB at h
  simp only [Bool.and_eq_true, decide_eq_true_eq] at h
  exact h.1.2
theorem lineS_size {s : Stk} (h : mayS s = true) : (lineS s).size ≤ 40 := by
  obtain ⟨h0, h1, h2, h3, h4⟩ := mayS_parts h
  have a0 := nm_size h0
  have a1 := dgs4_size (n := s.l) (by omega) (by omega)
  have a2 := dgs4_size (n := s.t) (by omega) (by omega)
  have a3 := dgs4_size (n := s.a) (by omega) (by omega)
  have a4 := dgs4_size (n := s.b) (by omega) (by omega)
  unfold lineS wordsS
  rw [jnW_cons, jnW_cons, jnW_cons, jnW_cons, jnW_cons]
  have e : jnW [dgs s.b] = dgs s.b := by
    show (⟨(Lib.join [(dgs s.b).data.toList] [32]).toArray⟩ : ByteArray) = _
    rw [Lib.join_one]
  have hb : bStock.size = 5 := rfl
  have h1 : (⟨#[32]⟩ : ByteArray).size = 1 := rfl
  simp only [size_app, e, hb, h1]
  omega
theorem printS_size : ∀ {L : List Stk}, (∀ s ∈ L, mayS s = true) → (printS L).size ≤ 41 * L.length
  | [], _ => by decide
  | s :: t, h => by
    have ih := printS_size fun x hx => h x (List.mem_cons_of_mem _ hx)
    have := lineS_size (h s (by simp))
    have h1 : (⟨#[10]⟩ : ByteArray).size = 1 := rfl
    unfold printS
    simp only [size_app, h1, List.length_cons]
    omega
theorem printS_snoc : ∀ (L : List Stk) (s : Stk), printS (L ++ [s]) = printS L ++ lineS s ++ ⟨#[10]⟩
  | [], s => by
    show lineS s ++ ⟨#[10]⟩ ++ ⟨#[]⟩ = (⟨#[]⟩ : ByteArray) ++ lineS s ++ ⟨#[10]⟩
    apply ByteArray.ext; simp [ByteArray.data_append]
  | a :: t, s => by
    show lineS a ++ ⟨#[10]⟩ ++ printS (t ++ [s]) = lineS a ++ ⟨#[10]⟩ ++ printS t ++ lineS s ++ ⟨#[10]⟩
    rw [printS_snoc t s]
    apply ByteArray.ext; simp [ByteArray.data_append]
end Go.Proofs.YtgjnlgcdpbilfaaGreatDoor
