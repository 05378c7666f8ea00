/- Chkc: The document's answer: Check.
Few: Few, Fine.
NewQ: net.New: the plain rounds.
NumP: Numbers of so many digits: plain. No program.
Num1: Numbers: the walks.
Nam2: word.Name.
Pla1: plan.numbers. Printed by wip/gen_pla1.py. -/
import Derived.Test.YtjblplflgiibdaaGreatDoorRows
import Derived.Test.YtjblplflgiibdaaGreatDoorB5
import Derived.Test.YtjblplflgiibdaaGreatDoorB2
import Derived.Test.YtjblplflgiibdaaGreatDoorB4
import Derived.OpenShut
import Derived.Test.YtjblplflgiibdaaGreatDoorB1
import Derived.Deep.LoopGhost
import Derived.WalkMore
namespace Go.Proofs.YtjblplflgiibdaaGreatDoor
open Go.ChangeShapes Go.WideShapes Go.ChangeAt Go.RowKit
set_option linter.unusedVariables false
set_option linter.unusedSimpArgs false
theorem chk_long {P : Pln} (h : 40 < P.es.length ∨ 24 < P.ss.length ∨ 4 < P.ls.length ∨ 80 < P.js.length) : chk P = 3 := by unfold chk; rw [if_pos h]
theorem chk_rest {P : Pln} (h : ¬ (40 < P.es.length ∨ 24 < P.ss.length ∨ 4 < P.ls.length ∨ 80 < P.js.length)) :
    chk P = if argsB P = false then 1 else if (twiceB (P.es.map (·.n)) || twiceB (P.ss.map (·.n)) || twiceB (P.ls.map (·.n))) = true then 4 else if joinedB P = false then 6 else if signalsB P = false then 7 else if linesB P = false then 8 else if longB P = false then 9 else 0 := by
  unfold chk; rw [if_neg h]
theorem joined_ports {P : Pln} (h : joinedB P = true) : okL P P.js := Classical.byContradiction fun hn => by rw [joinedB_no hn] at h; cases h
theorem args_nums {P : Pln} (h : argsB P = true) : (1 ≤ P.top ∧ P.top ≤ 60) ∧ (1 ≤ P.brake ∧ P.brake ≤ 10) ∧ (1 ≤ P.margin ∧ P.margin ≤ 4000) ∧ (1 ≤ P.throw ∧ P.throw ≤ 20) ∧ 0 < P.es.length := by
  rw [argsB_eq] at h
  simp only [Bool.and_eq_true] at h
  have h0 := h.1.1.1
  unfold numsB inB at h0
  simp only [Bool.and_eq_true, decide_eq_true_eq, Bool.not_eq_true', decide_eq_false_iff_not] at h0
  omega
set_option maxRecDepth 100000 in
set_option maxHeartbeats 1000000 in
theorem refCheck_any (v : Value) (P : Pln) (w : World) (hP : IsPln w v P) (hk : PlnOk P) (hl : (P.ls.flatMap (·.es)).length ≤ 1000000) :
    Calls Tryz.prog 28 #[v] w fun e w' => e = .returned (.int .i64 (chk P)) ∧ Gr w w' := by
  have hPz := hP
  obtain ⟨a1, c1, a2, c2, a3, c3, a4, c4, rfl, h1, h2, h3, h4⟩ := hP
  have m1 := IsRow.len h1
  have m2 := IsRow.len h2
  have m3 := IsRow.len h3
  have m4 : P.ls.length ≤ maxLen := by obtain ⟨S, hS, -⟩ := h4; exact IsRow.len hS
  unfold maxLen at m1 m2 m3 m4
  have HPv := Lib.hid (fun (w' : World) (g : Gr w w') => IsPln.mk (w' := w') h1 h2 h3 h4 g)
  have HB := Lib.hid (bxW_box w P (.slice a1 P.es.length c1) (.slice a2 P.js.length c2) (.slice a3 P.ss.length c3) (.slice a4 P.ls.length c4))
  have hw0 := bxW_gr w P (.slice a1 P.es.length c1) (.slice a2 P.js.length c2) (.slice a3 P.ss.length c3) (.slice a4 P.ls.length c4)
  obtain ⟨wb, hwb⟩ : ∃ wb, wb = bxW w P (.slice a1 P.es.length c1) (.slice a2 P.js.length c2) (.slice a3 P.ss.length c3) (.slice a4 P.ls.length c4) := ⟨_, rfl⟩
  rw [← hwb] at HB hw0
  unfold plnV
  have HWB := Lib.hid hwb
  have HKK := Lib.hid hk
  have HLL := Lib.hid hl
  clear h1 h2 h3 h4 hwb hk hl hPz
  by_cases hlong : 40 < P.es.length ∨ 24 < P.ss.length ∨ 4 < P.ls.length ∨ 80 < P.js.length
  · have HC := Lib.hid (chk_long hlong)
    have hcs : (40 < (P.es.length : Int)) ∨ (¬ 40 < (P.es.length : Int) ∧ 24 < (P.ss.length : Int)) ∨ (¬ 40 < (P.es.length : Int) ∧ ¬ 24 < (P.ss.length : Int) ∧ 4 < (P.ls.length : Int)) ∨ (¬ 40 < (P.es.length : Int) ∧ ¬ 24 < (P.ss.length : Int) ∧ ¬ 4 < (P.ls.length : Int) ∧ 80 < (P.js.length : Int)) := by omega
    clear hlong
    rcases hcs with l1 | ⟨l1, l2⟩ | ⟨l1, l2, l3⟩ | ⟨l1, l2, l3, l4⟩
    all_goals
      go_enter Tryz.func28, Tryz.ntmps28
      go_wp2
      go_ret
      exact ⟨ret_int HC.out.symm, (Gr.refl _).alloc _⟩
  have HC := Lib.hid (chk_rest hlong)
  obtain ⟨l1, l2, l3, l4⟩ : ¬ 40 < (P.es.length : Int) ∧ ¬ 24 < (P.ss.length : Int) ∧ ¬ 4 < (P.ls.length : Int) ∧ ¬ 80 < (P.js.length : Int) := by omega
  clear hlong
  go_enter Tryz.func28, Tryz.ntmps28
  go_wp2_with (fail)
  rw [show (w.alloc (.cells #[.slice a1 P.es.length c1, .slice a2 P.js.length c2, .slice a3 P.ss.length c3, .slice a4 P.ls.length c4, .int .i64 P.top, .int .i64 P.brake, .int .i64 P.margin, .int .i64 P.throw, .bool P.hard] 28)) = wb from HWB.out.symm]
  clear HWB
  have HNM := Lib.hid (fun (v' : Value) (w' : World) (h : IsPln w' v' P) => refNames_any v' P w' h (by omega) (by omega) (by omega))
  have HAR := Lib.hid (fun (v' : Value) (w' : World) (h : IsPln w' v' P) => refArgs_any v' P w' h HKK.out)
  have HTA := Lib.hid (fun (v' : Value) (w' : World) (h : IsVals w' v' ((P.es.map (·.n)).map Value.string)) => refTwice_any v' _ w' h)
  have HTB := Lib.hid (fun (v' : Value) (w' : World) (h : IsVals w' v' ((P.ss.map (·.n)).map Value.string)) => refTwice_any v' _ w' h)
  have HTC := Lib.hid (fun (v' : Value) (w' : World) (h : IsVals w' v' ((P.ls.map (·.n)).map Value.string)) => refTwice_any v' _ w' h)
  have HJO := Lib.hid (fun (v' : Value) (w' : World) (h : IsPln w' v' P) => refJoined_any v' P w' h (by omega))
  have HSI := Lib.hid (fun (v' : Value) (w' : World) (h : IsPln w' v' P) => refSignals_any v' P w' h (by omega))
  have HLN : Hid (joinedB P = true → ∀ (v' : Value) (w' : World) (h : IsPln w' v' P), Calls Tryz.prog 64 #[v'] w' fun e w'' => e = .returned (.bool (linesB P)) ∧ Gr w' w'') := fun hj v' w' h => refLines_any6 v' P w' h (joined_ports hj).2 HLL.out (by omega)
  have HLG : Hid (argsB P = true → ∀ (v' : Value) (w' : World) (h : IsPln w' v' P), Calls Tryz.prog 65 #[v'] w' fun e w'' => e = .returned (.bool (longB P)) ∧ Gr w' w'') := fun ha v' w' h => refLong_any v' P w' h (by have := args_nums ha; omega) (by have := args_nums ha; omega)
  generalize argsB P = ab at *
  generalize twiceB (P.es.map (·.n)) = ta at *
  generalize twiceB (P.ss.map (·.n)) = tb at *
  generalize twiceB (P.ls.map (·.n)) = tc at *
  generalize joinedB P = jb at *
  generalize signalsB P = sb at *
  generalize linesB P = lb at *
  generalize longB P = gb at *
  have hz : Gr wb wb := Gr.refl _
  refine (HNM.out _ _ (HPv.out _ hw0)).mono ?_
  rintro e w5 ⟨va, vb, vc, rfl, n1, n2, n3, h5⟩
  have NA := Lib.hid n1
  have NB := Lib.hid n2
  have NC := Lib.hid n3
  replace hz := hz.trans h5
  have hy : Gr w5 w5 := Gr.refl _
  obtain ⟨zb5, d05, d15, d25, d35, d45, d55, d65, d75, d85⟩ := HB.out.gr hz
  clear n1 n2 n3
  cases ab
  · go_wp2_with (first | (go_at_call 60; (with_reducible refine (HAR.out _ _ (HPv.out _ (hw0.trans hz))).mono ?_); rintro e w11 ⟨rfl, h11⟩; replace hz := hz.trans h11; replace hy := hy.trans h11; obtain ⟨zb11, d011, d111, d211, d311, d411, d511, d611, d711, d811⟩ := HB.out.gr hz) | fail)
    (go_ret; exact ⟨ret_int (by rw [HC.out]; rfl), hw0.trans hz⟩)
  go_wp2_with (first | (go_at_call 60; (with_reducible refine (HAR.out _ _ (HPv.out _ (hw0.trans hz))).mono ?_); rintro e w11 ⟨rfl, h11⟩; replace hz := hz.trans h11; replace hy := hy.trans h11; obtain ⟨zb11, d011, d111, d211, d311, d411, d511, d611, d711, d811⟩ := HB.out.gr hz) | fail)
  cases ta
  case true => (go_wp2_with (first | (go_at_call 61; first | ((with_reducible refine (HTA.out _ _ (NA.out.gr hy)).mono ?_); rintro e w21 ⟨rfl, h21⟩; replace hz := hz.trans h21; replace hy := hy.trans h21; obtain ⟨zb21, d021, d121, d221, d321, d421, d521, d621, d721, d821⟩ := HB.out.gr hz) | ((with_reducible refine (HTB.out _ _ (NB.out.gr hy)).mono ?_); rintro e w22 ⟨rfl, h22⟩; replace hz := hz.trans h22; replace hy := hy.trans h22; obtain ⟨zb22, d022, d122, d222, d322, d422, d522, d622, d722, d822⟩ := HB.out.gr hz) | ((with_reducible refine (HTC.out _ _ (NC.out.gr hy)).mono ?_); rintro e w23 ⟨rfl, h23⟩; replace hz := hz.trans h23; replace hy := hy.trans h23; obtain ⟨zb23, d023, d123, d223, d323, d423, d523, d623, d723, d823⟩ := HB.out.gr hz)) | fail)); (go_ret; exact ⟨ret_int (by rw [HC.out]; rfl), hw0.trans hz⟩)
  cases tb
  case true => (go_wp2_with (first | (go_at_call 61; first | ((with_reducible refine (HTA.out _ _ (NA.out.gr hy)).mono ?_); rintro e w21 ⟨rfl, h21⟩; replace hz := hz.trans h21; replace hy := hy.trans h21; obtain ⟨zb21, d021, d121, d221, d321, d421, d521, d621, d721, d821⟩ := HB.out.gr hz) | ((with_reducible refine (HTB.out _ _ (NB.out.gr hy)).mono ?_); rintro e w22 ⟨rfl, h22⟩; replace hz := hz.trans h22; replace hy := hy.trans h22; obtain ⟨zb22, d022, d122, d222, d322, d422, d522, d622, d722, d822⟩ := HB.out.gr hz) | ((with_reducible refine (HTC.out _ _ (NC.out.gr hy)).mono ?_); rintro e w23 ⟨rfl, h23⟩; replace hz := hz.trans h23; replace hy := hy.trans h23; obtain ⟨zb23, d023, d123, d223, d323, d423, d523, d623, d723, d823⟩ := HB.out.gr hz)) | fail)); (go_ret; exact ⟨ret_int (by rw [HC.out]; rfl), hw0.trans hz⟩)
  cases tc
  case true => (go_wp2_with (first | (go_at_call 61; first | ((with_reducible refine (HTA.out _ _ (NA.out.gr hy)).mono ?_); rintro e w21 ⟨rfl, h21⟩; replace hz := hz.trans h21; replace hy := hy.trans h21; obtain ⟨zb21, d021, d121, d221, d321, d421, d521, d621, d721, d821⟩ := HB.out.gr hz) | ((with_reducible refine (HTB.out _ _ (NB.out.gr hy)).mono ?_); rintro e w22 ⟨rfl, h22⟩; replace hz := hz.trans h22; replace hy := hy.trans h22; obtain ⟨zb22, d022, d122, d222, d322, d422, d522, d622, d722, d822⟩ := HB.out.gr hz) | ((with_reducible refine (HTC.out _ _ (NC.out.gr hy)).mono ?_); rintro e w23 ⟨rfl, h23⟩; replace hz := hz.trans h23; replace hy := hy.trans h23; obtain ⟨zb23, d023, d123, d223, d323, d423, d523, d623, d723, d823⟩ := HB.out.gr hz)) | fail)); (go_ret; exact ⟨ret_int (by rw [HC.out]; rfl), hw0.trans hz⟩)
  go_wp2_with (first | (go_at_call 61; first | ((with_reducible refine (HTA.out _ _ (NA.out.gr hy)).mono ?_); rintro e w21 ⟨rfl, h21⟩; replace hz := hz.trans h21; replace hy := hy.trans h21; obtain ⟨zb21, d021, d121, d221, d321, d421, d521, d621, d721, d821⟩ := HB.out.gr hz) | ((with_reducible refine (HTB.out _ _ (NB.out.gr hy)).mono ?_); rintro e w22 ⟨rfl, h22⟩; replace hz := hz.trans h22; replace hy := hy.trans h22; obtain ⟨zb22, d022, d122, d222, d322, d422, d522, d622, d722, d822⟩ := HB.out.gr hz) | ((with_reducible refine (HTC.out _ _ (NC.out.gr hy)).mono ?_); rintro e w23 ⟨rfl, h23⟩; replace hz := hz.trans h23; replace hy := hy.trans h23; obtain ⟨zb23, d023, d123, d223, d323, d423, d523, d623, d723, d823⟩ := HB.out.gr hz)) | fail)
  cases jb
  · go_wp2_with (first | (go_at_call 62; (with_reducible refine (HJO.out _ _ (HPv.out _ (hw0.trans hz))).mono ?_); rintro e w12 ⟨rfl, h12⟩; replace hz := hz.trans h12; replace hy := hy.trans h12; obtain ⟨zb12, d012, d112, d212, d312, d412, d512, d612, d712, d812⟩ := HB.out.gr hz) | fail)
    (go_ret; exact ⟨ret_int (by rw [HC.out]; rfl), hw0.trans hz⟩)
  have HLN2 := Lib.hid (HLN.out (by trivial))
  have HLG2 := Lib.hid (HLG.out (by trivial))
  go_wp2_with (first | (go_at_call 62; (with_reducible refine (HJO.out _ _ (HPv.out _ (hw0.trans hz))).mono ?_); rintro e w12 ⟨rfl, h12⟩; replace hz := hz.trans h12; replace hy := hy.trans h12; obtain ⟨zb12, d012, d112, d212, d312, d412, d512, d612, d712, d812⟩ := HB.out.gr hz) | fail)
  cases sb
  · go_wp2_with (first | (go_at_call 63; (with_reducible refine (HSI.out _ _ (HPv.out _ (hw0.trans hz))).mono ?_); rintro e w13 ⟨rfl, h13⟩; replace hz := hz.trans h13; replace hy := hy.trans h13; obtain ⟨zb13, d013, d113, d213, d313, d413, d513, d613, d713, d813⟩ := HB.out.gr hz) | fail)
    (go_ret; exact ⟨ret_int (by rw [HC.out]; rfl), hw0.trans hz⟩)
  go_wp2_with (first | (go_at_call 63; (with_reducible refine (HSI.out _ _ (HPv.out _ (hw0.trans hz))).mono ?_); rintro e w13 ⟨rfl, h13⟩; replace hz := hz.trans h13; replace hy := hy.trans h13; obtain ⟨zb13, d013, d113, d213, d313, d413, d513, d613, d713, d813⟩ := HB.out.gr hz) | fail)
  cases lb
  · go_wp2_with (first | (go_at_call 64; (with_reducible refine (HLN2.out _ _ (HPv.out _ (hw0.trans hz))).mono ?_); rintro e w14 ⟨rfl, h14⟩; replace hz := hz.trans h14; replace hy := hy.trans h14; obtain ⟨zb14, d014, d114, d214, d314, d414, d514, d614, d714, d814⟩ := HB.out.gr hz) | fail)
    (go_ret; exact ⟨ret_int (by rw [HC.out]; rfl), hw0.trans hz⟩)
  go_wp2_with (first | (go_at_call 64; (with_reducible refine (HLN2.out _ _ (HPv.out _ (hw0.trans hz))).mono ?_); rintro e w14 ⟨rfl, h14⟩; replace hz := hz.trans h14; replace hy := hy.trans h14; obtain ⟨zb14, d014, d114, d214, d314, d414, d514, d614, d714, d814⟩ := HB.out.gr hz) | fail)
  cases gb
  · go_wp2_with (first | (go_at_call 65; (with_reducible refine (HLG2.out _ _ (HPv.out _ (hw0.trans hz))).mono ?_); rintro e w15 ⟨rfl, h15⟩; replace hz := hz.trans h15; replace hy := hy.trans h15; obtain ⟨zb15, d015, d115, d215, d315, d415, d515, d615, d715, d815⟩ := HB.out.gr hz) | fail)
    (go_ret; exact ⟨ret_int (by rw [HC.out]; rfl), hw0.trans hz⟩)
  go_wp2_with (first | (go_at_call 65; (with_reducible refine (HLG2.out _ _ (HPv.out _ (hw0.trans hz))).mono ?_); rintro e w15 ⟨rfl, h15⟩; replace hz := hz.trans h15; replace hy := hy.trans h15; obtain ⟨zb15, d015, d115, d215, d315, d415, d515, d615, d715, d815⟩ := HB.out.gr hz) | fail)
  (go_ret; exact ⟨ret_int (by rw [HC.out]; rfl), hw0.trans hz⟩)
end Go.Proofs.YtjblplflgiibdaaGreatDoor
namespace Go.Proofs.YtjblplflgiibdaaGreatDoor
open Go.ChangeShapes Go.WideShapes Go.ChangeAt Go.RowKit
set_option linter.unusedVariables false
set_option linter.unusedSimpArgs false
def fewL (l : Ln) : Bool := decide (l.es.length ≤ 60) && decide (l.n.size ≤ 100)
def fewB (P : Pln) : Bool := (decide (P.es.length ≤ 60) && decide (P.js.length ≤ 120) && decide (P.ss.length ≤ 60) && decide (P.ls.length ≤ 20)) && P.ls.all fewL && P.es.all (fun e => decide (e.n.size ≤ 100)) && P.ss.all (fun s => decide (s.n.size ≤ 100))
theorem fewB_num {P : Pln} (h : 60 < P.es.length ∨ 120 < P.js.length ∨ 60 < P.ss.length ∨ 20 < P.ls.length) : fewB P = false := by
  unfold fewB
  have : (decide (P.es.length ≤ 60) && decide (P.js.length ≤ 120) && decide (P.ss.length ≤ 60) && decide (P.ls.length ≤ 20)) = false := by
    simp; omega
  rw [this]; rfl
theorem fewB_ls {P : Pln} {k : Nat} (hk : k < P.ls.length) (h : fewL P.ls[k] = false) : fewB P = false := by unfold fewB; rw [all_false_of _ _ k hk h]; simp
theorem fewB_es {P : Pln} {k : Nat} (hk : k < P.es.length) (h : 100 < P.es[k].n.size) : fewB P = false := by
  unfold fewB; rw [all_false_of P.es (fun e => decide (e.n.size ≤ 100)) k hk (by simpa using h)]; simp
theorem fewB_ss {P : Pln} {k : Nat} (hk : k < P.ss.length) (h : 100 < P.ss[k].n.size) : fewB P = false := by
  unfold fewB; rw [all_false_of P.ss (fun e => decide (e.n.size ≤ 100)) k hk (by simpa using h)]; simp
theorem fewB_yes {P : Pln} (h0 : P.es.length ≤ 60 ∧ P.js.length ≤ 120 ∧ P.ss.length ≤ 60 ∧ P.ls.length ≤ 20) (h1 : ∀ k (hk : k < P.ls.length), fewL P.ls[k] = true) (h2 : ∀ k (hk : k < P.es.length), P.es[k].n.size ≤ 100) (h3 : ∀ k (hk : k < P.ss.length), P.ss[k].n.size ≤ 100) : fewB P = true := by
  unfold fewB
  rw [all_true_of _ _ h1, all_true_of P.es (fun e => decide (e.n.size ≤ 100)) (fun k hk => by simpa using h2 k hk), all_true_of P.ss (fun e => decide (e.n.size ≤ 100)) (fun k hk => by simpa using h3 k hk)]
  simp [h0]
theorem few_bd {P : Pln} (h : fewB P = true) : P.es.length ≤ 60 ∧ P.js.length ≤ 120 ∧ P.ss.length ≤ 60 ∧ P.ls.length ≤ 20 ∧ (∀ l ∈ P.ls, l.es.length ≤ 60 ∧ l.n.size ≤ 100) ∧ (∀ e ∈ P.es, e.n.size ≤ 100) ∧ (∀ s ∈ P.ss, s.n.size ≤ 100) := by
  unfold fewB at h
  simp only [Bool.and_eq_true, decide_eq_true_eq, List.all_eq_true] at h
  refine ⟨h.1.1.1.1.1.1, h.1.1.1.1.1.2, h.1.1.1.1.2, h.1.1.1.2, fun l hl => ?_, h.1.2, h.2⟩
  have := h.1.1.2 l hl
  unfold fewL at this
  simpa using this
theorem flat_len_le : ∀ (l : List Ln) (n : Nat), (∀ x ∈ l, x.es.length ≤ n) → (l.flatMap (·.es)).length ≤ l.length * n
  | [], _, _ => by simp
  | x :: t, n, h => by
    have h1 := h x (by simp)
    have h2 := flat_len_le t n fun y hy => h y (by simp [hy])
    rw [List.flatMap_cons, List.length_append, List.length_cons, Nat.succ_mul]
    omega
theorem few_flat {P : Pln} (h : fewB P = true) : (P.ls.flatMap (·.es)).length ≤ 1200 := by
  obtain ⟨-, -, -, h4, h5, -, -⟩ := few_bd h
  have := flat_len_le P.ls 60 fun x hx => (h5 x hx).1
  have h6 : P.ls.length * 60 ≤ 20 * 60 := Nat.mul_le_mul_right 60 h4
  omega
set_option maxRecDepth 100000 in
set_option maxHeartbeats 1000000 in
theorem few_any (v : Value) (P : Pln) (w : World) (hP : IsPln w v P) :
    Calls Tryz.prog 13 #[v] w fun e w' => e = .returned (.bool (fewB P)) ∧ Gr w w' := by
  obtain ⟨a1, c1, a2, c2, a3, c3, a4, c4, rfl, h1, h2, h3, h4⟩ := hP
  have m1 := IsRow.len h1
  have m2 := IsRow.len h2
  have m3 := IsRow.len h3
  have m4 : P.ls.length ≤ maxLen := by obtain ⟨S, hS, -⟩ := h4; exact IsRow.len hS
  unfold maxLen at m1 m2 m3 m4
  have H1 := Lib.hid h1
  have H3 := Lib.hid h3
  have H4 := Lib.hid h4
  have HB := Lib.hid (bxW_box w P (.slice a1 P.es.length c1) (.slice a2 P.js.length c2) (.slice a3 P.ss.length c3) (.slice a4 P.ls.length c4))
  have hw0 := bxW_gr w P (.slice a1 P.es.length c1) (.slice a2 P.js.length c2) (.slice a3 P.ss.length c3) (.slice a4 P.ls.length c4)
  obtain ⟨wb, hwb⟩ : ∃ wb, wb = bxW w P (.slice a1 P.es.length c1) (.slice a2 P.js.length c2) (.slice a3 P.ss.length c3) (.slice a4 P.ls.length c4) := ⟨_, rfl⟩
  rw [← hwb] at HB hw0
  unfold plnV
  have HWB := Lib.hid hwb
  have HYES := Lib.hid (@fewB_yes P)
  clear h1 h2 h3 h4 hwb
  by_cases hlong : 60 < P.es.length ∨ 120 < P.js.length ∨ 60 < P.ss.length ∨ 20 < P.ls.length
  · have HC := Lib.hid (fewB_num hlong)
    have hcs : (60 < (P.es.length : Int)) ∨ (¬ 60 < (P.es.length : Int) ∧ 120 < (P.js.length : Int)) ∨ (¬ 60 < (P.es.length : Int) ∧ ¬ 120 < (P.js.length : Int) ∧ 60 < (P.ss.length : Int)) ∨ (¬ 60 < (P.es.length : Int) ∧ ¬ 120 < (P.js.length : Int) ∧ ¬ 60 < (P.ss.length : Int) ∧ 20 < (P.ls.length : Int)) := by omega
    clear hlong
    rcases hcs with l1 | ⟨l1, l2⟩ | ⟨l1, l2, l3⟩ | ⟨l1, l2, l3, l4⟩
    all_goals
      go_enter Tryz.func13, Tryz.ntmps13
      go_wp2
      go_ret
      exact ⟨ret_bool HC.out.symm, (Gr.refl _).alloc _⟩
  have HL0 : Hid (P.es.length ≤ 60 ∧ P.js.length ≤ 120 ∧ P.ss.length ≤ 60 ∧ P.ls.length ≤ 20) := by unfold Hid; omega
  obtain ⟨l1, l2, l3, l4⟩ : ¬ 60 < (P.es.length : Int) ∧ ¬ 120 < (P.js.length : Int) ∧ ¬ 60 < (P.ss.length : Int) ∧ ¬ 20 < (P.ls.length : Int) := by omega
  clear hlong
  go_enter Tryz.func13, Tryz.ntmps13
  go_wp2_with fail
  rw [show (w.alloc (.cells #[.slice a1 P.es.length c1, .slice a2 P.js.length c2, .slice a3 P.ss.length c3, .slice a4 P.ls.length c4, .int .i64 P.top, .int .i64 P.brake, .int .i64 P.margin, .int .i64 P.throw, .bool P.hard] 28)) = wb from HWB.out.symm]
  clear l1 l2 l3 l4
  have hbo := HB.out
  obtain ⟨zb, b0, b1, b2, b3, b4, b5, b6, b7, b8⟩ := hbo
  go_loopw [3] (fun i wr => ∃ k : Nat, i = .int .i64 k ∧ k ≤ P.ls.length ∧ wb = wr ∧ Hid (∀ j (hj : j < P.ls.length), j < k → fewL P.ls[j] = true)) (fun i _ => P.ls.length - (intOf i).toNat)
  case atStart => exact ⟨0, rfl, Nat.zero_le _, rfl, fun j _ h => by omega⟩
  case round =>
    obtain ⟨k, rfl, hk, rfl, HA⟩ := hrel
    by_cases hlt : k < P.ls.length
    · obtain ⟨b, o, u, hsome, zs, y0, y1, hu⟩ := (H4.out.gr hw0).at k hlt
      subst hsome
      obtain ⟨au, cu, rfl, -, -⟩ := hu
      simp only [List.length_map] at y1
      have hk1 : (k : Int) < (P.ls.length : Int) := by omega
      have HNO := Lib.hid (@fewB_ls P k hlt)
      have HA' : Hid (fewL P.ls[k] = true → ∀ j (hj : j < P.ls.length), j < k + 1 → fewL P.ls[j] = true) := by
        intro h j hj hjk
        by_cases e : j = k
        · subst e; exact h
        · exact HA.out j hj (by omega)
      have HF : Hid (fewL P.ls[k] = (decide (P.ls[k].es.length ≤ 60) && decide (P.ls[k].n.size ≤ 100))) := rfl
      clear HA
      generalize P.ls[k] = q at *
      obtain ⟨ln, le⟩ := q
      dsimp only at HF y0 y1
      by_cases q1 : 60 < le.length
      · have HR := Lib.hid (HNO.out (by rw [HF.out, decide_eq_false (by omega : ¬ le.length ≤ 60)]; rfl))
        have t1 : 60 < (le.length : Int) := by omega
        go_wp2
        go_ret
        exact ⟨ret_bool HR.out.symm, hw0⟩
      have t1 : ¬ 60 < (le.length : Int) := by omega
      by_cases q2 : 100 < ln.size
      · have HR := Lib.hid (HNO.out (by rw [HF.out, decide_eq_false (by omega : ¬ ln.size ≤ 100)]; simp))
        have t2 : 100 < (ln.size : Int) := by omega
        go_wp2
        go_ret
        exact ⟨ret_bool HR.out.symm, hw0⟩
      · have HG := Lib.hid (HA'.out (by rw [HF.out, decide_eq_true (by omega : ln.size ≤ 100), decide_eq_true (by omega : le.length ≤ 60)]; rfl))
        have t2 : ¬ 100 < (ln.size : Int) := by omega
        go_wp2
        go_roundw
        case rel => exact ⟨k + 1, by go_num, by omega, by trivial, HG.out⟩
        case measure => simp [intOf]; omega
    · have HY1 : Hid ((∀ k (hk : k < P.es.length), P.es[k].n.size ≤ 100) → (∀ k (hk : k < P.ss.length), P.ss[k].n.size ≤ 100) → fewB P = true) := fun h2 h3 => HYES.out HL0.out (fun j hj => HA.out j hj (by omega)) h2 h3
      clear HA HYES
      go_wp2_with fail
      go_loopw [4] (fun i wr => ∃ k : Nat, i = .int .i64 k ∧ k ≤ P.es.length ∧ wb = wr ∧ Hid (∀ j (hj : j < P.es.length), j < k → P.es[j].n.size ≤ 100)) (fun i _ => P.es.length - (intOf i).toNat)
      case atStart => exact ⟨0, rfl, Nat.zero_le _, rfl, fun j _ h => by omega⟩
      case round =>
        clear hlt hk
        obtain ⟨k, rfl, hk, rfl, HA⟩ := hrel
        by_cases hlt : k < P.es.length
        · obtain ⟨b, o, hsome, zs, y0, -, -⟩ := (H1.out.gr hw0).at k hlt
          subst hsome
          have hk1 : (k : Int) < (P.es.length : Int) := by omega
          have HNO := Lib.hid (@fewB_es P k hlt)
          have HA' : Hid (P.es[k].n.size ≤ 100 → ∀ j (hj : j < P.es.length), j < k + 1 → P.es[j].n.size ≤ 100) := by
            intro h j hj hjk
            by_cases e : j = k
            · subst e; exact h
            · exact HA.out j hj (by omega)
          clear HA
          generalize P.es[k].n = ln at *
          by_cases q2 : 100 < ln.size
          · have HR := Lib.hid (HNO.out q2)
            have t2 : 100 < (ln.size : Int) := by omega
            go_wp2
            go_ret
            exact ⟨ret_bool HR.out.symm, hw0⟩
          · have HG := Lib.hid (HA'.out (by omega))
            have t2 : ¬ 100 < (ln.size : Int) := by omega
            go_wp2
            go_roundw
            case rel => exact ⟨k + 1, by go_num, by omega, by trivial, HG.out⟩
            case measure => simp [intOf]; omega
        · have HY2 : Hid ((∀ k (hk : k < P.ss.length), P.ss[k].n.size ≤ 100) → fewB P = true) := fun h3 => HY1.out (fun j hj => HA.out j hj (by omega)) h3
          clear HA HY1
          go_wp2_with fail
          go_loopw [5] (fun i wr => ∃ k : Nat, i = .int .i64 k ∧ k ≤ P.ss.length ∧ wb = wr ∧ Hid (∀ j (hj : j < P.ss.length), j < k → P.ss[j].n.size ≤ 100)) (fun i _ => P.ss.length - (intOf i).toNat)
          case atStart => exact ⟨0, rfl, Nat.zero_le _, rfl, fun j _ h => by omega⟩
          case round =>
            clear hlt hk
            obtain ⟨k, rfl, hk, rfl, HA⟩ := hrel
            by_cases hlt : k < P.ss.length
            · obtain ⟨b, o, hsome, zs, y0, -, -, -⟩ := (H3.out.gr hw0).at k hlt
              subst hsome
              have hk1 : (k : Int) < (P.ss.length : Int) := by omega
              have HNO := Lib.hid (@fewB_ss P k hlt)
              have HA' : Hid (P.ss[k].n.size ≤ 100 → ∀ j (hj : j < P.ss.length), j < k + 1 → P.ss[j].n.size ≤ 100) := by
                intro h j hj hjk
                by_cases e : j = k
                · subst e; exact h
                · exact HA.out j hj (by omega)
              clear HA
              generalize P.ss[k].n = ln at *
              by_cases q2 : 100 < ln.size
              · have HR := Lib.hid (HNO.out q2)
                have t2 : 100 < (ln.size : Int) := by omega
                go_wp2
                go_ret
                exact ⟨ret_bool HR.out.symm, hw0⟩
              · have HG := Lib.hid (HA'.out (by omega))
                have t2 : ¬ 100 < (ln.size : Int) := by omega
                go_wp2
                go_roundw
                case rel => exact ⟨k + 1, by go_num, by omega, by trivial, HG.out⟩
                case measure => simp [intOf]; omega
            · have HR := Lib.hid (HY2.out fun j hj => HA.out j hj (by omega))
              clear HA
              go_wp2
              go_ret
              exact ⟨ret_bool HR.out.symm, hw0⟩
def fineB (P : Pln) : Bool := fewB P && decide (chk P = 0)
set_option maxRecDepth 100000 in
theorem fine_any (v : Value) (P : Pln) (w : World) (hP : IsPln w v P) (hk : PlnOk P) :
    Calls Tryz.prog 16 #[v] w fun e w' => e = .returned (.bool (fineB P)) ∧ Gr w w' := by
  obtain ⟨a1, c1, a2, c2, a3, c3, a4, c4, rfl, h1, h2, h3, h4⟩ := hP
  have HPv := Lib.hid (fun (w' : World) (g : Gr w w') => IsPln.mk (w' := w') h1 h2 h3 h4 g)
  have HB := Lib.hid (bxW_box w P (.slice a1 P.es.length c1) (.slice a2 P.js.length c2) (.slice a3 P.ss.length c3) (.slice a4 P.ls.length c4))
  have hw0 := bxW_gr w P (.slice a1 P.es.length c1) (.slice a2 P.js.length c2) (.slice a3 P.ss.length c3) (.slice a4 P.ls.length c4)
  have HFW := Lib.hid (fun (v' : Value) (w' : World) (h : IsPln w' v' P) => few_any v' P w' h)
  have HCK : Hid (fewB P = true → ∀ (v' : Value) (w' : World), IsPln w' v' P → Calls Tryz.prog 28 #[v'] w' fun e w'' => e = .returned (.int .i64 (chk P)) ∧ Gr w' w'') := fun hf v' w' h => refCheck_any v' P w' h hk (by have := few_flat hf; omega)
  have HFB : Hid (fineB P = (fewB P && decide (chk P = 0))) := rfl
  unfold plnV
  generalize fewB P = fb at *
  generalize chk P = ck at *
  clear h1 h2 h3 h4
  cases fb
  · go_enter Tryz.func16, Tryz.ntmps16
    go_wp2_with (go_at_call 13; refine (HFW.out _ _ (HPv.out _ hw0)).mono ?_; rintro e w5 ⟨rfl, h5⟩)
    go_ret
    exact ⟨ret_bool (by rw [HFB.out]; rfl), hw0.trans h5⟩
  · have HCK2 := Lib.hid (HCK.out rfl)
    by_cases hck : ck = 0
    · have t1 := beqT hck
      have HR : Hid (fineB P = true) := by unfold Hid; rw [HFB.out, decide_eq_true hck]; rfl
      clear hck
      go_enter Tryz.func16, Tryz.ntmps16
      go_wp2_with (first | (go_at_call 13; refine (HFW.out _ _ (HPv.out _ hw0)).mono ?_; rintro e w5 ⟨rfl, h5⟩; obtain ⟨zb5, d05, d15, d25, d35, d45, d55, d65, d75, d85⟩ := HB.out.gr h5) | (go_at_call 28; refine (HCK2.out _ _ (HPv.out _ (hw0.trans h5))).mono ?_; rintro e w6 ⟨rfl, h6⟩))
      go_ret
      exact ⟨ret_bool HR.out.symm, (hw0.trans h5).trans h6⟩
    · have t1 := beqF hck
      have HR : Hid (fineB P = false) := by unfold Hid; rw [HFB.out, decide_eq_false hck]; rfl
      clear hck
      go_enter Tryz.func16, Tryz.ntmps16
      go_wp2_with (first | (go_at_call 13; refine (HFW.out _ _ (HPv.out _ hw0)).mono ?_; rintro e w5 ⟨rfl, h5⟩; obtain ⟨zb5, d05, d15, d25, d35, d45, d55, d65, d75, d85⟩ := HB.out.gr h5) | (go_at_call 28; refine (HCK2.out _ _ (HPv.out _ (hw0.trans h5))).mono ?_; rintro e w6 ⟨rfl, h6⟩))
      go_ret
      exact ⟨ret_bool HR.out.symm, (hw0.trans h5).trans h6⟩
end Go.Proofs.YtjblplflgiibdaaGreatDoor
namespace Go.Proofs.YtjblplflgiibdaaGreatDoor
open Go.ChangeShapes Go.WideShapes Go.ChangeAt Go.RowKit Go.Maps
set_option linter.unusedVariables false
theorem i64_wrap (x : Int) : I64 (IntKind.i64.wrap x) := wf_wrap _ _
end Go.Proofs.YtjblplflgiibdaaGreatDoor
namespace Go.Proofs.YtjblplflgiibdaaGreatDoor
open Go.ChangeShapes Go.WideShapes Go.ChangeAt Go.RowKit
set_option linter.unusedVariables false
set_option linter.unusedSimpArgs false

def dgB (c : Int) : Bool := decide (48 ≤ c) && decide (c ≤ 57)
theorem dgB_iff (c : Int) : dgB c = true ↔ 48 ≤ c ∧ c ≤ 57 := by unfold dgB; simp
def nvB (s : ByteArray) : Nat → Int
  | 0 => 0
  | k + 1 => 10 * nvB s k + (bt s k - 48)
def allD (s : ByteArray) : Bool := (List.range s.size).all fun i => dgB (bt s i)
def numB (s : ByteArray) (d : Int) : Bool := decide (1 ≤ d) && decide (d ≤ 9) && decide (1 ≤ s.size) && decide ((s.size : Int) ≤ d) && !(decide (1 < s.size) && decide (bt s 0 = 48)) && allD s
def numN (s : ByteArray) (d : Int) : Int := if numB s d then nvB s s.size else 0
theorem allD_iff (s : ByteArray) : allD s = true ↔ ∀ i, i < s.size → 48 ≤ bt s i ∧ bt s i ≤ 57 := by
  unfold allD
  rw [List.all_eq_true]
  constructor
  · intro h i hi
    exact (dgB_iff _).1 (h i (List.mem_range.2 hi))
  · intro h i hi
    exact (dgB_iff _).2 (h i (List.mem_range.1 hi))
theorem numB_iff (s : ByteArray) (d : Int) : numB s d = true ↔ 1 ≤ d ∧ d ≤ 9 ∧ 1 ≤ s.size ∧ (s.size : Int) ≤ d ∧ ¬ (1 < s.size ∧ bt s 0 = 48) ∧ ∀ i, i < s.size → 48 ≤ bt s i ∧ bt s i ≤ 57 := by
  unfold numB
  rw [← allD_iff]
  simp only [Bool.and_eq_true, decide_eq_true_eq, Bool.not_eq_true', Bool.and_eq_false_iff, decide_eq_false_iff_not]
  constructor
  · rintro ⟨⟨⟨⟨⟨a, b⟩, c⟩, d⟩, e⟩, f⟩
    refine ⟨a, b, c, d, ?_, f⟩
    rintro ⟨g, h⟩
    rcases e with e | e
    · exact e g
    · exact e h
  · rintro ⟨a, b, c, d, e, f⟩
    refine ⟨⟨⟨⟨⟨a, b⟩, c⟩, d⟩, ?_⟩, f⟩
    rcases Classical.em (1 < s.size) with g | g
    · exact .inr fun h => e ⟨g, h⟩
    · exact .inl g
theorem numB_not {s : ByteArray} {d : Int} (h : ¬ (1 ≤ d ∧ d ≤ 9 ∧ 1 ≤ s.size ∧ (s.size : Int) ≤ d ∧ ¬ (1 < s.size ∧ bt s 0 = 48) ∧ ∀ i, i < s.size → 48 ≤ bt s i ∧ bt s i ≤ 57)) : numB s d = false ∧ numN s d = 0 := by
  have e : numB s d = false := by
    cases hq : numB s d with
    | false => rfl
    | true => exact absurd ((numB_iff s d).1 hq) h
  exact ⟨e, by unfold numN; rw [e]; rfl⟩
theorem nvB_bd (s : ByteArray) : ∀ k : Nat, (∀ i, i < k → 48 ≤ bt s i ∧ bt s i ≤ 57) → 0 ≤ nvB s k ∧ nvB s k < 10 ^ k
  | 0, _ => by simp [nvB]
  | k + 1, h => by
    have ih := nvB_bd s k fun i hi => h i (by omega)
    have hk := h k (by omega)
    have e : (10 : Int) ^ (k + 1) = 10 * 10 ^ k := by rw [Int.pow_succ, Int.mul_comm]
    simp only [nvB]
    omega
theorem pow_le9 (k : Nat) (h : k ≤ 8) : (10 : Int) ^ k ≤ 100000000 := by
  match k, h with
  | 0, _ => decide
  | 1, _ => decide
  | 2, _ => decide
  | 3, _ => decide
  | 4, _ => decide
  | 5, _ => decide
  | 6, _ => decide
  | 7, _ => decide
  | 8, _ => decide
end Go.Proofs.YtjblplflgiibdaaGreatDoor
namespace Go.Proofs.YtjblplflgiibdaaGreatDoor
open Go.ChangeShapes Go.WideShapes Go.ChangeAt Go.RowKit
set_option linter.unusedVariables false
set_option linter.unusedSimpArgs false
theorem toList_nil {s : ByteArray} : (s.toList = []) ↔ s.size = 0 := by
  rw [ByteArray.toList_eq]
  have hl : s.data.toList.length = s.size := by simp
  rw [← hl, List.length_eq_zero_iff]
set_option maxHeartbeats 800000 in
theorem number_any (s : ByteArray) (d : Int) (hs : s.size ≤ maxLen) (w : World) :
    Calls Tryz.prog 71 #[.string s, .int .i64 d] w fun e w' => e = .returned (.tuple #[.int .i64 (numN s d), .bool (numB s d)]) ∧ w' = w := by
  unfold maxLen at hs
  have hz1 : s.size = 0 → s.toList.isEmpty = true := fun h => by rw [List.isEmpty_iff]; exact toList_nil.2 h
  have hz2 : s.size ≠ 0 → s.toList.isEmpty = false := fun h => by
    cases hq : s.toList.isEmpty with
    | false => rfl
    | true => exact absurd (toList_nil.1 (List.isEmpty_iff.1 hq)) h
  by_cases h1 : d < 1
  · have hB := numB_not (s := s) (d := d) (by omega)
    have HB := Lib.hid hB
    clear hB hz1 hz2
    go_enter Tryz.func71, Tryz.ntmps71
    go_wp2
    go_ret2
    exact ⟨ret_ib HB.out.2.symm HB.out.1.symm, rfl⟩
  by_cases h2 : 9 < d
  · have hB := numB_not (s := s) (d := d) (by omega)
    have HB := Lib.hid hB
    clear hB hz1 hz2
    go_enter Tryz.func71, Tryz.ntmps71
    go_wp2
    go_ret2
    exact ⟨ret_ib HB.out.2.symm HB.out.1.symm, rfl⟩
  by_cases h3 : s.size = 0
  · have hB := numB_not (s := s) (d := d) (by omega)
    have HB := Lib.hid hB
    have hz := hz1 h3
    have hzz : s.size < 1 := by omega
    clear hB hz1 hz2 h3
    go_enter Tryz.func71, Tryz.ntmps71
    go_wp2
    go_ret2
    exact ⟨ret_ib HB.out.2.symm HB.out.1.symm, rfl⟩
  have hz := hz2 h3
  have h3' : 0 < s.size := by omega
  clear hz1 hz2 h3
  by_cases h4 : d < (s.size : Int)
  · have hB := numB_not (s := s) (d := d) (by omega)
    have HB := Lib.hid hB
    clear hB
    go_enter Tryz.func71, Tryz.ntmps71
    go_wp2
    go_ret2
    exact ⟨ret_ib HB.out.2.symm HB.out.1.symm, rfl⟩
  have HG := Lib.hid (bt_get s 0 h3')
  by_cases h5 : 1 < s.size ∧ bt s 0 = 48
  · have hB := numB_not (s := s) (d := d) (fun h => h.2.2.2.2.1 h5)
    have HB := Lib.hid hB
    obtain ⟨h51, h52⟩ := h5
    rw [HG.out] at h52
    have t1 : ((s[0].toNat : Int) == 48) = true := by rw [h52]; rfl
    have t3 : 1 < (s.size : Int) := by omega
    clear hB h52 HG
    go_enter Tryz.func71, Tryz.ntmps71
    go_wp2
    go_ret2
    exact ⟨ret_ib HB.out.2.symm HB.out.1.symm, rfl⟩
  have Hgo : Hid (∀ j : Nat, j ≤ s.size → (∀ i, i < j → 48 ≤ bt s i ∧ bt s i ≤ 57) → 0 ≤ nvB s j ∧ nvB s j < 10 ^ j) := fun j _ h => nvB_bd s j h
  have t5 : ((s[0].toNat : Int) == 48) = false ∨ (((s[0].toNat : Int) == 48) = true ∧ s.size = 1) := by
    rw [HG.out] at h5
    rcases Classical.em (s[0].toNat = 48) with h | h
    · right
      refine ⟨by rw [h]; rfl, ?_⟩
      have : ¬ 1 < s.size := fun h' => h5 ⟨h', by omega⟩
      omega
    · left
      rw [beq_eq_false_iff_ne]
      omega
  have H5 := Lib.hid h5
  clear h5 HG
  have h6 : s.size ≤ 9 := by omega
  have t6 : (((s[0].toNat : Int) == 48) = false ∧ 1 < (s.size : Int)) ∨ (((s[0].toNat : Int) == 48) = true ∧ ¬ 1 < (s.size : Int)) ∨ (((s[0].toNat : Int) == 48) = false ∧ ¬ 1 < (s.size : Int)) := by
    rcases t5 with h | ⟨h, h'⟩
    · rcases Classical.em (1 < (s.size : Int)) with g | g
      · exact .inl ⟨h, g⟩
      · exact .inr (.inr ⟨h, g⟩)
    · exact .inr (.inl ⟨h, by omega⟩)
  clear t5
  rcases t6 with ⟨t5, t7⟩ | ⟨t5, t7⟩ | ⟨t5, t7⟩
  all_goals
    go_enter Tryz.func71, Tryz.ntmps71
    go_wp2
    go_loop [6, 7] (fun n i => ∃ (k : Nat) (N : Int), i = .int .i64 k ∧ n = .int .i64 N ∧ k ≤ s.size ∧ 0 ≤ N ∧ N < 1000000000 ∧ Hid (N = nvB s k) ∧ Hid (∀ j, j < k → 48 ≤ bt s j ∧ bt s j ≤ 57)) (fun _ i => s.size - (intOf i).toNat)
    case atStart => exact ⟨0, 0, rfl, rfl, by omega, by omega, by omega, rfl, fun j hj => by omega⟩
    case round =>
      obtain ⟨k, N, rfl, rfl, hk, n0, n1, HN, HD⟩ := hrel
      by_cases hlt : k < s.size
      · have hg := bt_get s k hlt
        by_cases hd : 48 ≤ bt s k ∧ bt s k ≤ 57
        · have HD' : Hid (∀ j, j < k + 1 → 48 ≤ bt s j ∧ bt s j ≤ 57) := by
            intro j hj
            by_cases e : j = k
            · rw [e]; exact hd
            · exact HD.out j (by omega)
          have hb := nvB_bd s k HD.out
          have hp := pow_le9 k (by omega)
          have n2 : N < 100000000 := by have := HN.out; omega
          have HN' : Hid (10 * N + (bt s k - 48) = nvB s (k + 1)) := by unfold Hid; rw [HN.out]; rfl
          have hN2 := HN'.out
          rw [hg] at hd hN2
          have HN3 := Lib.hid hN2
          obtain ⟨d1, d2⟩ := hd
          clear hg HN HD hb hp HN' hN2
          go_wp2
          all_goals try (go_quiet (fail); go_wp2)
          all_goals go_round
          all_goals try (case rel => exact ⟨k + 1, _, by go_num, rfl, by omega, by omega, by omega, by first | exact HN3 | (unfold Hid; rw [← HN3.out]; omega), HD'⟩)
          all_goals try (case measure => simp [intOf]; omega)
        · have hB := numB_not (s := s) (d := d) (fun h => hd (h.2.2.2.2.2 k hlt))
          have HB := Lib.hid hB
          rw [hg] at hd
          clear hg HN HD hB
          go_wp2
          all_goals try (exfalso; omega)
          all_goals go_ret2
          all_goals exact ⟨ret_ib HB.out.2.symm HB.out.1.symm, rfl⟩
      · have e : k = s.size := by omega
        have hB : numB s d = true := (numB_iff s d).2 ⟨by omega, by omega, by omega, by omega, H5.out, fun i hi => HD.out i (by omega)⟩
        have hN : N = numN s d := by unfold numN; rw [hB, HN.out, e]; rfl
        have HB := Lib.hid hB
        have HNN := Lib.hid hN
        clear HN HD hB hN e
        go_wp2
        go_ret2
        exact ⟨ret_ib HNN.out HB.out.symm, rfl⟩
end Go.Proofs.YtjblplflgiibdaaGreatDoor
namespace Go.Proofs.YtjblplflgiibdaaGreatDoor
open Go.ChangeShapes Go.WideShapes Go.ChangeAt Go.RowKit
set_option linter.unusedVariables false
set_option linter.unusedSimpArgs false

theorem letter_any (c : Int) (w : World) : Calls Tryz.prog 95 #[.int .u8 c] w fun e w' => e = .returned (.bool (letB c)) ∧ w' = w := by
  go_enter Tryz.func95, Tryz.ntmps95
  go_wp2
  all_goals go_ret
  all_goals (refine ⟨ret_bool ?_, rfl⟩; unfold letB; by_cases a1 : 97 ≤ c <;> by_cases a2 : c ≤ 122 <;> by_cases a3 : 65 ≤ c <;> by_cases a4 : c ≤ 90 <;> simp [a1, a2, a3, a4] <;> omega)
theorem nmB_empty {s : ByteArray} (h : s.size = 0) : nmB s = false := by unfold nmB; simp [h]
theorem nmB_long {s : ByteArray} (h : 8 < s.size) : nmB s = false := by unfold nmB; rw [decide_eq_false (by omega : ¬ s.size ≤ 8)]; simp
theorem letB_okc0 (c : Int) : okc 0 c = letB c := by unfold okc; simp
set_option maxRecDepth 100000 in
set_option maxHeartbeats 400000 in
theorem name_any (s : ByteArray) (hs : s.size ≤ maxLen) (w : World) :
    Calls Tryz.prog 70 #[.string s] w fun e w' => e = .returned (.bool (nmB s)) ∧ w' = w := by
  unfold maxLen at hs
  by_cases h0 : s.size = 0
  · have hz : s.toList.isEmpty = true := by rw [List.isEmpty_iff]; exact toList_nil.2 h0
    have HB := Lib.hid (nmB_empty h0)
    clear h0
    go_enter Tryz.func70, Tryz.ntmps70
    go_wp2
    go_ret
    exact ⟨ret_bool HB.out.symm, rfl⟩
  have hz : s.toList.isEmpty = false := by
    cases hq : s.toList.isEmpty with
    | false => rfl
    | true => exact absurd (toList_nil.1 (List.isEmpty_iff.1 hq)) h0
  by_cases h8 : 8 < s.size
  · have HB := Lib.hid (nmB_long h8)
    have h8' : (8 : Int) < (s.size : Int) := by omega
    clear h0
    go_enter Tryz.func70, Tryz.ntmps70
    go_wp2
    go_ret
    exact ⟨ret_bool HB.out.symm, rfl⟩
  have h0' : 0 < s.size := by omega
  have h0i : (0 : Int) < (s.size : Int) := by omega
  have h8i : ¬ (8 : Int) < (s.size : Int) := by omega
  have HG := Lib.hid (bt_get s 0 h0')
  cases hl : letB (bt s 0) with
  | false =>
    have HB := Lib.hid (nmB_bad s 0 h0' (by rw [letB_okc0]; exact hl))
    rw [HG.out] at hl
    have HLt := Lib.hid hl
    clear hl HG h0
    go_enter Tryz.func70, Tryz.ntmps70
    go_wp2_with fail
    refine (letter_any _ _).mono ?_
    rintro e w1 ⟨rfl, rfl⟩
    rw [HLt.out]
    go_wp2_with fail
    go_ret
    exact ⟨ret_bool HB.out.symm, rfl⟩
  | true =>
    have HO : Hid (okc 0 (bt s 0) = true) := by unfold Hid; rw [letB_okc0]; exact hl
    have hl2 := hl
    rw [HG.out] at hl2
    have HLt := Lib.hid hl2
    clear hl hl2 HG h0
    go_enter Tryz.func70, Tryz.ntmps70
    go_wp2_with fail
    refine (letter_any _ _).mono ?_
    rintro e w1 ⟨rfl, rfl⟩
    rw [HLt.out]
    go_wp2_with fail
    go_loopg [3] s.size (fun gh x3 wx => ∃ k : Nat, k + gh = s.size + 1 ∧ x3 = .int .i64 k ∧ 1 ≤ k ∧ Hid (∀ j, j < k → j < s.size → okc j (bt s j) = true) ∧ w1 = wx)
    case atStart => exact ⟨1, by omega, rfl, by omega, fun j hj h => by (obtain rfl : j = 0 := by omega); exact HO.out, rfl⟩
    case round =>
      obtain ⟨k, hkg, rfl, hk1, HA, rfl⟩ := hrel
      have HKG := Lib.hid hkg
      clear hkg
      by_cases hlt : k < s.size
      · have HK := Lib.hid (bt_get s k hlt)
        have ki : (k : Int) < (s.size : Int) := by omega
        cases hlk : letB (bt s k) with
        | true =>
          have HN : Hid (∀ j, j < k + 1 → j < s.size → okc j (bt s j) = true) := by
            intro j hj h
            by_cases e : j = k
            · subst e; unfold okc; rw [hlk]; rfl
            · exact HA.out j (by omega) h
          rw [HK.out] at hlk
          have HL2 := Lib.hid hlk
          clear hlk HA HK
          go_wp2_with fail
          refine (letter_any _ _).mono ?_
          rintro e w2 ⟨rfl, rfl⟩
          rw [HL2.out]
          go_wp2_with fail
          go_roundg (s.size - k)
          case measure => have := HKG.out; omega
          case rel => exact ⟨k + 1, by have := HKG.out; omega, by go_num, by omega, HN.out, rfl⟩
        | false =>
          by_cases hd : 48 ≤ bt s k ∧ bt s k ≤ 57
          · have HN : Hid (∀ j, j < k + 1 → j < s.size → okc j (bt s j) = true) := by
              intro j hj h
              by_cases e : j = k
              · subst e; exact okc_mk _ _ (.inr (.inr ⟨by omega, hd⟩))
              · exact HA.out j (by omega) h
            rw [HK.out] at hlk hd
            have HL2 := Lib.hid hlk
            obtain ⟨hd1, hd2⟩ := hd
            clear hlk HA HK
            go_wp2_with fail
            refine (letter_any _ _).mono ?_
            rintro e w2 ⟨rfl, rfl⟩
            rw [HL2.out]
            go_wp2_with fail
            go_roundg (s.size - k)
            case measure => have := HKG.out; omega
            case rel => exact ⟨k + 1, by have := HKG.out; omega, by go_num, by omega, HN.out, rfl⟩
          · have HB := Lib.hid (nmB_bad s k hlt (by
              unfold okc
              rw [hlk, decide_eq_true (by omega : k ≠ 0)]
              unfold digB
              simp; omega))
            rw [HK.out] at hlk hd
            have HL2 := Lib.hid hlk
            have hd' : ¬ 48 ≤ (s[k].toNat : Int) ∨ ¬ (s[k].toNat : Int) ≤ 57 := by omega
            clear hlk HA HK hd
            rcases hd' with hd' | hd'
            all_goals
              go_wp2_with fail
              refine (letter_any _ _).mono ?_
              rintro e w2 ⟨rfl, rfl⟩
              rw [HL2.out]
              go_wp2_with fail
              all_goals go_ret
              all_goals exact ⟨ret_bool HB.out.symm, rfl⟩
      · have HB := Lib.hid (nmB_good s fun i hi => HA.out i (by omega) hi)
        clear HA
        go_wp2
        go_ret
        refine ⟨ret_bool ?_, rfl⟩
        rw [HB.out]
        have a1 : 1 ≤ s.size := by omega
        have a2 : s.size ≤ 8 := by omega
        simp [a1, a2]
end Go.Proofs.YtjblplflgiibdaaGreatDoor
namespace Go.Proofs.YtjblplflgiibdaaGreatDoor
open Go.ChangeShapes Go.WideShapes Go.ChangeAt Go.RowKit
set_option linter.unusedVariables false
set_option linter.unusedSimpArgs false
theorem nums_cases (P : Pln) : (numsB P = true ∧ 1 ≤ P.top ∧ P.top ≤ 60 ∧ 1 ≤ P.brake ∧ P.brake ≤ 10 ∧ 1 ≤ P.margin ∧ P.margin ≤ 4000 ∧ 1 ≤ P.throw ∧ P.throw ≤ 20 ∧ 0 < P.es.length) ∨
    (numsB P = false ∧ (P.top < 1 ∨ (1 ≤ P.top ∧ 60 < P.top) ∨ (1 ≤ P.top ∧ P.top ≤ 60 ∧ P.brake < 1) ∨ (1 ≤ P.top ∧ P.top ≤ 60 ∧ 1 ≤ P.brake ∧ 10 < P.brake) ∨ (1 ≤ P.top ∧ P.top ≤ 60 ∧ 1 ≤ P.brake ∧ P.brake ≤ 10 ∧ P.margin < 1) ∨
      (1 ≤ P.top ∧ P.top ≤ 60 ∧ 1 ≤ P.brake ∧ P.brake ≤ 10 ∧ 1 ≤ P.margin ∧ 4000 < P.margin) ∨ (1 ≤ P.top ∧ P.top ≤ 60 ∧ 1 ≤ P.brake ∧ P.brake ≤ 10 ∧ 1 ≤ P.margin ∧ P.margin ≤ 4000 ∧ P.throw < 1) ∨
      (1 ≤ P.top ∧ P.top ≤ 60 ∧ 1 ≤ P.brake ∧ P.brake ≤ 10 ∧ 1 ≤ P.margin ∧ P.margin ≤ 4000 ∧ 1 ≤ P.throw ∧ 20 < P.throw) ∨ (1 ≤ P.top ∧ P.top ≤ 60 ∧ 1 ≤ P.brake ∧ P.brake ≤ 10 ∧ 1 ≤ P.margin ∧ P.margin ≤ 4000 ∧ 1 ≤ P.throw ∧ P.throw ≤ 20 ∧ ((P.es.length : Int) == 0) = true))) := by
  have hb : numsB P = decide ((1 ≤ P.top ∧ P.top ≤ 60) ∧ (1 ≤ P.brake ∧ P.brake ≤ 10) ∧ (1 ≤ P.margin ∧ P.margin ≤ 4000) ∧ (1 ≤ P.throw ∧ P.throw ≤ 20) ∧ 0 < P.es.length) := by
    rw [Bool.eq_iff_iff]
    unfold numsB inB
    simp only [Bool.and_eq_true, decide_eq_true_eq, Bool.not_eq_true', decide_eq_false_iff_not]
    omega
  have e0 : ((P.es.length : Int) == 0) = true ↔ P.es.length = 0 := by rw [beq_iff_eq]; omega
  rw [hb, e0]
  rcases Int.lt_or_le P.top (1) with h1 | h1
  · exact .inr ⟨decide_eq_false (by omega), .inl h1⟩
  rcases Int.lt_or_le (60) P.top with h2 | h2
  · exact .inr ⟨decide_eq_false (by omega), .inr (.inl (⟨h1, h2⟩))⟩
  rcases Int.lt_or_le P.brake (1) with h3 | h3
  · exact .inr ⟨decide_eq_false (by omega), .inr (.inr (.inl (⟨h1, h2, h3⟩)))⟩
  rcases Int.lt_or_le (10) P.brake with h4 | h4
  · exact .inr ⟨decide_eq_false (by omega), .inr (.inr (.inr (.inl (⟨h1, h2, h3, h4⟩))))⟩
  rcases Int.lt_or_le P.margin (1) with h5 | h5
  · exact .inr ⟨decide_eq_false (by omega), .inr (.inr (.inr (.inr (.inl (⟨h1, h2, h3, h4, h5⟩)))))⟩
  rcases Int.lt_or_le (4000) P.margin with h6 | h6
  · exact .inr ⟨decide_eq_false (by omega), .inr (.inr (.inr (.inr (.inr (.inl (⟨h1, h2, h3, h4, h5, h6⟩))))))⟩
  rcases Int.lt_or_le P.throw (1) with h7 | h7
  · exact .inr ⟨decide_eq_false (by omega), .inr (.inr (.inr (.inr (.inr (.inr (.inl (⟨h1, h2, h3, h4, h5, h6, h7⟩)))))))⟩
  rcases Int.lt_or_le (20) P.throw with h8 | h8
  · exact .inr ⟨decide_eq_false (by omega), .inr (.inr (.inr (.inr (.inr (.inr (.inr (.inl (⟨h1, h2, h3, h4, h5, h6, h7, h8⟩))))))))⟩
  rcases Nat.eq_zero_or_pos P.es.length with h9 | h9
  · exact .inr ⟨decide_eq_false (by omega), .inr (.inr (.inr (.inr (.inr (.inr (.inr (.inr ⟨h1, h2, h3, h4, h5, h6, h7, h8, h9⟩)))))))⟩
  · exact .inl ⟨decide_eq_true (by omega), h1, h2, h3, h4, h5, h6, h7, h8, h9⟩
set_option maxRecDepth 100000 in
set_option maxHeartbeats 1000000 in
theorem numbers_any (v : Value) (P : Pln) (w : World) (hP : IsPln w v P) (hk : PlnOk P) :
    Calls Tryz.prog 45 #[v] w fun e w' => e = .returned (.bool (argsB P)) ∧ Gr w w' := by
  obtain ⟨a1, c1, a2, c2, a3, c3, a4, c4, rfl, h1, h2, h3, h4⟩ := hP
  have m1 := IsRow.len h1
  have m3 := IsRow.len h3
  have m4 : P.ls.length ≤ maxLen := by obtain ⟨S, hS, -⟩ := h4; exact IsRow.len hS
  unfold maxLen at m1 m3 m4
  have H1 := Lib.hid h1
  have H3 := Lib.hid h3
  have H4 := Lib.hid h4
  have HB := Lib.hid (bxW_box w P (.slice a1 P.es.length c1) (.slice a2 P.js.length c2) (.slice a3 P.ss.length c3) (.slice a4 P.ls.length c4))
  have hw0 := bxW_gr w P (.slice a1 P.es.length c1) (.slice a2 P.js.length c2) (.slice a3 P.ss.length c3) (.slice a4 P.ls.length c4)
  obtain ⟨wb, hwb⟩ : ∃ wb, wb = bxW w P (.slice a1 P.es.length c1) (.slice a2 P.js.length c2) (.slice a3 P.ss.length c3) (.slice a4 P.ls.length c4) := ⟨_, rfl⟩
  rw [← hwb] at HB hw0
  unfold plnV
  have HWB := Lib.hid hwb
  have HK := Lib.hid hk
  have HNO := Lib.hid (@argsB_num P)
  clear h1 h2 h3 h4 hwb hk
  have HYES := Lib.hid (@argsB_yes P)
  rcases nums_cases P with ⟨hT, l1, l2, l3, l4, l5, l6, l7, l8, l9⟩ | ⟨hF, hc⟩
  rotate_left
  · have HR := Lib.hid (HNO.out hF)
    clear hF
    rcases hc with l1 | ⟨l1, l2⟩ | ⟨l1, l2, l3⟩ | ⟨l1, l2, l3, l4⟩ | ⟨l1, l2, l3, l4, l5⟩ | ⟨l1, l2, l3, l4, l5, l6⟩ | ⟨l1, l2, l3, l4, l5, l6, l7⟩ | ⟨l1, l2, l3, l4, l5, l6, l7, l8⟩ | ⟨l1, l2, l3, l4, l5, l6, l7, l8, l9⟩
    all_goals
      go_enter Tryz.func45, Tryz.ntmps45
      go_wp2_with fail
      go_step3
      go_wp2
      try rw [Exit.noGoto_ret]
      go_ret
      exact ⟨ret_bool HR.out.symm, (Gr.refl _).alloc _⟩
  have HT := Lib.hid hT
  have t1 : ((P.es.length : Int) == 0) = false := beqF (by omega)
  clear hT HNO
  go_enter Tryz.func45, Tryz.ntmps45
  go_wp2_with fail
  go_step3
  go_wp2_with fail
  rw [show (w.alloc (.cells #[.slice a1 P.es.length c1, .slice a2 P.js.length c2, .slice a3 P.ss.length c3, .slice a4 P.ls.length c4, .int .i64 P.top, .int .i64 P.brake, .int .i64 P.margin, .int .i64 P.throw, .bool P.hard] 28)) = wb from HWB.out.symm]
  clear t1 l1 l2 l3 l4 l5 l6 l7 l8 l9
  have hbo := HB.out
  obtain ⟨zb, b0, b1, b2, b3, b4, b5, b6, b7, b8⟩ := hbo
  go_step3
  go_wp2_with fail
  clear zb b0 b1 b2 b3 b4 b5 b6 b7 b8
  go_loopw [56] (fun i wr => ∃ k : Nat, i = .int .i64 k ∧ k ≤ P.es.length ∧ Gr wb wr ∧ Hid (∀ j (hj : j < P.es.length), j < k → eleB P.es[j] = true)) (fun i _ => P.es.length - (intOf i).toNat)
  case atStart => exact ⟨0, rfl, Nat.zero_le _, Gr.refl _, fun j hj h => by omega⟩
  case round =>
    obtain ⟨k, rfl, hk, g, HA⟩ := hrel
    have hbo := HB.out.gr g
    obtain ⟨zb, b0, b1, b2, b3, b4, b5, b6, b7, b8⟩ := hbo
    by_cases hlt : k < P.es.length
    · obtain ⟨b, o, hsome, zs, y0, y1, y2⟩ := (H1.out.gr (hw0.trans g)).at k hlt
      subst hsome
      have HBAD := Lib.hid (@argsB_es P k hlt)
      have HA' : Hid (eleB P.es[k] = true → ∀ j (hj : j < P.es.length), j < k + 1 → eleB P.es[j] = true) := by
        intro h j hj hjk
        by_cases e : j = k
        · subst e; exact h
        · exact HA.out j hj (by omega)
      have HZN := Lib.hid (HK.out.es _ (List.getElem_mem hlt)).2.2
      have hk1 : (k : Int) < (P.es.length : Int) := by omega
      clear HA
      have HE : Hid (eleB P.es[k] = (nmB P.es[k].n && !decide (endsK P.es[k].k = 0) && (if P.es[k].k = 4 then decide (P.es[k].l = 0) else inB P.es[k].l 1 4000))) := rfl
      generalize P.es[k] = q at *
      obtain ⟨qn, qk, ql⟩ := q
      dsimp only at HE y0 y1 y2 HZN
      have LQ : (Instr.loadAt 42 (.pointer (some ⟨b, o + k * 3, none⟩))).run Tryz.prog wr = .ok (.agg #[.string qn, .int .i64 qk, .int .i64 ql]) wr :=
        run_loadAt_mid wr b (o + k * 3) 42 [.string qn, .int .i64 qk, .int .i64 ql] _ (fun j v h => by
          match j, h with
          | 0, h => cases h; exact y0
          | 1, h => cases h; exact y1
          | 2, h => cases h; exact y2) Tryz.underlying42 rfl (by kernel_rfl)
      have HNM := Lib.hid (fun w => name_any qn HZN.out w)
      have HEN := Lib.hid (fun w => ends_any qk w)
      generalize nmB qn = nb at HE HNM
      generalize endsK qk = en at HE HEN
      cases nb
      · have HR := Lib.hid (HBAD.out (by rw [HE.out]; rfl))
        (go_wp2_with (first | (go_at_call 70; (with_reducible refine (HNM.out _).mono ?_); rintro e w' ⟨rfl, hq⟩; obtain rfl := hq.symm) | (go_at_call 77; (with_reducible refine (HEN.out _).mono ?_); rintro e w' ⟨rfl, hq⟩; obtain rfl := hq.symm)); (try rw [Exit.noGoto_ret]); go_ret; exact ⟨ret_bool HR.out.symm, (hw0.trans g).alloc _⟩)
      by_cases hen : en = 0
      · have HR := Lib.hid (HBAD.out (by rw [HE.out, hen]; rfl))
        have t1 : (en == 0) = true := by simpa using hen
        clear hen
        (go_wp2_with (first | (go_at_call 70; (with_reducible refine (HNM.out _).mono ?_); rintro e w' ⟨rfl, hq⟩; obtain rfl := hq.symm) | (go_at_call 77; (with_reducible refine (HEN.out _).mono ?_); rintro e w' ⟨rfl, hq⟩; obtain rfl := hq.symm)); (try rw [Exit.noGoto_ret]); go_ret; exact ⟨ret_bool HR.out.symm, (hw0.trans g).alloc _⟩)
      have t1 : (en == 0) = false := by simpa using hen
      by_cases hqk : qk = 4
      · have t2 : (qk == 4) = true := by simpa using hqk
        have t3 : (qk != 4) = false := by simpa using hqk
        by_cases hql : ql = 0
        · have HG := Lib.hid (HA'.out (by rw [HE.out, if_pos hqk, hql]; simp [hen]))
          have t4 : (ql != 0) = false := by simpa using hql
          clear hen hqk hql
          (go_wp2_with (first | (go_at_call 70; (with_reducible refine (HNM.out _).mono ?_); rintro e w' ⟨rfl, hq⟩; obtain rfl := hq.symm) | (go_at_call 77; (with_reducible refine (HEN.out _).mono ?_); rintro e w' ⟨rfl, hq⟩; obtain rfl := hq.symm)); go_roundw; (case rel => exact ⟨k + 1, by go_num, by omega, g.alloc _, HG.out⟩); (case measure => simp [intOf]; omega))
        · have HR := Lib.hid (HBAD.out (by rw [HE.out, if_pos hqk]; simp [hql]))
          have t4 : (ql != 0) = true := by simpa using hql
          clear hen hqk hql
          (go_wp2_with (first | (go_at_call 70; (with_reducible refine (HNM.out _).mono ?_); rintro e w' ⟨rfl, hq⟩; obtain rfl := hq.symm) | (go_at_call 77; (with_reducible refine (HEN.out _).mono ?_); rintro e w' ⟨rfl, hq⟩; obtain rfl := hq.symm)); (try rw [Exit.noGoto_ret]); go_ret; exact ⟨ret_bool HR.out.symm, (hw0.trans g).alloc _⟩)
      · have t2 : (qk == 4) = false := by simpa using hqk
        have t3 : (qk != 4) = true := by simpa using hqk
        by_cases hq1 : ql < 1
        · have HR := Lib.hid (HBAD.out (by rw [HE.out, if_neg hqk]; unfold inB; rw [decide_eq_false (by omega : ¬ 1 ≤ ql)]; simp))
          clear hen hqk
          (go_wp2_with (first | (go_at_call 70; (with_reducible refine (HNM.out _).mono ?_); rintro e w' ⟨rfl, hq⟩; obtain rfl := hq.symm) | (go_at_call 77; (with_reducible refine (HEN.out _).mono ?_); rintro e w' ⟨rfl, hq⟩; obtain rfl := hq.symm)); (try rw [Exit.noGoto_ret]); go_ret; exact ⟨ret_bool HR.out.symm, (hw0.trans g).alloc _⟩)
        by_cases hq2 : 4000 < ql
        · have HR := Lib.hid (HBAD.out (by rw [HE.out, if_neg hqk]; unfold inB; rw [decide_eq_false (by omega : ¬ ql ≤ 4000)]; simp))
          clear hen hqk
          (go_wp2_with (first | (go_at_call 70; (with_reducible refine (HNM.out _).mono ?_); rintro e w' ⟨rfl, hq⟩; obtain rfl := hq.symm) | (go_at_call 77; (with_reducible refine (HEN.out _).mono ?_); rintro e w' ⟨rfl, hq⟩; obtain rfl := hq.symm)); (try rw [Exit.noGoto_ret]); go_ret; exact ⟨ret_bool HR.out.symm, (hw0.trans g).alloc _⟩)
        · have HG := Lib.hid (HA'.out (by rw [HE.out, if_neg hqk]; unfold inB; rw [decide_eq_true (by omega : 1 ≤ ql), decide_eq_true (by omega : ql ≤ 4000)]; simp [hen]))
          clear hen hqk
          (go_wp2_with (first | (go_at_call 70; (with_reducible refine (HNM.out _).mono ?_); rintro e w' ⟨rfl, hq⟩; obtain rfl := hq.symm) | (go_at_call 77; (with_reducible refine (HEN.out _).mono ?_); rintro e w' ⟨rfl, hq⟩; obtain rfl := hq.symm)); go_roundw; (case rel => exact ⟨k + 1, by go_num, by omega, g.alloc _, HG.out⟩); (case measure => simp [intOf]; omega))
    · have HY2 : Hid ((∀ k (hk : k < P.ss.length), nmB P.ss[k].n = true) → (∀ k (hk : k < P.ls.length), nmB P.ls[k].n = true) → argsB P = true) := fun h2 h3 => HYES.out HT.out (fun j hj => HA.out j hj (by omega)) h2 h3
      clear HA HYES HT
      go_wp2_with fail
      clear zb b0 b1 b2 b3 b4 b5 b6 b7 b8 hlt hk
      have HB1 := Lib.hid (HB.out.gr g)
      have hw1 := hw0.trans g
      obtain ⟨wa, hwa⟩ : ∃ wa, wa = wr := ⟨_, rfl⟩
      subst hwa
      clear g
      go_loopw [91] (fun i wr => ∃ k : Nat, i = .int .i64 k ∧ k ≤ P.ss.length ∧ Gr wa wr ∧ Hid (∀ j (hj : j < P.ss.length), j < k → nmB P.ss[j].n = true)) (fun i _ => P.ss.length - (intOf i).toNat)
      case atStart => exact ⟨0, rfl, Nat.zero_le _, Gr.refl _, fun j hj h => by omega⟩
      case round =>
        obtain ⟨k, rfl, hk, g, HA⟩ := hrel
        have hbo := HB1.out.gr g
        obtain ⟨zb, b0, b1, b2, b3, b4, b5, b6, b7, b8⟩ := hbo
        by_cases hlt : k < P.ss.length
        · obtain ⟨b, o, hsome, zs, y0, y1, y2, y3⟩ := (H3.out.gr (hw1.trans g)).at k hlt
          subst hsome
          have HBAD := Lib.hid (@argsB_ss P k hlt)
          have HA' : Hid (nmB P.ss[k].n = true → ∀ j (hj : j < P.ss.length), j < k + 1 → nmB P.ss[j].n = true) := by
            intro h j hj hjk
            by_cases e : j = k
            · subst e; exact h
            · exact HA.out j hj (by omega)
          have HZN := Lib.hid (HK.out.ss _ (List.getElem_mem hlt)).2.2
          have hk1 : (k : Int) < (P.ss.length : Int) := by omega
          clear HA
          obtain ⟨q, hq⟩ : ∃ q, q = P.ss[k] := ⟨_, rfl⟩
          rw [← hq] at y0 y1 y2 y3 HBAD HA' HZN
          clear hq
          obtain ⟨qn, ⟨qe, qx⟩, qa⟩ := q
          dsimp only at y0 y1 y2 y3 HBAD HA' HZN
          have HNM := Lib.hid (fun w => name_any qn HZN.out w)
          generalize nmB qn = nb at *
          cases nb
          · have HR := Lib.hid (HBAD.out rfl)
            go_wp2_with (go_at_call 70; (with_reducible refine (HNM.out _).mono ?_); rintro e w' ⟨rfl, hq⟩; obtain rfl := hq.symm)
            try rw [Exit.noGoto_ret]
            go_ret
            exact ⟨ret_bool HR.out.symm, (hw1.trans g).alloc _⟩
          · have HG := Lib.hid (HA'.out rfl)
            go_wp2_with (go_at_call 70; (with_reducible refine (HNM.out _).mono ?_); rintro e w' ⟨rfl, hq⟩; obtain rfl := hq.symm)
            go_roundw
            case rel => exact ⟨k + 1, by go_num, by omega, g.alloc _, HG.out⟩
            case measure => simp [intOf]; omega
        · have HY3 : Hid ((∀ k (hk : k < P.ls.length), nmB P.ls[k].n = true) → argsB P = true) := fun h3 => HY2.out (fun j hj => HA.out j hj (by omega)) h3
          clear HA HY2
          go_wp2_with fail
          clear zb b0 b1 b2 b3 b4 b5 b6 b7 b8 hlt hk
          go_loopw [103] (fun i wr => ∃ k : Nat, i = .int .i64 k ∧ k ≤ P.ls.length ∧ Gr wa wr ∧ Hid (∀ j (hj : j < P.ls.length), j < k → nmB P.ls[j].n = true)) (fun i _ => P.ls.length - (intOf i).toNat)
          case atStart => exact ⟨0, rfl, Nat.zero_le _, g, fun j hj h => by omega⟩
          case round =>
            obtain ⟨k, rfl, hk, g, HA⟩ := hrel
            have hbo := HB1.out.gr g
            obtain ⟨zb, b0, b1, b2, b3, b4, b5, b6, b7, b8⟩ := hbo
            by_cases hlt : k < P.ls.length
            · obtain ⟨b, o, u, hsome, zs, y0, y1, hu⟩ := (H4.out.gr (hw1.trans g)).at k hlt
              subst hsome
              obtain ⟨au, cu, rfl, -, -⟩ := hu
              have HBAD := Lib.hid (@argsB_ls P k hlt)
              have HA' : Hid (nmB P.ls[k].n = true → ∀ j (hj : j < P.ls.length), j < k + 1 → nmB P.ls[j].n = true) := by
                intro h j hj hjk
                by_cases e : j = k
                · subst e; exact h
                · exact HA.out j hj (by omega)
              have HZN := Lib.hid (HK.out.ls _ (List.getElem_mem hlt)).1
              have hk1 : (k : Int) < (P.ls.length : Int) := by omega
              clear HA
              generalize P.ls[k].n = qn at *
              have HNM := Lib.hid (fun w => name_any qn HZN.out w)
              generalize nmB qn = nb at *
              cases nb
              · have HR := Lib.hid (HBAD.out rfl)
                go_wp2_with (go_at_call 70; (with_reducible refine (HNM.out _).mono ?_); rintro e w' ⟨rfl, hq⟩; obtain rfl := hq.symm)
                try rw [Exit.noGoto_ret]
                go_ret
                exact ⟨ret_bool HR.out.symm, (hw1.trans g).alloc _⟩
              · have HG := Lib.hid (HA'.out rfl)
                go_wp2_with (go_at_call 70; (with_reducible refine (HNM.out _).mono ?_); rintro e w' ⟨rfl, hq⟩; obtain rfl := hq.symm)
                go_roundw
                case rel => exact ⟨k + 1, by go_num, by omega, g.alloc _, HG.out⟩
                case measure => simp [intOf]; omega
            · have HY := Lib.hid (HY3.out fun j hj => HA.out j hj (by omega))
              clear HA
              go_wp2
              try rw [Exit.noGoto_ret]
              go_ret
              exact ⟨ret_bool HY.out.symm, hw1.trans g⟩
end Go.Proofs.YtjblplflgiibdaaGreatDoor
