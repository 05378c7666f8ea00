/- Chkc: The document's answer: Check.
Few: Few, Fine.
NewQ: net.New: the plain rounds.
NumP: Numbers of so many digits: plain. No program.
Num1: Numbers: the walks. -/
import Derived.Test.YtknmngejjoohdaaGreatDoorRows
import Derived.Test.YtknmngejjoohdaaGreatDoorB11
import Derived.Test.YtknmngejjoohdaaGreatDoorB3
import Derived.Test.YtknmngejjoohdaaGreatDoorB9
import Derived.OpenShut
import Derived.Test.YtknmngejjoohdaaGreatDoorB1
namespace Go.Proofs.YtknmngejjoohdaaGreatDoor
open Go.ChangeShapes Go.WideShapes Go.ChangeAt Go.RowKit
set_option linter.unusedVariables false
set_option linter.unusedSimpArgs false
theorem chk_long {P : Pln} (h : 40 < P.es.length ∨ 24 < P.ss.length ∨ 4 < P.ls.length ∨ 80 < P.js.length) : chk P = 3 := by unfold chk; rw [if_pos h]
theorem chk_rest {P : Pln} (h : ¬ (40 < P.es.length ∨ 24 < P.ss.length ∨ 4 < P.ls.length ∨ 80 < P.js.length)) :
    chk P = if argsB P = false then 1 else if (twiceB (P.es.map (·.n)) || twiceB (P.ss.map (·.n)) || twiceB (P.ls.map (·.n))) = true then 4 else if joinedB P = false then 6 else if signalsB P = false then 7 else if linesB P = false then 8 else if longB P = false then 9 else 0 := by
  unfold chk; rw [if_neg h]
theorem joined_ports {P : Pln} (h : joinedB P = true) : okL P P.js := Classical.byContradiction fun hn => by rw [joinedB_no hn] at h; cases h
theorem args_nums {P : Pln} (h : argsB P = true) : (1 ≤ P.top ∧ P.top ≤ 60) ∧ (1 ≤ P.brake ∧ P.brake ≤ 10) ∧ (1 ≤ P.margin ∧ P.margin ≤ 4000) ∧ (1 ≤ P.throw ∧ P.throw ≤ 20) ∧ 0 < P.es.length := by
  rw [argsB_eq] at h
  simp only [Bool.and_eq_true] at h
  have h0 := h.1.1.1
  unfold numsB inB at h0
  simp only [Bool.and_eq_true, decide_eq_true_eq, Bool.not_eq_true', decide_eq_false_iff_not] at h0
  omega
set_option maxRecDepth 100000 in
set_option maxHeartbeats 1000000 in
theorem refCheck_any (v : Value) (P : Pln) (w : World) (hP : IsPln w v P) (hk : PlnOk P) (hl : (P.ls.flatMap (·.es)).length ≤ 1000000) :
    Calls Tryz.prog 43 #[v] w fun e w' => e = .returned (.int .i64 (chk P)) ∧ Gr w w' := by
  have hPz := hP
  obtain ⟨a1, c1, a2, c2, a3, c3, a4, c4, rfl, h1, h2, h3, h4⟩ := hP
  have m1 := IsRow.len h1
  have m2 := IsRow.len h2
  have m3 := IsRow.len h3
  have m4 : P.ls.length ≤ maxLen := by obtain ⟨S, hS, -⟩ := h4; exact IsRow.len hS
  unfold maxLen at m1 m2 m3 m4
  have HPv := Lib.hid (fun (w' : World) (g : Gr w w') => IsPln.mk (w' := w') h1 h2 h3 h4 g)
  have HB := Lib.hid (bxW_box w P (.slice a1 P.es.length c1) (.slice a2 P.js.length c2) (.slice a3 P.ss.length c3) (.slice a4 P.ls.length c4))
  have hw0 := bxW_gr w P (.slice a1 P.es.length c1) (.slice a2 P.js.length c2) (.slice a3 P.ss.length c3) (.slice a4 P.ls.length c4)
  obtain ⟨wb, hwb⟩ : ∃ wb, wb = bxW w P (.slice a1 P.es.length c1) (.slice a2 P.js.length c2) (.slice a3 P.ss.length c3) (.slice a4 P.ls.length c4) := ⟨_, rfl⟩
  rw [← hwb] at HB hw0
  unfold plnV
  have HWB := Lib.hid hwb
  have HKK := Lib.hid hk
  have HLL := Lib.hid hl
  clear h1 h2 h3 h4 hwb hk hl hPz
  by_cases hlong : 40 < P.es.length ∨ 24 < P.ss.length ∨ 4 < P.ls.length ∨ 80 < P.js.length
  · have HC := Lib.hid (chk_long hlong)
    have hcs : (40 < (P.es.length : Int)) ∨ (¬ 40 < (P.es.length : Int) ∧ 24 < (P.ss.length : Int)) ∨ (¬ 40 < (P.es.length : Int) ∧ ¬ 24 < (P.ss.length : Int) ∧ 4 < (P.ls.length : Int)) ∨ (¬ 40 < (P.es.length : Int) ∧ ¬ 24 < (P.ss.length : Int) ∧ ¬ 4 < (P.ls.length : Int) ∧ 80 < (P.js.length : Int)) := by omega
    clear hlong
    rcases hcs with l1 | ⟨l1, l2⟩ | ⟨l1, l2, l3⟩ | ⟨l1, l2, l3, l4⟩
    all_goals
      go_enter Tryz.func43, Tryz.ntmps43
      go_wp2
      go_ret
      exact ⟨ret_int HC.out.symm, (Gr.refl _).alloc _⟩
  have HC := Lib.hid (chk_rest hlong)
  obtain ⟨l1, l2, l3, l4⟩ : ¬ 40 < (P.es.length : Int) ∧ ¬ 24 < (P.ss.length : Int) ∧ ¬ 4 < (P.ls.length : Int) ∧ ¬ 80 < (P.js.length : Int) := by omega
  clear hlong
  go_enter Tryz.func43, Tryz.ntmps43
  go_wp2_with (fail)
  rw [show (w.alloc (.cells #[.slice a1 P.es.length c1, .slice a2 P.js.length c2, .slice a3 P.ss.length c3, .slice a4 P.ls.length c4, .int .i64 P.top, .int .i64 P.brake, .int .i64 P.margin, .int .i64 P.throw, .bool P.hard] 28)) = wb from HWB.out.symm]
  clear HWB
  have HNM := Lib.hid (fun (v' : Value) (w' : World) (h : IsPln w' v' P) => refNames_any v' P w' h (by omega) (by omega) (by omega))
  have HAR := Lib.hid (fun (v' : Value) (w' : World) (h : IsPln w' v' P) => refArgs_any v' P w' h HKK.out)
  have HTA := Lib.hid (fun (v' : Value) (w' : World) (h : IsVals w' v' ((P.es.map (·.n)).map Value.string)) => refTwice_any v' _ w' h)
  have HTB := Lib.hid (fun (v' : Value) (w' : World) (h : IsVals w' v' ((P.ss.map (·.n)).map Value.string)) => refTwice_any v' _ w' h)
  have HTC := Lib.hid (fun (v' : Value) (w' : World) (h : IsVals w' v' ((P.ls.map (·.n)).map Value.string)) => refTwice_any v' _ w' h)
  have HJO := Lib.hid (fun (v' : Value) (w' : World) (h : IsPln w' v' P) => refJoined_any v' P w' h (by omega))
  have HSI := Lib.hid (fun (v' : Value) (w' : World) (h : IsPln w' v' P) => refSignals_any v' P w' h (by omega))
  have HLN : Hid (joinedB P = true → ∀ (v' : Value) (w' : World) (h : IsPln w' v' P), Calls Tryz.prog 97 #[v'] w' fun e w'' => e = .returned (.bool (linesB P)) ∧ Gr w' w'') := fun hj v' w' h => refLines_any6 v' P w' h (joined_ports hj).2 HLL.out (by omega)
  have HLG : Hid (argsB P = true → ∀ (v' : Value) (w' : World) (h : IsPln w' v' P), Calls Tryz.prog 98 #[v'] w' fun e w'' => e = .returned (.bool (longB P)) ∧ Gr w' w'') := fun ha v' w' h => refLong_any v' P w' h (by have := args_nums ha; omega) (by have := args_nums ha; omega)
  generalize argsB P = ab at *
  generalize twiceB (P.es.map (·.n)) = ta at *
  generalize twiceB (P.ss.map (·.n)) = tb at *
  generalize twiceB (P.ls.map (·.n)) = tc at *
  generalize joinedB P = jb at *
  generalize signalsB P = sb at *
  generalize linesB P = lb at *
  generalize longB P = gb at *
  have hz : Gr wb wb := Gr.refl _
  refine (HNM.out _ _ (HPv.out _ hw0)).mono ?_
  rintro e w5 ⟨va, vb, vc, rfl, n1, n2, n3, h5⟩
  have NA := Lib.hid n1
  have NB := Lib.hid n2
  have NC := Lib.hid n3
  replace hz := hz.trans h5
  have hy : Gr w5 w5 := Gr.refl _
  obtain ⟨zb5, d05, d15, d25, d35, d45, d55, d65, d75, d85⟩ := HB.out.gr hz
  clear n1 n2 n3
  cases ab
  · go_wp2_with (first | (go_at_call 93; (with_reducible refine (HAR.out _ _ (HPv.out _ (hw0.trans hz))).mono ?_); rintro e w11 ⟨rfl, h11⟩; replace hz := hz.trans h11; replace hy := hy.trans h11; obtain ⟨zb11, d011, d111, d211, d311, d411, d511, d611, d711, d811⟩ := HB.out.gr hz) | fail)
    (go_ret; exact ⟨ret_int (by rw [HC.out]; rfl), hw0.trans hz⟩)
  go_wp2_with (first | (go_at_call 93; (with_reducible refine (HAR.out _ _ (HPv.out _ (hw0.trans hz))).mono ?_); rintro e w11 ⟨rfl, h11⟩; replace hz := hz.trans h11; replace hy := hy.trans h11; obtain ⟨zb11, d011, d111, d211, d311, d411, d511, d611, d711, d811⟩ := HB.out.gr hz) | fail)
  cases ta
  case true => (go_wp2_with (first | (go_at_call 94; first | ((with_reducible refine (HTA.out _ _ (NA.out.gr hy)).mono ?_); rintro e w21 ⟨rfl, h21⟩; replace hz := hz.trans h21; replace hy := hy.trans h21; obtain ⟨zb21, d021, d121, d221, d321, d421, d521, d621, d721, d821⟩ := HB.out.gr hz) | ((with_reducible refine (HTB.out _ _ (NB.out.gr hy)).mono ?_); rintro e w22 ⟨rfl, h22⟩; replace hz := hz.trans h22; replace hy := hy.trans h22; obtain ⟨zb22, d022, d122, d222, d322, d422, d522, d622, d722, d822⟩ := HB.out.gr hz) | ((with_reducible refine (HTC.out _ _ (NC.out.gr hy)).mono ?_); rintro e w23 ⟨rfl, h23⟩; replace hz := hz.trans h23; replace hy := hy.trans h23; obtain ⟨zb23, d023, d123, d223, d323, d423, d523, d623, d723, d823⟩ := HB.out.gr hz)) | fail)); (go_ret; exact ⟨ret_int (by rw [HC.out]; rfl), hw0.trans hz⟩)
  cases tb
  case true => (go_wp2_with (first | (go_at_call 94; first | ((with_reducible refine (HTA.out _ _ (NA.out.gr hy)).mono ?_); rintro e w21 ⟨rfl, h21⟩; replace hz := hz.trans h21; replace hy := hy.trans h21; obtain ⟨zb21, d021, d121, d221, d321, d421, d521, d621, d721, d821⟩ := HB.out.gr hz) | ((with_reducible refine (HTB.out _ _ (NB.out.gr hy)).mono ?_); rintro e w22 ⟨rfl, h22⟩; replace hz := hz.trans h22; replace hy := hy.trans h22; obtain ⟨zb22, d022, d122, d222, d322, d422, d522, d622, d722, d822⟩ := HB.out.gr hz) | ((with_reducible refine (HTC.out _ _ (NC.out.gr hy)).mono ?_); rintro e w23 ⟨rfl, h23⟩; replace hz := hz.trans h23; replace hy := hy.trans h23; obtain ⟨zb23, d023, d123, d223, d323, d423, d523, d623, d723, d823⟩ := HB.out.gr hz)) | fail)); (go_ret; exact ⟨ret_int (by rw [HC.out]; rfl), hw0.trans hz⟩)
  cases tc
  case true => (go_wp2_with (first | (go_at_call 94; first | ((with_reducible refine (HTA.out _ _ (NA.out.gr hy)).mono ?_); rintro e w21 ⟨rfl, h21⟩; replace hz := hz.trans h21; replace hy := hy.trans h21; obtain ⟨zb21, d021, d121, d221, d321, d421, d521, d621, d721, d821⟩ := HB.out.gr hz) | ((with_reducible refine (HTB.out _ _ (NB.out.gr hy)).mono ?_); rintro e w22 ⟨rfl, h22⟩; replace hz := hz.trans h22; replace hy := hy.trans h22; obtain ⟨zb22, d022, d122, d222, d322, d422, d522, d622, d722, d822⟩ := HB.out.gr hz) | ((with_reducible refine (HTC.out _ _ (NC.out.gr hy)).mono ?_); rintro e w23 ⟨rfl, h23⟩; replace hz := hz.trans h23; replace hy := hy.trans h23; obtain ⟨zb23, d023, d123, d223, d323, d423, d523, d623, d723, d823⟩ := HB.out.gr hz)) | fail)); (go_ret; exact ⟨ret_int (by rw [HC.out]; rfl), hw0.trans hz⟩)
  go_wp2_with (first | (go_at_call 94; first | ((with_reducible refine (HTA.out _ _ (NA.out.gr hy)).mono ?_); rintro e w21 ⟨rfl, h21⟩; replace hz := hz.trans h21; replace hy := hy.trans h21; obtain ⟨zb21, d021, d121, d221, d321, d421, d521, d621, d721, d821⟩ := HB.out.gr hz) | ((with_reducible refine (HTB.out _ _ (NB.out.gr hy)).mono ?_); rintro e w22 ⟨rfl, h22⟩; replace hz := hz.trans h22; replace hy := hy.trans h22; obtain ⟨zb22, d022, d122, d222, d322, d422, d522, d622, d722, d822⟩ := HB.out.gr hz) | ((with_reducible refine (HTC.out _ _ (NC.out.gr hy)).mono ?_); rintro e w23 ⟨rfl, h23⟩; replace hz := hz.trans h23; replace hy := hy.trans h23; obtain ⟨zb23, d023, d123, d223, d323, d423, d523, d623, d723, d823⟩ := HB.out.gr hz)) | fail)
  cases jb
  · go_wp2_with (first | (go_at_call 95; (with_reducible refine (HJO.out _ _ (HPv.out _ (hw0.trans hz))).mono ?_); rintro e w12 ⟨rfl, h12⟩; replace hz := hz.trans h12; replace hy := hy.trans h12; obtain ⟨zb12, d012, d112, d212, d312, d412, d512, d612, d712, d812⟩ := HB.out.gr hz) | fail)
    (go_ret; exact ⟨ret_int (by rw [HC.out]; rfl), hw0.trans hz⟩)
  have HLN2 := Lib.hid (HLN.out (by trivial))
  have HLG2 := Lib.hid (HLG.out (by trivial))
  go_wp2_with (first | (go_at_call 95; (with_reducible refine (HJO.out _ _ (HPv.out _ (hw0.trans hz))).mono ?_); rintro e w12 ⟨rfl, h12⟩; replace hz := hz.trans h12; replace hy := hy.trans h12; obtain ⟨zb12, d012, d112, d212, d312, d412, d512, d612, d712, d812⟩ := HB.out.gr hz) | fail)
  cases sb
  · go_wp2_with (first | (go_at_call 96; (with_reducible refine (HSI.out _ _ (HPv.out _ (hw0.trans hz))).mono ?_); rintro e w13 ⟨rfl, h13⟩; replace hz := hz.trans h13; replace hy := hy.trans h13; obtain ⟨zb13, d013, d113, d213, d313, d413, d513, d613, d713, d813⟩ := HB.out.gr hz) | fail)
    (go_ret; exact ⟨ret_int (by rw [HC.out]; rfl), hw0.trans hz⟩)
  go_wp2_with (first | (go_at_call 96; (with_reducible refine (HSI.out _ _ (HPv.out _ (hw0.trans hz))).mono ?_); rintro e w13 ⟨rfl, h13⟩; replace hz := hz.trans h13; replace hy := hy.trans h13; obtain ⟨zb13, d013, d113, d213, d313, d413, d513, d613, d713, d813⟩ := HB.out.gr hz) | fail)
  cases lb
  · go_wp2_with (first | (go_at_call 97; (with_reducible refine (HLN2.out _ _ (HPv.out _ (hw0.trans hz))).mono ?_); rintro e w14 ⟨rfl, h14⟩; replace hz := hz.trans h14; replace hy := hy.trans h14; obtain ⟨zb14, d014, d114, d214, d314, d414, d514, d614, d714, d814⟩ := HB.out.gr hz) | fail)
    (go_ret; exact ⟨ret_int (by rw [HC.out]; rfl), hw0.trans hz⟩)
  go_wp2_with (first | (go_at_call 97; (with_reducible refine (HLN2.out _ _ (HPv.out _ (hw0.trans hz))).mono ?_); rintro e w14 ⟨rfl, h14⟩; replace hz := hz.trans h14; replace hy := hy.trans h14; obtain ⟨zb14, d014, d114, d214, d314, d414, d514, d614, d714, d814⟩ := HB.out.gr hz) | fail)
  cases gb
  · go_wp2_with (first | (go_at_call 98; (with_reducible refine (HLG2.out _ _ (HPv.out _ (hw0.trans hz))).mono ?_); rintro e w15 ⟨rfl, h15⟩; replace hz := hz.trans h15; replace hy := hy.trans h15; obtain ⟨zb15, d015, d115, d215, d315, d415, d515, d615, d715, d815⟩ := HB.out.gr hz) | fail)
    (go_ret; exact ⟨ret_int (by rw [HC.out]; rfl), hw0.trans hz⟩)
  go_wp2_with (first | (go_at_call 98; (with_reducible refine (HLG2.out _ _ (HPv.out _ (hw0.trans hz))).mono ?_); rintro e w15 ⟨rfl, h15⟩; replace hz := hz.trans h15; replace hy := hy.trans h15; obtain ⟨zb15, d015, d115, d215, d315, d415, d515, d615, d715, d815⟩ := HB.out.gr hz) | fail)
  (go_ret; exact ⟨ret_int (by rw [HC.out]; rfl), hw0.trans hz⟩)
end Go.Proofs.YtknmngejjoohdaaGreatDoor
namespace Go.Proofs.YtknmngejjoohdaaGreatDoor
open Go.ChangeShapes Go.WideShapes Go.ChangeAt Go.RowKit
set_option linter.unusedVariables false
set_option linter.unusedSimpArgs false
def fewL (l : Ln) : Bool := decide (l.es.length ≤ 60) && decide (l.n.size ≤ 100)
def fewB (P : Pln) : Bool := (decide (P.es.length ≤ 60) && decide (P.js.length ≤ 120) && decide (P.ss.length ≤ 60) && decide (P.ls.length ≤ 20)) && P.ls.all fewL && P.es.all (fun e => decide (e.n.size ≤ 100)) && P.ss.all (fun s => decide (s.n.size ≤ 100))
def fineB (P : Pln) : Bool := fewB P && decide (chk P = 0)
end Go.Proofs.YtknmngejjoohdaaGreatDoor
namespace Go.Proofs.YtknmngejjoohdaaGreatDoor
open Go.ChangeShapes Go.WideShapes Go.ChangeAt Go.RowKit Go.Maps
set_option linter.unusedVariables false
theorem i64_wrap (x : Int) : I64 (IntKind.i64.wrap x) := wf_wrap _ _
end Go.Proofs.YtknmngejjoohdaaGreatDoor
namespace Go.Proofs.YtknmngejjoohdaaGreatDoor
open Go.ChangeShapes Go.WideShapes Go.ChangeAt Go.RowKit
set_option linter.unusedVariables false
set_option linter.unusedSimpArgs false

def dgB (c : Int) : Bool := decide (48 ≤ c) && decide (c ≤ 57)
theorem dgB_iff (c : Int) : dgB c = true ↔ 48 ≤ c ∧ c ≤ 57 := by unfold dgB; simp
def nvB (s : ByteArray) : Nat → Int
  | 0 => 0
  | k + 1 => 10 * nvB s k + (bt s k - 48)
def allD (s : ByteArray) : Bool := (List.range s.size).all fun i => dgB (bt s i)
def numB (s : ByteArray) (d : Int) : Bool := decide (1 ≤ d) && decide (d ≤ 9) && decide (1 ≤ s.size) && decide ((s.size : Int) ≤ d) && !(decide (1 < s.size) && decide (bt s 0 = 48)) && allD s
def numN (s : ByteArray) (d : Int) : Int := if numB s d then nvB s s.size else 0
theorem allD_iff (s : ByteArray) : allD s = true ↔ ∀ i, i < s.size → 48 ≤ bt s i ∧ bt s i ≤ 57 := by
  unfold allD
  rw [List.all_eq_true]
  constructor
  · intro h i hi
    exact (dgB_iff _).1 (h i (List.mem_range.2 hi))
  · intro h i hi
    exact (dgB_iff _).2 (h i (List.mem_range.1 hi))
theorem numB_iff (s : ByteArray) (d : Int) : numB s d = true ↔ 1 ≤ d ∧ d ≤ 9 ∧ 1 ≤ s.size ∧ (s.size : Int) ≤ d ∧ ¬ (1 < s.size ∧ bt s 0 = 48) ∧ ∀ i, i < s.size → 48 ≤ bt s i ∧ bt s i ≤ 57 := by
  unfold numB
  rw [← allD_iff]
  simp only [Bool.and_eq_true, decide_eq_true_eq, Bool.not_eq_true', Bool.and_eq_false_iff, decide_eq_false_iff_not]
  constructor
  · rintro ⟨⟨⟨⟨⟨a, b⟩, c⟩, d⟩, e⟩, f⟩
    refine ⟨a, b, c, d, ?_, f⟩
    rintro ⟨g, h⟩
    rcases e with e | e
    · exact e g
    · exact e h
  · rintro ⟨a, b, c, d, e, f⟩
    refine ⟨⟨⟨⟨⟨a, b⟩, c⟩, d⟩, ?_⟩, f⟩
    rcases Classical.em (1 < s.size) with g | g
    · exact .inr fun h => e ⟨g, h⟩
    · exact .inl g
theorem numB_not {s : ByteArray} {d : Int} (h : ¬ (1 ≤ d ∧ d ≤ 9 ∧ 1 ≤ s.size ∧ (s.size : Int) ≤ d ∧ ¬ (1 < s.size ∧ bt s 0 = 48) ∧ ∀ i, i < s.size → 48 ≤ bt s i ∧ bt s i ≤ 57)) : numB s d = false ∧ numN s d = 0 := by
  have e : numB s d = false := by
    cases hq : numB s d with
    | false => rfl
    | true => exact absurd ((numB_iff s d).1 hq) h
  exact ⟨e, by unfold numN; rw [e]; rfl⟩
theorem nvB_bd (s : ByteArray) : ∀ k : Nat, (∀ i, i < k → 48 ≤ bt s i ∧ bt s i ≤ 57) → 0 ≤ nvB s k ∧ nvB s k < 10 ^ k
  | 0, _ => by simp [nvB]
  | k + 1, h => by
    have ih := nvB_bd s k fun i hi => h i (by omega)
    have hk := h k (by omega)
    have e : (10 : Int) ^ (k + 1) = 10 * 10 ^ k := by rw [Int.pow_succ, Int.mul_comm]
    simp only [nvB]
    omega
theorem pow_le9 (k : Nat) (h : k ≤ 8) : (10 : Int) ^ k ≤ 100000000 := by
  match k, h with
  | 0, _ => decide
  | 1, _ => decide
  | 2, _ => decide
  | 3, _ => decide
  | 4, _ => decide
  | 5, _ => decide
  | 6, _ => decide
  | 7, _ => decide
  | 8, _ => decide
end Go.Proofs.YtknmngejjoohdaaGreatDoor
namespace Go.Proofs.YtknmngejjoohdaaGreatDoor
open Go.ChangeShapes Go.WideShapes Go.ChangeAt Go.RowKit
set_option linter.unusedVariables false
set_option linter.unusedSimpArgs false
theorem toList_nil {s : ByteArray} : (s.toList = []) ↔ s.size = 0 := by
  rw [ByteArray.toList_eq]
  have hl : s.data.toList.length = s.size := by simp
  rw [← hl, List.length_eq_zero_iff]
set_option maxHeartbeats 800000 in
theorem number_any (s : ByteArray) (d : Int) (hs : s.size ≤ maxLen) (w : World) :
    Calls Tryz.prog 133 #[.string s, .int .i64 d] w fun e w' => e = .returned (.tuple #[.int .i64 (numN s d), .bool (numB s d)]) ∧ w' = w := by
  unfold maxLen at hs
  have hz1 : s.size = 0 → s.toList.isEmpty = true := fun h => by rw [List.isEmpty_iff]; exact toList_nil.2 h
  have hz2 : s.size ≠ 0 → s.toList.isEmpty = false := fun h => by
    cases hq : s.toList.isEmpty with
    | false => rfl
    | true => exact absurd (toList_nil.1 (List.isEmpty_iff.1 hq)) h
  by_cases h1 : d < 1
  · have hB := numB_not (s := s) (d := d) (by omega)
    have HB := Lib.hid hB
    clear hB hz1 hz2
    go_enter Tryz.func133, Tryz.ntmps133
    go_wp2
    go_ret2
    exact ⟨ret_ib HB.out.2.symm HB.out.1.symm, rfl⟩
  by_cases h2 : 9 < d
  · have hB := numB_not (s := s) (d := d) (by omega)
    have HB := Lib.hid hB
    clear hB hz1 hz2
    go_enter Tryz.func133, Tryz.ntmps133
    go_wp2
    go_ret2
    exact ⟨ret_ib HB.out.2.symm HB.out.1.symm, rfl⟩
  by_cases h3 : s.size = 0
  · have hB := numB_not (s := s) (d := d) (by omega)
    have HB := Lib.hid hB
    have hz := hz1 h3
    have hzz : s.size < 1 := by omega
    clear hB hz1 hz2 h3
    go_enter Tryz.func133, Tryz.ntmps133
    go_wp2
    go_ret2
    exact ⟨ret_ib HB.out.2.symm HB.out.1.symm, rfl⟩
  have hz := hz2 h3
  have h3' : 0 < s.size := by omega
  clear hz1 hz2 h3
  by_cases h4 : d < (s.size : Int)
  · have hB := numB_not (s := s) (d := d) (by omega)
    have HB := Lib.hid hB
    clear hB
    go_enter Tryz.func133, Tryz.ntmps133
    go_wp2
    go_ret2
    exact ⟨ret_ib HB.out.2.symm HB.out.1.symm, rfl⟩
  have HG := Lib.hid (bt_get s 0 h3')
  by_cases h5 : 1 < s.size ∧ bt s 0 = 48
  · have hB := numB_not (s := s) (d := d) (fun h => h.2.2.2.2.1 h5)
    have HB := Lib.hid hB
    obtain ⟨h51, h52⟩ := h5
    rw [HG.out] at h52
    have t1 : ((s[0].toNat : Int) == 48) = true := by rw [h52]; rfl
    have t3 : 1 < (s.size : Int) := by omega
    clear hB h52 HG
    go_enter Tryz.func133, Tryz.ntmps133
    go_wp2
    go_ret2
    exact ⟨ret_ib HB.out.2.symm HB.out.1.symm, rfl⟩
  have Hgo : Hid (∀ j : Nat, j ≤ s.size → (∀ i, i < j → 48 ≤ bt s i ∧ bt s i ≤ 57) → 0 ≤ nvB s j ∧ nvB s j < 10 ^ j) := fun j _ h => nvB_bd s j h
  have t5 : ((s[0].toNat : Int) == 48) = false ∨ (((s[0].toNat : Int) == 48) = true ∧ s.size = 1) := by
    rw [HG.out] at h5
    rcases Classical.em (s[0].toNat = 48) with h | h
    · right
      refine ⟨by rw [h]; rfl, ?_⟩
      have : ¬ 1 < s.size := fun h' => h5 ⟨h', by omega⟩
      omega
    · left
      rw [beq_eq_false_iff_ne]
      omega
  have H5 := Lib.hid h5
  clear h5 HG
  have h6 : s.size ≤ 9 := by omega
  have t6 : (((s[0].toNat : Int) == 48) = false ∧ 1 < (s.size : Int)) ∨ (((s[0].toNat : Int) == 48) = true ∧ ¬ 1 < (s.size : Int)) ∨ (((s[0].toNat : Int) == 48) = false ∧ ¬ 1 < (s.size : Int)) := by
    rcases t5 with h | ⟨h, h'⟩
    · rcases Classical.em (1 < (s.size : Int)) with g | g
      · exact .inl ⟨h, g⟩
      · exact .inr (.inr ⟨h, g⟩)
    · exact .inr (.inl ⟨h, by omega⟩)
  clear t5
  rcases t6 with ⟨t5, t7⟩ | ⟨t5, t7⟩ | ⟨t5, t7⟩
  all_goals
    go_enter Tryz.func133, Tryz.ntmps133
    go_wp2
    go_loop [6, 7] (fun n i => ∃ (k : Nat) (N : Int), i = .int .i64 k ∧ n = .int .i64 N ∧ k ≤ s.size ∧ 0 ≤ N ∧ N < 1000000000 ∧ Hid (N = nvB s k) ∧ Hid (∀ j, j < k → 48 ≤ bt s j ∧ bt s j ≤ 57)) (fun _ i => s.size - (intOf i).toNat)
    case atStart => exact ⟨0, 0, rfl, rfl, by omega, by omega, by omega, rfl, fun j hj => by omega⟩
    case round =>
      obtain ⟨k, N, rfl, rfl, hk, n0, n1, HN, HD⟩ := hrel
      by_cases hlt : k < s.size
      · have hg := bt_get s k hlt
        by_cases hd : 48 ≤ bt s k ∧ bt s k ≤ 57
        · have HD' : Hid (∀ j, j < k + 1 → 48 ≤ bt s j ∧ bt s j ≤ 57) := by
            intro j hj
            by_cases e : j = k
            · rw [e]; exact hd
            · exact HD.out j (by omega)
          have hb := nvB_bd s k HD.out
          have hp := pow_le9 k (by omega)
          have n2 : N < 100000000 := by have := HN.out; omega
          have HN' : Hid (10 * N + (bt s k - 48) = nvB s (k + 1)) := by unfold Hid; rw [HN.out]; rfl
          have hN2 := HN'.out
          rw [hg] at hd hN2
          have HN3 := Lib.hid hN2
          obtain ⟨d1, d2⟩ := hd
          clear hg HN HD hb hp HN' hN2
          go_wp2
          all_goals try (go_quiet (fail); go_wp2)
          all_goals go_round
          all_goals try (case rel => exact ⟨k + 1, _, by go_num, rfl, by omega, by omega, by omega, by first | exact HN3 | (unfold Hid; rw [← HN3.out]; omega), HD'⟩)
          all_goals try (case measure => simp [intOf]; omega)
        · have hB := numB_not (s := s) (d := d) (fun h => hd (h.2.2.2.2.2 k hlt))
          have HB := Lib.hid hB
          rw [hg] at hd
          clear hg HN HD hB
          go_wp2
          all_goals try (exfalso; omega)
          all_goals go_ret2
          all_goals exact ⟨ret_ib HB.out.2.symm HB.out.1.symm, rfl⟩
      · have e : k = s.size := by omega
        have hB : numB s d = true := (numB_iff s d).2 ⟨by omega, by omega, by omega, by omega, H5.out, fun i hi => HD.out i (by omega)⟩
        have hN : N = numN s d := by unfold numN; rw [hB, HN.out, e]; rfl
        have HB := Lib.hid hB
        have HNN := Lib.hid hN
        clear HN HD hB hN e
        go_wp2
        go_ret2
        exact ⟨ret_ib HNN.out HB.out.symm, rfl⟩
set_option maxHeartbeats 800000 in
theorem refNumber_any (s : ByteArray) (d : Int) (hs : s.size ≤ maxLen) (w : World) :
    Calls Tryz.prog 142 #[.string s, .int .i64 d] w fun e w' => e = .returned (.tuple #[.int .i64 (numN s d), .bool (numB s d)]) ∧ w' = w := by
  unfold maxLen at hs
  have hz1 : s.size = 0 → s.toList.isEmpty = true := fun h => by rw [List.isEmpty_iff]; exact toList_nil.2 h
  have hz2 : s.size ≠ 0 → s.toList.isEmpty = false := fun h => by
    cases hq : s.toList.isEmpty with
    | false => rfl
    | true => exact absurd (toList_nil.1 (List.isEmpty_iff.1 hq)) h
  by_cases h1 : d < 1
  · have hB := numB_not (s := s) (d := d) (by omega)
    have HB := Lib.hid hB
    clear hB hz1 hz2
    go_enter Tryz.func142, Tryz.ntmps142
    go_wp2
    go_ret2
    exact ⟨ret_ib HB.out.2.symm HB.out.1.symm, rfl⟩
  by_cases h2 : 9 < d
  · have hB := numB_not (s := s) (d := d) (by omega)
    have HB := Lib.hid hB
    clear hB hz1 hz2
    go_enter Tryz.func142, Tryz.ntmps142
    go_wp2
    go_ret2
    exact ⟨ret_ib HB.out.2.symm HB.out.1.symm, rfl⟩
  by_cases h3 : s.size = 0
  · have hB := numB_not (s := s) (d := d) (by omega)
    have HB := Lib.hid hB
    have hz := hz1 h3
    have hzz : s.size < 1 := by omega
    clear hB hz1 hz2 h3
    go_enter Tryz.func142, Tryz.ntmps142
    go_wp2
    go_ret2
    exact ⟨ret_ib HB.out.2.symm HB.out.1.symm, rfl⟩
  have hz := hz2 h3
  have h3' : 0 < s.size := by omega
  clear hz1 hz2 h3
  by_cases h4 : d < (s.size : Int)
  · have hB := numB_not (s := s) (d := d) (by omega)
    have HB := Lib.hid hB
    clear hB
    go_enter Tryz.func142, Tryz.ntmps142
    go_wp2
    go_ret2
    exact ⟨ret_ib HB.out.2.symm HB.out.1.symm, rfl⟩
  have HG := Lib.hid (bt_get s 0 h3')
  by_cases h5 : 1 < s.size ∧ bt s 0 = 48
  · have hB := numB_not (s := s) (d := d) (fun h => h.2.2.2.2.1 h5)
    have HB := Lib.hid hB
    obtain ⟨h51, h52⟩ := h5
    rw [HG.out] at h52
    have t1 : ((s[0].toNat : Int) == 48) = true := by rw [h52]; rfl
    have t3 : 1 < (s.size : Int) := by omega
    clear hB h52 HG
    go_enter Tryz.func142, Tryz.ntmps142
    go_wp2
    go_ret2
    exact ⟨ret_ib HB.out.2.symm HB.out.1.symm, rfl⟩
  have Hgo : Hid (∀ j : Nat, j ≤ s.size → (∀ i, i < j → 48 ≤ bt s i ∧ bt s i ≤ 57) → 0 ≤ nvB s j ∧ nvB s j < 10 ^ j) := fun j _ h => nvB_bd s j h
  have t5 : ((s[0].toNat : Int) == 48) = false ∨ (((s[0].toNat : Int) == 48) = true ∧ s.size = 1) := by
    rw [HG.out] at h5
    rcases Classical.em (s[0].toNat = 48) with h | h
    · right
      refine ⟨by rw [h]; rfl, ?_⟩
      have : ¬ 1 < s.size := fun h' => h5 ⟨h', by omega⟩
      omega
    · left
      rw [beq_eq_false_iff_ne]
      omega
  have H5 := Lib.hid h5
  clear h5 HG
  have h6 : s.size ≤ 9 := by omega
  have t6 : (((s[0].toNat : Int) == 48) = false ∧ 1 < (s.size : Int)) ∨ (((s[0].toNat : Int) == 48) = true ∧ ¬ 1 < (s.size : Int)) ∨ (((s[0].toNat : Int) == 48) = false ∧ ¬ 1 < (s.size : Int)) := by
    rcases t5 with h | ⟨h, h'⟩
    · rcases Classical.em (1 < (s.size : Int)) with g | g
      · exact .inl ⟨h, g⟩
      · exact .inr (.inr ⟨h, g⟩)
    · exact .inr (.inl ⟨h, by omega⟩)
  clear t5
  rcases t6 with ⟨t5, t7⟩ | ⟨t5, t7⟩ | ⟨t5, t7⟩
  all_goals
    go_enter Tryz.func142, Tryz.ntmps142
    go_wp2
    go_loop [6, 7] (fun n i => ∃ (k : Nat) (N : Int), i = .int .i64 k ∧ n = .int .i64 N ∧ k ≤ s.size ∧ 0 ≤ N ∧ N < 1000000000 ∧ Hid (N = nvB s k) ∧ Hid (∀ j, j < k → 48 ≤ bt s j ∧ bt s j ≤ 57)) (fun _ i => s.size - (intOf i).toNat)
    case atStart => exact ⟨0, 0, rfl, rfl, by omega, by omega, by omega, rfl, fun j hj => by omega⟩
    case round =>
      obtain ⟨k, N, rfl, rfl, hk, n0, n1, HN, HD⟩ := hrel
      by_cases hlt : k < s.size
      · have hg := bt_get s k hlt
        by_cases hd : 48 ≤ bt s k ∧ bt s k ≤ 57
        · have HD' : Hid (∀ j, j < k + 1 → 48 ≤ bt s j ∧ bt s j ≤ 57) := by
            intro j hj
            by_cases e : j = k
            · rw [e]; exact hd
            · exact HD.out j (by omega)
          have hb := nvB_bd s k HD.out
          have hp := pow_le9 k (by omega)
          have n2 : N < 100000000 := by have := HN.out; omega
          have HN' : Hid (10 * N + (bt s k - 48) = nvB s (k + 1)) := by unfold Hid; rw [HN.out]; rfl
          have hN2 := HN'.out
          rw [hg] at hd hN2
          have HN3 := Lib.hid hN2
          obtain ⟨d1, d2⟩ := hd
          clear hg HN HD hb hp HN' hN2
          go_wp2
          all_goals try (go_quiet (fail); go_wp2)
          all_goals go_round
          all_goals try (case rel => exact ⟨k + 1, _, by go_num, rfl, by omega, by omega, by omega, by first | exact HN3 | (unfold Hid; rw [← HN3.out]; omega), HD'⟩)
          all_goals try (case measure => simp [intOf]; omega)
        · have hB := numB_not (s := s) (d := d) (fun h => hd (h.2.2.2.2.2 k hlt))
          have HB := Lib.hid hB
          rw [hg] at hd
          clear hg HN HD hB
          go_wp2
          all_goals try (exfalso; omega)
          all_goals go_ret2
          all_goals exact ⟨ret_ib HB.out.2.symm HB.out.1.symm, rfl⟩
      · have e : k = s.size := by omega
        have hB : numB s d = true := (numB_iff s d).2 ⟨by omega, by omega, by omega, by omega, H5.out, fun i hi => HD.out i (by omega)⟩
        have hN : N = numN s d := by unfold numN; rw [hB, HN.out, e]; rfl
        have HB := Lib.hid hB
        have HNN := Lib.hid hN
        clear HN HD hB hN e
        go_wp2
        go_ret2
        exact ⟨ret_ib HNN.out HB.out.symm, rfl⟩
end Go.Proofs.YtknmngejjoohdaaGreatDoor
