/- Pla8: plan.Check.
Cln: slices.Clone at the plan's element types. Printed by wip/gen_cln.py.
TwnP: net.twin: what its walk carries.
Twn: net.twin. -/
import Derived.Test.YtgjnlgcdpbilfaaDoorRows
import Derived.Test.YtgjnlgcdpbilfaaDoorB6
import Derived.Test.YtgjnlgcdpbilfaaDoorB7
import Derived.Test.YtgjnlgcdpbilfaaDoorB5
import Derived.Test.YtgjnlgcdpbilfaaDoorB2
import Derived.WalkSpells
import Derived.Deep.RegionWith
import Derived.Deep.Cut
import Derived.Deep.DrawnRows
namespace Go.Proofs.YtgjnlgcdpbilfaaDoor
open Go.ChangeShapes Go.WideShapes Go.ChangeAt Go.RowKit Go.Maps
set_option linter.unusedVariables false
set_option linter.unusedSimpArgs false
def MapFn (l : List Jn) (w : World) (b n : Nat) (f : Value → Option Value) : Prop := MapIs Tryd.prog 50 w b n f ∧ FnL l f
theorem MapFn.gr {l : List Jn} {w w' : World} {b n : Nat} {f : Value → Option Value} (h : MapFn l w b n f) (g : Gr w w') : MapFn l w' b n f := ⟨h.1.gr g, h.2⟩
theorem sig_in {P : Pln} (h : signalsB P = true) : ∀ s ∈ P.ss, 0 ≤ s.at_.e ∧ s.at_.e < P.es.length := by
  intro s hs
  obtain ⟨k, hk, rfl⟩ := List.mem_iff_getElem.1 hs
  have hb : sigB P k = true := by
    cases hh : sigB P k with
    | true => rfl
    | false => rw [signalsB_no hk hh] at h; cases h
  rw [sigB_at P k hk] at hb
  simp only [Bool.and_eq_true] at hb
  have := hasP_bd hb.1.1.1
  exact ⟨this.1, this.2.1⟩
set_option maxRecDepth 100000 in
set_option maxHeartbeats 1000000 in
theorem check_any (v : Value) (P : Pln) (w : World) (hP : IsPln w v P) (hk : PlnOk P) (hl : (P.ls.flatMap (·.es)).length ≤ 1000000) :
    Calls Tryd.prog 44 #[v] w fun e w' => e = .returned (.int .i64 (chk P)) ∧ Gr w w' := by
  obtain ⟨a1, c1, a2, c2, a3, c3, a4, c4, rfl, h1, h2, h3, h4⟩ := hP
  have m1 := IsRow.len h1
  have m2 := IsRow.len h2
  have m3 := IsRow.len h3
  have m4 : P.ls.length ≤ maxLen := by obtain ⟨S, hS, -⟩ := h4; exact IsRow.len hS
  unfold maxLen at m1 m2 m3 m4
  have H1 := Lib.hid h1
  have H3 := Lib.hid h3
  have H4 := Lib.hid h4
  have HPv := Lib.hid (fun (w' : World) (g : Gr w w') => IsPln.mk (w' := w') h1 h2 h3 h4 g)
  have HB := Lib.hid (bxW_box w P (.slice a1 P.es.length c1) (.slice a2 P.js.length c2) (.slice a3 P.ss.length c3) (.slice a4 P.ls.length c4))
  have hw0 := bxW_gr w P (.slice a1 P.es.length c1) (.slice a2 P.js.length c2) (.slice a3 P.ss.length c3) (.slice a4 P.ls.length c4)
  obtain ⟨wb, hwb⟩ : ∃ wb, wb = bxW w P (.slice a1 P.es.length c1) (.slice a2 P.js.length c2) (.slice a3 P.ss.length c3) (.slice a4 P.ls.length c4) := ⟨_, rfl⟩
  rw [← hwb] at HB hw0
  unfold plnV
  have HWB := Lib.hid hwb
  have HKK := Lib.hid hk
  have HLL := Lib.hid hl
  clear h1 h2 h3 h4 hwb hk hl
  by_cases hlong : 40 < P.es.length ∨ 24 < P.ss.length ∨ 4 < P.ls.length ∨ 80 < P.js.length
  · have HC := Lib.hid (chk_long hlong)
    have hcs : (40 < (P.es.length : Int)) ∨ (¬ 40 < (P.es.length : Int) ∧ 24 < (P.ss.length : Int)) ∨ (¬ 40 < (P.es.length : Int) ∧ ¬ 24 < (P.ss.length : Int) ∧ 4 < (P.ls.length : Int)) ∨ (¬ 40 < (P.es.length : Int) ∧ ¬ 24 < (P.ss.length : Int) ∧ ¬ 4 < (P.ls.length : Int) ∧ 80 < (P.js.length : Int)) := by omega
    clear hlong
    rcases hcs with l1 | ⟨l1, l2⟩ | ⟨l1, l2, l3⟩ | ⟨l1, l2, l3, l4⟩
    all_goals
      go_enter Tryd.func44, Tryd.ntmps44
      go_wp2
      go_ret
      exact ⟨ret_int HC.out.symm, (Gr.refl _).alloc _⟩
  have HC := Lib.hid (chk_rest hlong)
  obtain ⟨l1, l2, l3, l4⟩ : ¬ 40 < (P.es.length : Int) ∧ ¬ 24 < (P.ss.length : Int) ∧ ¬ 4 < (P.ls.length : Int) ∧ ¬ 80 < (P.js.length : Int) := by omega
  have HL1 : Hid (P.es.length ≤ 40 ∧ P.ss.length ≤ 24 ∧ P.ls.length ≤ 4 ∧ P.js.length ≤ 80) := by unfold Hid; omega
  clear hlong
  have hmf : ∀ (fn : Fn) (first cap : Array Value) (w : World), (Instr.makeFunc fn first cap).run Tryd.prog w = .ok (.func fn first cap) w := fun _ _ _ _ => rfl
  go_enter Tryd.func44, Tryd.ntmps44
  go_wp2_with (fail)
  rw [show (w.alloc (.cells #[.slice a1 P.es.length c1, .slice a2 P.js.length c2, .slice a3 P.ss.length c3, .slice a4 P.ls.length c4, .int .i64 P.top, .int .i64 P.brake, .int .i64 P.margin, .int .i64 P.throw, .bool P.hard] 27)) = wb from HWB.out.symm]
  clear HWB l1 l2 l3 l4
  have HAR := Lib.hid (fun (v' : Value) (w' : World) (h : IsPln w' v' P) => numbers_any v' P w' h HKK.out)
  have HTA : Hid (∀ w', Gr wb w' → Calls Tryd.prog 64 #[.int .i64 P.es.length, .func (.func 65) #[] #[.pointer (some ⟨w.heap.size, 0, none⟩)]] w' fun e w'' => e = .returned (.bool (twiceB (P.es.map (·.n)))) ∧ Gr w' w'') := by
    intro w' h
    have := twice1_any (P.es.map (·.n)) w.heap.size w' (fun x hx => by obtain ⟨e, he, rfl⟩ := List.mem_map.1 hx; exact (HKK.out.es e he).2.2) (by have := HL1.out; simp; omega) (fun w'' h' i hi => by
      rw [List.getElem_map]
      exact name1_any w'' P w.heap.size a1 c1 _ _ _ _ (HB.out.gr (h.trans h')) rfl (H1.out.gr ((hw0.trans h).trans h')) (by have := HL1.out; omega) i (by simpa using hi))
    rwa [List.length_map] at this
  have HTB : Hid (∀ w', Gr wb w' → Calls Tryd.prog 64 #[.int .i64 P.ss.length, .func (.func 66) #[] #[.pointer (some ⟨w.heap.size, 0, none⟩)]] w' fun e w'' => e = .returned (.bool (twiceB (P.ss.map (·.n)))) ∧ Gr w' w'') := by
    intro w' h
    have := twice2_any (P.ss.map (·.n)) w.heap.size w' (fun x hx => by obtain ⟨e, he, rfl⟩ := List.mem_map.1 hx; exact (HKK.out.ss e he).2.2) (by have := HL1.out; simp; omega) (fun w'' h' i hi => by
      rw [List.getElem_map]
      exact name2_any w'' P w.heap.size a3 c3 _ _ _ _ (HB.out.gr (h.trans h')) rfl (H3.out.gr ((hw0.trans h).trans h')) (by have := HL1.out; omega) i (by simpa using hi))
    rwa [List.length_map] at this
  have HTC : Hid (∀ w', Gr wb w' → Calls Tryd.prog 64 #[.int .i64 P.ls.length, .func (.func 67) #[] #[.pointer (some ⟨w.heap.size, 0, none⟩)]] w' fun e w'' => e = .returned (.bool (twiceB (P.ls.map (·.n)))) ∧ Gr w' w'') := by
    intro w' h
    have := twice3_any (P.ls.map (·.n)) w.heap.size w' (fun x hx => by obtain ⟨e, he, rfl⟩ := List.mem_map.1 hx; exact (HKK.out.ls e he).1) (by have := HL1.out; simp; omega) (fun w'' h' i hi => by
      rw [List.getElem_map]
      exact name3_any w'' P w.heap.size a4 c4 _ _ _ _ (HB.out.gr (h.trans h')) rfl (H4.out.gr ((hw0.trans h).trans h')) (by have := HL1.out; omega) i (by simpa using hi))
    rwa [List.length_map] at this
  have HJO := Lib.hid (fun (v' : Value) (w' : World) (h : IsPln w' v' P) => joined_any v' P w' h HKK.out (by have := HL1.out; omega))
  have HSI : Hid (joinedB P = true → ∀ (v' : Value) (w' : World) (b n : Nat) (f : Value → Option Value) (h : IsPln w' v' P) (hm : MapFn P.js w' b n f), Calls Tryd.prog 69 #[v', .map (some b)] w' fun e w'' => e = .returned (.bool (signalsB P)) ∧ Gr w' w'') := fun hj v' w' b n f h hm => signals_any v' P w' b n f h HKK.out (by have := HL1.out; omega) hm.1 hm.2 (joined_ports hj)
  have HLN : Hid (joinedB P = true → ∀ (v' : Value) (w' : World) (b n : Nat) (f : Value → Option Value) (h : IsPln w' v' P) (hm : MapFn P.js w' b n f), Calls Tryd.prog 70 #[v', .map (some b)] w' fun e w'' => e = .returned (.bool (linesB P)) ∧ Gr w' w'') := fun hj v' w' b n f h hm => lines_anyP v' P w' b n f h HKK.out HLL.out (by have := HL1.out; omega) hm.1 hm.2 (joined_ports hj)
  have HLG : Hid (argsB P = true → signalsB P = true → ∀ (v' : Value) (w' : World) (h : IsPln w' v' P), Calls Tryd.prog 71 #[v'] w' fun e w'' => e = .returned (.bool (longB P)) ∧ Gr w' w'') := fun ha hs v' w' h => long_any v' P w' h (by have := args_nums ha; omega) (by have := args_nums ha; omega) (sig_in hs)
  generalize argsB P = ab at *
  generalize twiceB (P.es.map (·.n)) = ta at *
  generalize twiceB (P.ss.map (·.n)) = tb at *
  generalize twiceB (P.ls.map (·.n)) = tc at *
  generalize signalsB P = sb at *
  generalize linesB P = lb at *
  generalize longB P = gb at *
  have hz : Gr wb wb := Gr.refl _
  refine (HAR.out _ _ (HPv.out _ hw0)).mono ?_
  rintro e w5 ⟨rfl, h5⟩
  replace hz := hz.trans h5; obtain ⟨zb5, d05, d15, d25, d35, d45, d55, d65, d75, d85⟩ := HB.out.gr hz
  cases ab
  · go_wp2_with fail
    (go_ret; exact ⟨ret_int (by rw [HC.out]; rfl), hw0.trans hz⟩)
  cases ta
  case true => (go_wp2_with (first | (go_at_call 64; first | ((with_reducible refine (HTA.out _ hz).mono ?_); rintro e w21 ⟨rfl, h21⟩; replace hz := hz.trans h21; obtain ⟨zb21, d021, d121, d221, d321, d421, d521, d621, d721, d821⟩ := HB.out.gr hz) | ((with_reducible refine (HTB.out _ hz).mono ?_); rintro e w22 ⟨rfl, h22⟩; replace hz := hz.trans h22; obtain ⟨zb22, d022, d122, d222, d322, d422, d522, d622, d722, d822⟩ := HB.out.gr hz) | ((with_reducible refine (HTC.out _ hz).mono ?_); rintro e w23 ⟨rfl, h23⟩; replace hz := hz.trans h23; obtain ⟨zb23, d023, d123, d223, d323, d423, d523, d623, d723, d823⟩ := HB.out.gr hz)) | fail)); (go_ret; exact ⟨ret_int (by rw [HC.out]; rfl), hw0.trans hz⟩)
  cases tb
  case true => (go_wp2_with (first | (go_at_call 64; first | ((with_reducible refine (HTA.out _ hz).mono ?_); rintro e w21 ⟨rfl, h21⟩; replace hz := hz.trans h21; obtain ⟨zb21, d021, d121, d221, d321, d421, d521, d621, d721, d821⟩ := HB.out.gr hz) | ((with_reducible refine (HTB.out _ hz).mono ?_); rintro e w22 ⟨rfl, h22⟩; replace hz := hz.trans h22; obtain ⟨zb22, d022, d122, d222, d322, d422, d522, d622, d722, d822⟩ := HB.out.gr hz) | ((with_reducible refine (HTC.out _ hz).mono ?_); rintro e w23 ⟨rfl, h23⟩; replace hz := hz.trans h23; obtain ⟨zb23, d023, d123, d223, d323, d423, d523, d623, d723, d823⟩ := HB.out.gr hz)) | fail)); (go_ret; exact ⟨ret_int (by rw [HC.out]; rfl), hw0.trans hz⟩)
  cases tc
  case true => (go_wp2_with (first | (go_at_call 64; first | ((with_reducible refine (HTA.out _ hz).mono ?_); rintro e w21 ⟨rfl, h21⟩; replace hz := hz.trans h21; obtain ⟨zb21, d021, d121, d221, d321, d421, d521, d621, d721, d821⟩ := HB.out.gr hz) | ((with_reducible refine (HTB.out _ hz).mono ?_); rintro e w22 ⟨rfl, h22⟩; replace hz := hz.trans h22; obtain ⟨zb22, d022, d122, d222, d322, d422, d522, d622, d722, d822⟩ := HB.out.gr hz) | ((with_reducible refine (HTC.out _ hz).mono ?_); rintro e w23 ⟨rfl, h23⟩; replace hz := hz.trans h23; obtain ⟨zb23, d023, d123, d223, d323, d423, d523, d623, d723, d823⟩ := HB.out.gr hz)) | fail)); (go_ret; exact ⟨ret_int (by rw [HC.out]; rfl), hw0.trans hz⟩)
  go_wp2_with (first | (go_at_call 64; first | ((with_reducible refine (HTA.out _ hz).mono ?_); rintro e w21 ⟨rfl, h21⟩; replace hz := hz.trans h21; obtain ⟨zb21, d021, d121, d221, d321, d421, d521, d621, d721, d821⟩ := HB.out.gr hz) | ((with_reducible refine (HTB.out _ hz).mono ?_); rintro e w22 ⟨rfl, h22⟩; replace hz := hz.trans h22; obtain ⟨zb22, d022, d122, d222, d322, d422, d522, d622, d722, d822⟩ := HB.out.gr hz) | ((with_reducible refine (HTC.out _ hz).mono ?_); rintro e w23 ⟨rfl, h23⟩; replace hz := hz.trans h23; obtain ⟨zb23, d023, d123, d223, d323, d423, d523, d623, d723, d823⟩ := HB.out.gr hz)) | fail)
  refine (HJO.out _ _ (HPv.out _ (hw0.trans hz))).mono ?_
  rintro e w12 ⟨m, rfl, h12, hmap⟩
  replace hz := hz.trans h12; obtain ⟨zb12, d012, d112, d212, d312, d412, d512, d612, d712, d812⟩ := HB.out.gr hz
  generalize hjb : joinedB P = jb at *
  cases jb
  · clear hmap hjb
    go_wp2_with fail
    (go_ret; exact ⟨ret_int (by rw [HC.out]; rfl), hw0.trans hz⟩)
  obtain ⟨b, n, f, rfl, -, hm, hf⟩ := hmap rfl
  have HMF : Hid (MapFn P.js w12 b n f) := ⟨hm, hf⟩
  have HSI2 := Lib.hid (HSI.out (by trivial))
  have HLN2 := Lib.hid (HLN.out (by trivial))
  have HLG2 := Lib.hid (HLG.out (by trivial))
  clear hmap hjb hm hf
  cases sb
  · go_wp2_with (first | (go_at_call 69; (with_reducible refine (HSI2.out _ _ _ _ _ (HPv.out _ (hw0.trans hz)) HMF.out).mono ?_); rintro e w13 ⟨rfl, h13⟩; have HMF := Lib.hid (HMF.out.gr h13); replace hz := hz.trans h13; obtain ⟨zb13, d013, d113, d213, d313, d413, d513, d613, d713, d813⟩ := HB.out.gr hz) | fail)
    (go_ret; exact ⟨ret_int (by rw [HC.out]; rfl), hw0.trans hz⟩)
  have HLG3 := Lib.hid (HLG2.out (by trivial))
  go_wp2_with (first | (go_at_call 69; (with_reducible refine (HSI2.out _ _ _ _ _ (HPv.out _ (hw0.trans hz)) HMF.out).mono ?_); rintro e w13 ⟨rfl, h13⟩; have HMF := Lib.hid (HMF.out.gr h13); replace hz := hz.trans h13; obtain ⟨zb13, d013, d113, d213, d313, d413, d513, d613, d713, d813⟩ := HB.out.gr hz) | fail)
  cases lb
  · go_wp2_with (first | (go_at_call 70; (with_reducible refine (HLN2.out _ _ _ _ _ (HPv.out _ (hw0.trans hz)) HMF.out).mono ?_); rintro e w14 ⟨rfl, h14⟩; have HMF := Lib.hid (HMF.out.gr h14); replace hz := hz.trans h14; obtain ⟨zb14, d014, d114, d214, d314, d414, d514, d614, d714, d814⟩ := HB.out.gr hz) | fail)
    (go_ret; exact ⟨ret_int (by rw [HC.out]; rfl), hw0.trans hz⟩)
  go_wp2_with (first | (go_at_call 70; (with_reducible refine (HLN2.out _ _ _ _ _ (HPv.out _ (hw0.trans hz)) HMF.out).mono ?_); rintro e w14 ⟨rfl, h14⟩; have HMF := Lib.hid (HMF.out.gr h14); replace hz := hz.trans h14; obtain ⟨zb14, d014, d114, d214, d314, d414, d514, d614, d714, d814⟩ := HB.out.gr hz) | fail)
  cases gb
  · go_wp2_with (first | (go_at_call 71; (with_reducible refine (HLG3.out _ _ (HPv.out _ (hw0.trans hz))).mono ?_); rintro e w15 ⟨rfl, h15⟩; replace hz := hz.trans h15; obtain ⟨zb15, d015, d115, d215, d315, d415, d515, d615, d715, d815⟩ := HB.out.gr hz) | fail)
    (go_ret; exact ⟨ret_int (by rw [HC.out]; rfl), hw0.trans hz⟩)
  go_wp2_with (first | (go_at_call 71; (with_reducible refine (HLG3.out _ _ (HPv.out _ (hw0.trans hz))).mono ?_); rintro e w15 ⟨rfl, h15⟩; replace hz := hz.trans h15; obtain ⟨zb15, d015, d115, d215, d315, d415, d515, d615, d715, d815⟩ := HB.out.gr hz) | fail)
  (go_ret; exact ⟨ret_int (by rw [HC.out]; rfl), hw0.trans hz⟩)
end Go.Proofs.YtgjnlgcdpbilfaaDoor
namespace Go.Proofs.YtgjnlgcdpbilfaaDoor
open Go.ChangeShapes Go.WideShapes Go.ChangeAt Go.RowKit
set_option linter.unusedVariables false
set_option linter.unusedSimpArgs false
def rowL (sz n : Nat) (C : Nat → Nat → Value) : List Value := (List.range (n * sz)).map fun k => C (k / sz) (k % sz)
theorem rowL_len (sz n : Nat) (C : Nat → Nat → Value) : (rowL sz n C).length = n * sz := by unfold rowL; simp
theorem rowL_get {sz n : Nat} {C : Nat → Nat → Value} {i j : Nat} (hi : i < n) (hj : j < sz) : (rowL sz n C)[i * sz + j]? = some (C i j) := by
  unfold rowL
  have h : i * sz + j < n * sz := by
    have : (i + 1) * sz ≤ n * sz := Nat.mul_le_mul_right sz hi
    rw [Nat.succ_mul] at this
    omega
  have h0 : 0 < sz := by omega
  rw [List.getElem?_map, List.getElem?_range h]
  have e1 : (i * sz + j) / sz = i := by rw [Nat.mul_comm, Nat.mul_add_div h0, Nat.div_eq_of_lt hj, Nat.add_zero]
  have e2 : (i * sz + j) % sz = j := by rw [Nat.mul_comm, Nat.mul_add_mod, Nat.mod_eq_of_lt hj]
  simp [e1, e2]
theorem own_row {w : World} {B : Nat} {e : TypeId} {sz n : Nat} {v : Value} {C : Nat → Nat → Value} (h : w.ownsRow B e sz v n (rowL sz n C)) (hl : n ≤ maxLen) : IsRow w v sz n C :=
  row_of_own h hl fun i j hi hj => rowL_get hi hj
theorem rowL_at {w : World} {sz n : Nat} {C : Nat → Nat → Value} {a : Addr} {c : Nat} (hs : 0 < sz) (h : IsRow w (.slice (some a) n c) sz n C) : ∀ j u, (rowL sz n C)[j]? = some u → w.cell? (a.add j) = some u := by
  intro j u hu
  obtain ⟨a', c', e, _, hx⟩ := h
  simp only [Value.slice.injEq] at e
  obtain ⟨rfl, -, -⟩ := e
  have hj : j < n * sz := by
    have := (List.getElem?_eq_some_iff.1 hu).1
    rwa [rowL_len] at this
  rcases hx with h0 | ⟨b, o, hb, hlt, hc⟩
  · subst h0; omega
  · cases hb
    have hi : j / sz < n := (Nat.div_lt_iff_lt_mul hs).2 hj
    have hm : j % sz < sz := Nat.mod_lt _ hs
    have := hc (j / sz) (j % sz) hi hm
    have e : o + j / sz * sz + j % sz = o + j := by have := Nat.div_add_mod j sz; rw [Nat.mul_comm] at this; omega
    rw [e] at this
    rw [Go.WideShapes.add_plain, this]
    have h2 := rowL_get (C := C) hi hm
    rw [show j / sz * sz + j % sz = j from by have := Nat.div_add_mod j sz; rw [Nat.mul_comm] at this; exact this, hu] at h2
    exact h2.symm
theorem rowL_one {sz n : Nat} {C : Nat → Nat → Value} (hC : ∀ i j, (C i j).oneCell' = true) : ∀ u ∈ rowL sz n C, u.oneCell' = true := by
  intro u hu
  unfold rowL at hu
  obtain ⟨k, _, rfl⟩ := List.mem_map.1 hu
  exact hC _ _
def RetC (w : World) (e : TypeId) (sz n : Nat) (C : Nat → Nat → Value) (en : Ending) (w' : World) : Prop := ∃ v, en = .returned v ∧ Gr w w' ∧ w'.ownsRow w.heap.size e sz v n (rowL sz n C)
theorem RetC.nil {w : World} {e : TypeId} {sz : Nat} {C : Nat → Nat → Value} : RetC w e sz 0 C (.returned (.slice none 0 0)) w :=
  ⟨_, rfl, Gr.refl _, by rw [rowL_len], .inl ⟨rfl, rfl⟩⟩
theorem Tryd.infoCElem : (Tryd.prog.info? 72).map (fun i => (i.zero, i.size, i.bytes)) = some (some (.agg #[.string ByteArray.empty, .int .i64 0, .int .i64 0]), 3, 32) := by kernel_rfl
set_option maxHeartbeats 400000 in
theorem cloneElem_any (v : Value) (n : Nat) (C : Nat → Nat → Value) (w : World) (hv : IsRow w v 3 n C) (hC : ∀ i j, (C i j).oneCell' = true) (hn : n ≤ 1000000) :
    Calls Tryd.prog 72 #[v] w (RetC w 72 3 n C) := by
  obtain ⟨i0, hi, hz0, hz1, hz2⟩ := info_parts Tryd.infoCElem
  have HV := Lib.hid hv
  obtain ⟨a, c, rfl, hm, hx⟩ := hv
  have E := fun w a n c => Lib.run_eql_slice_nil (P := Tryd.prog) w 22 72 a n c 0 0 Tryd.underlying22
  cases a with
  | none =>
    have hn0 : n = 0 := by
      rcases hx with h | ⟨b, o, h, _⟩
      · exact h
      · cases h
    subst hn0
    clear hx hm hn
    go_enter Tryd.func72, Tryd.ntmps72
    go_wp2
    go_ret
    exact RetC.nil
  | some ad =>
    have HA := Lib.hid (fun w' (g : Gr w w') => rowL_at (by omega) (HV.out.gr g))
    have H1 := Lib.hid (rowL_one (sz := 3) (n := n) hC)
    have hown : (w.alloc (.cells #[] 72)).ownsRow w.heap.size 72 3 (.slice (some ⟨w.heap.size, 0, none⟩) 0 0) 0 [] :=
      ⟨rfl, .inr ⟨w.heap.size, 0, #[], rfl, Nat.le_refl _, heap_alloc_new w _, Nat.le_refl _, Nat.zero_le _, rfl, rfl⟩⟩
    have HO := Lib.hid hown
    clear hx hown
    go_enter Tryd.func72, Tryd.ntmps72
    go_wp2_with (first | (at_builtin; refine wpList_append_own _ rfl _ _ 22 rfl w.heap.size 72 i0 (.agg #[.string ByteArray.empty, .int .i64 0, .int .i64 0]) 3 32 Tryd.underlying22 hi hz0 hz1 hz2 rfl (by decide) _ _ _ rfl HO.out ad n c (rowL 3 n C) rfl (rowL_len _ _ _) ?c1 ?c2 ?c3 ?c4 ?c5 ?_))
    case c1 => exact HA.out _ ((Gr.refl w).alloc _)
    case c2 => exact H1.out
    case c3 => unfold maxLen; omega
    case c4 => omega
    case c5 => simp
    intro v' w1 hown' hgrow _
    have hg1 : Gr w w1 := Gr.grown ((Gr.refl w).alloc _) hgrow HO.out
    go_wp2
    go_ret
    refine ⟨v', rfl, hg1, ?_⟩
    simpa using hown'
theorem Tryd.infoCJoin : (Tryd.prog.info? 74).map (fun i => (i.zero, i.size, i.bytes)) = some (some (.agg #[.int .i64 0, .int .i64 0, .int .i64 0, .int .i64 0]), 4, 32) := by kernel_rfl
set_option maxHeartbeats 400000 in
theorem cloneJoin_any (v : Value) (n : Nat) (C : Nat → Nat → Value) (w : World) (hv : IsRow w v 4 n C) (hC : ∀ i j, (C i j).oneCell' = true) (hn : n ≤ 1000000) :
    Calls Tryd.prog 73 #[v] w (RetC w 74 4 n C) := by
  obtain ⟨i0, hi, hz0, hz1, hz2⟩ := info_parts Tryd.infoCJoin
  have HV := Lib.hid hv
  obtain ⟨a, c, rfl, hm, hx⟩ := hv
  have E := fun w a n c => Lib.run_eql_slice_nil (P := Tryd.prog) w 23 74 a n c 0 0 Tryd.underlying23
  cases a with
  | none =>
    have hn0 : n = 0 := by
      rcases hx with h | ⟨b, o, h, _⟩
      · exact h
      · cases h
    subst hn0
    clear hx hm hn
    go_enter Tryd.func73, Tryd.ntmps73
    go_wp2
    go_ret
    exact RetC.nil
  | some ad =>
    have HA := Lib.hid (fun w' (g : Gr w w') => rowL_at (by omega) (HV.out.gr g))
    have H1 := Lib.hid (rowL_one (sz := 4) (n := n) hC)
    have hown : (w.alloc (.cells #[] 74)).ownsRow w.heap.size 74 4 (.slice (some ⟨w.heap.size, 0, none⟩) 0 0) 0 [] :=
      ⟨rfl, .inr ⟨w.heap.size, 0, #[], rfl, Nat.le_refl _, heap_alloc_new w _, Nat.le_refl _, Nat.zero_le _, rfl, rfl⟩⟩
    have HO := Lib.hid hown
    clear hx hown
    go_enter Tryd.func73, Tryd.ntmps73
    go_wp2_with (first | (at_builtin; refine wpList_append_own _ rfl _ _ 23 rfl w.heap.size 74 i0 (.agg #[.int .i64 0, .int .i64 0, .int .i64 0, .int .i64 0]) 4 32 Tryd.underlying23 hi hz0 hz1 hz2 rfl (by decide) _ _ _ rfl HO.out ad n c (rowL 4 n C) rfl (rowL_len _ _ _) ?c1 ?c2 ?c3 ?c4 ?c5 ?_))
    case c1 => exact HA.out _ ((Gr.refl w).alloc _)
    case c2 => exact H1.out
    case c3 => unfold maxLen; omega
    case c4 => omega
    case c5 => simp
    intro v' w1 hown' hgrow _
    have hg1 : Gr w w1 := Gr.grown ((Gr.refl w).alloc _) hgrow HO.out
    go_wp2
    go_ret
    refine ⟨v', rfl, hg1, ?_⟩
    simpa using hown'
theorem Tryd.infoCSignal : (Tryd.prog.info? 77).map (fun i => (i.zero, i.size, i.bytes)) = some (some (.agg #[.string ByteArray.empty, .int .i64 0, .int .i64 0, .bool false]), 4, 40) := by kernel_rfl
set_option maxHeartbeats 400000 in
theorem cloneSignal_any (v : Value) (n : Nat) (C : Nat → Nat → Value) (w : World) (hv : IsRow w v 4 n C) (hC : ∀ i j, (C i j).oneCell' = true) (hn : n ≤ 1000000) :
    Calls Tryd.prog 74 #[v] w (RetC w 77 4 n C) := by
  obtain ⟨i0, hi, hz0, hz1, hz2⟩ := info_parts Tryd.infoCSignal
  have HV := Lib.hid hv
  obtain ⟨a, c, rfl, hm, hx⟩ := hv
  have E := fun w a n c => Lib.run_eql_slice_nil (P := Tryd.prog) w 24 77 a n c 0 0 Tryd.underlying24
  cases a with
  | none =>
    have hn0 : n = 0 := by
      rcases hx with h | ⟨b, o, h, _⟩
      · exact h
      · cases h
    subst hn0
    clear hx hm hn
    go_enter Tryd.func74, Tryd.ntmps74
    go_wp2
    go_ret
    exact RetC.nil
  | some ad =>
    have HA := Lib.hid (fun w' (g : Gr w w') => rowL_at (by omega) (HV.out.gr g))
    have H1 := Lib.hid (rowL_one (sz := 4) (n := n) hC)
    have hown : (w.alloc (.cells #[] 77)).ownsRow w.heap.size 77 4 (.slice (some ⟨w.heap.size, 0, none⟩) 0 0) 0 [] :=
      ⟨rfl, .inr ⟨w.heap.size, 0, #[], rfl, Nat.le_refl _, heap_alloc_new w _, Nat.le_refl _, Nat.zero_le _, rfl, rfl⟩⟩
    have HO := Lib.hid hown
    clear hx hown
    go_enter Tryd.func74, Tryd.ntmps74
    go_wp2_with (first | (at_builtin; refine wpList_append_own _ rfl _ _ 24 rfl w.heap.size 77 i0 (.agg #[.string ByteArray.empty, .int .i64 0, .int .i64 0, .bool false]) 4 40 Tryd.underlying24 hi hz0 hz1 hz2 rfl (by decide) _ _ _ rfl HO.out ad n c (rowL 4 n C) rfl (rowL_len _ _ _) ?c1 ?c2 ?c3 ?c4 ?c5 ?_))
    case c1 => exact HA.out _ ((Gr.refl w).alloc _)
    case c2 => exact H1.out
    case c3 => unfold maxLen; omega
    case c4 => omega
    case c5 => simp
    intro v' w1 hown' hgrow _
    have hg1 : Gr w w1 := Gr.grown ((Gr.refl w).alloc _) hgrow HO.out
    go_wp2
    go_ret
    refine ⟨v', rfl, hg1, ?_⟩
    simpa using hown'
theorem Tryd.infoCLine : (Tryd.prog.info? 85).map (fun i => (i.zero, i.size, i.bytes)) = some (some (.agg #[.string ByteArray.empty, .slice none 0 0]), 2, 40) := by kernel_rfl
set_option maxHeartbeats 400000 in
theorem cloneLine_any (v : Value) (n : Nat) (C : Nat → Nat → Value) (w : World) (hv : IsRow w v 2 n C) (hC : ∀ i j, (C i j).oneCell' = true) (hn : n ≤ 1000000) :
    Calls Tryd.prog 75 #[v] w (RetC w 85 2 n C) := by
  obtain ⟨i0, hi, hz0, hz1, hz2⟩ := info_parts Tryd.infoCLine
  have HV := Lib.hid hv
  obtain ⟨a, c, rfl, hm, hx⟩ := hv
  have E := fun w a n c => Lib.run_eql_slice_nil (P := Tryd.prog) w 25 85 a n c 0 0 Tryd.underlying25
  cases a with
  | none =>
    have hn0 : n = 0 := by
      rcases hx with h | ⟨b, o, h, _⟩
      · exact h
      · cases h
    subst hn0
    clear hx hm hn
    go_enter Tryd.func75, Tryd.ntmps75
    go_wp2
    go_ret
    exact RetC.nil
  | some ad =>
    have HA := Lib.hid (fun w' (g : Gr w w') => rowL_at (by omega) (HV.out.gr g))
    have H1 := Lib.hid (rowL_one (sz := 2) (n := n) hC)
    have hown : (w.alloc (.cells #[] 85)).ownsRow w.heap.size 85 2 (.slice (some ⟨w.heap.size, 0, none⟩) 0 0) 0 [] :=
      ⟨rfl, .inr ⟨w.heap.size, 0, #[], rfl, Nat.le_refl _, heap_alloc_new w _, Nat.le_refl _, Nat.zero_le _, rfl, rfl⟩⟩
    have HO := Lib.hid hown
    clear hx hown
    go_enter Tryd.func75, Tryd.ntmps75
    go_wp2_with (first | (at_builtin; refine wpList_append_own _ rfl _ _ 25 rfl w.heap.size 85 i0 (.agg #[.string ByteArray.empty, .slice none 0 0]) 2 40 Tryd.underlying25 hi hz0 hz1 hz2 rfl (by decide) _ _ _ rfl HO.out ad n c (rowL 2 n C) rfl (rowL_len _ _ _) ?c1 ?c2 ?c3 ?c4 ?c5 ?_))
    case c1 => exact HA.out _ ((Gr.refl w).alloc _)
    case c2 => exact H1.out
    case c3 => unfold maxLen; omega
    case c4 => omega
    case c5 => simp
    intro v' w1 hown' hgrow _
    have hg1 : Gr w w1 := Gr.grown ((Gr.refl w).alloc _) hgrow HO.out
    go_wp2
    go_ret
    refine ⟨v', rfl, hg1, ?_⟩
    simpa using hown'
theorem Tryd.infoCInt : (Tryd.prog.info? 3).map (fun i => (i.zero, i.size, i.bytes)) = some (some (.int .i64 0), 1, 8) := by kernel_rfl
set_option maxHeartbeats 400000 in
theorem cloneInt_any (v : Value) (n : Nat) (C : Nat → Nat → Value) (w : World) (hv : IsRow w v 1 n C) (hC : ∀ i j, (C i j).oneCell' = true) (hn : n ≤ 1000000) :
    Calls Tryd.prog 76 #[v] w (RetC w 3 1 n C) := by
  obtain ⟨i0, hi, hz0, hz1, hz2⟩ := info_parts Tryd.infoCInt
  have HV := Lib.hid hv
  obtain ⟨a, c, rfl, hm, hx⟩ := hv
  have E := fun w a n c => Lib.run_eql_slice_nil (P := Tryd.prog) w 28 3 a n c 0 0 Tryd.underlying28
  cases a with
  | none =>
    have hn0 : n = 0 := by
      rcases hx with h | ⟨b, o, h, _⟩
      · exact h
      · cases h
    subst hn0
    clear hx hm hn
    go_enter Tryd.func76, Tryd.ntmps76
    go_wp2
    go_ret
    exact RetC.nil
  | some ad =>
    have HA := Lib.hid (fun w' (g : Gr w w') => rowL_at (by omega) (HV.out.gr g))
    have H1 := Lib.hid (rowL_one (sz := 1) (n := n) hC)
    have hown : (w.alloc (.cells #[] 3)).ownsRow w.heap.size 3 1 (.slice (some ⟨w.heap.size, 0, none⟩) 0 0) 0 [] :=
      ⟨rfl, .inr ⟨w.heap.size, 0, #[], rfl, Nat.le_refl _, heap_alloc_new w _, Nat.le_refl _, Nat.zero_le _, rfl, rfl⟩⟩
    have HO := Lib.hid hown
    clear hx hown
    go_enter Tryd.func76, Tryd.ntmps76
    go_wp2_with (first | (at_builtin; refine wpList_append_own _ rfl _ _ 28 rfl w.heap.size 3 i0 (.int .i64 0) 1 8 Tryd.underlying28 hi hz0 hz1 hz2 rfl (by decide) _ _ _ rfl HO.out ad n c (rowL 1 n C) rfl (rowL_len _ _ _) ?c1 ?c2 ?c3 ?c4 ?c5 ?_))
    case c1 => exact HA.out _ ((Gr.refl w).alloc _)
    case c2 => exact H1.out
    case c3 => unfold maxLen; omega
    case c4 => omega
    case c5 => simp
    intro v' w1 hown' hgrow _
    have hg1 : Gr w w1 := Gr.grown ((Gr.refl w).alloc _) hgrow HO.out
    go_wp2
    go_ret
    refine ⟨v', rfl, hg1, ?_⟩
    simpa using hown'
end Go.Proofs.YtgjnlgcdpbilfaaDoor
namespace Go.Proofs.YtgjnlgcdpbilfaaDoor
open Go.ChangeShapes Go.WideShapes Go.ChangeAt Go.RowKit
set_option linter.unusedVariables false
set_option linter.unusedSimpArgs false
attribute [local go_sem ↓] Go.wp_at_zero Go.wp_at_succ
theorem ele_one (e : Ele) (j : Nat) : (e.c j).oneCell' = true := by unfold Ele.c; split; · rfl
                                                                    · split <;> rfl
theorem jn_one (q : Jn) (j : Nat) : (q.c j).oneCell' = true := by
  unfold Jn.c
  split; · rfl
  split; · rfl
  split <;> rfl
theorem sg_one (q : Sg) (j : Nat) : (q.c j).oneCell' = true := by
  unfold Sg.c
  split; · rfl
  split; · rfl
  split <;> rfl
def Free9 (w : World) (b : Nat) : Prop := ∀ o, o < 9 → w.frozen? ⟨b, o, none⟩ = false
theorem Free9.gr {w w' : World} {b : Nat} (h : Free9 w b) (g : Gr w w') (hb : b < w.heap.size) : Free9 w' b := fun o ho => by rw [g.frozen _ _ hb]; exact h o ho
theorem Free9.set {w : World} {b : Nat} (h : Free9 w b) (p : Addr) (v : Value) : Free9 (w.setCell p v) b := fun o ho => by rw [World.frozen?_setCell]; exact h o ho
theorem Free9.new (w : World) (x : Array Value) (t : TypeId) : Free9 (w.alloc (.cells x t)) w.heap.size := fun o ho => by simp
theorem own_form {w : World} {B : Nat} {e : TypeId} {sz n : Nat} {v : Value} {xs : List Value} (h : w.ownsRow B e sz v n xs) : ∃ a c, v = .slice a n c := by
  rcases h.2 with ⟨rfl, h0⟩ | ⟨g, cap, cur, rfl, _⟩
  · subst h0; exact ⟨_, _, rfl⟩
  · exact ⟨_, _, rfl⟩
def IsRowI (lo hi : Nat) (w : World) (v : Value) (sz n : Nat) (C : Nat → Nat → Value) : Prop :=
  ∃ a c, v = .slice a n c ∧ n ≤ maxLen ∧ (n = 0 ∨ ∃ b o, a = some ⟨b, o, none⟩ ∧ lo ≤ b ∧ b < hi ∧ b < w.heap.size ∧ ∀ i j, i < n → j < sz → w.cell? ⟨b, o + i * sz + j, none⟩ = some (C i j))
theorem IsRowI.row {lo hi : Nat} {w : World} {v : Value} {sz n : Nat} {C : Nat → Nat → Value} (h : IsRowI lo hi w v sz n C) : IsRow w v sz n C := by
  obtain ⟨a, c, e, hm, hx⟩ := h
  refine ⟨a, c, e, hm, ?_⟩
  rcases hx with h | ⟨b, o, h1, -, -, h2, h3⟩
  · exact .inl h
  · exact .inr ⟨b, o, h1, h2, h3⟩
theorem IsRowI.keep {lo hi : Nat} {w w' : World} {v : Value} {sz n : Nat} {C : Nat → Nat → Value} (h : IsRowI lo hi w v sz n C) (hs : w.heap.size ≤ w'.heap.size) (hc : ∀ b o, lo ≤ b → b < hi → b < w.heap.size → w'.cell? ⟨b, o, none⟩ = w.cell? ⟨b, o, none⟩) : IsRowI lo hi w' v sz n C := by
  obtain ⟨a, c, e, hm, hx⟩ := h
  refine ⟨a, c, e, hm, ?_⟩
  rcases hx with h | ⟨b, o, h1, h2, h3, h4, h5⟩
  · exact .inl h
  · exact .inr ⟨b, o, h1, h2, h3, Nat.lt_of_lt_of_le h4 hs, fun i j hi hj => by rw [hc _ _ h2 h3 h4]; exact h5 i j hi hj⟩
def Tw1 (w : World) (P : Pln) (l : Value) (wc : World) : Prop :=
  ∃ v1 v2 v3, Gr w wc ∧ PBox wc w.heap.size P v1 v2 v3 l ∧ Free9 wc w.heap.size ∧ w.heap.size + 1 < wc.heap.size ∧ (∀ o, o < 9 → ∃ u, wc.cell? ⟨w.heap.size + 1, o, none⟩ = some u) ∧ Free9 wc (w.heap.size + 1) ∧
    IsRowI (w.heap.size + 2) wc.heap.size wc v1 3 P.es.length (fun i j => (P.es.getD i default).c j) ∧ IsRowI (w.heap.size + 2) wc.heap.size wc v2 4 P.js.length (fun i j => (P.js.getD i default).c j) ∧ IsRowI (w.heap.size + 2) wc.heap.size wc v3 4 P.ss.length (fun i j => (P.ss.getD i default).c j)
theorem set3_cell {w : World} {b : Nat} {u0 u1 u2 v0 v1 v2 : Value} (h0 : w.cell? ⟨b, 0, none⟩ = some u0) (h1 : w.cell? ⟨b, 1, none⟩ = some u1) (h2 : w.cell? ⟨b, 2, none⟩ = some u2) :
    let w' := ((w.setCell ⟨b, 0, none⟩ v0).setCell ⟨b, 1, none⟩ v1).setCell ⟨b, 2, none⟩ v2
    w'.cell? ⟨b, 0, none⟩ = some v0 ∧ w'.cell? ⟨b, 1, none⟩ = some v1 ∧ w'.cell? ⟨b, 2, none⟩ = some v2 ∧ (∀ o, 3 ≤ o → w'.cell? ⟨b, o, none⟩ = w.cell? ⟨b, o, none⟩) ∧ (∀ b' o, b' ≠ b → w'.cell? ⟨b', o, none⟩ = w.cell? ⟨b', o, none⟩) ∧ (∀ p, w'.frozen? p = w.frozen? p) ∧ w'.heap.size = w.heap.size := by
  have n01 : (⟨b, 1, none⟩ : Addr) ≠ ⟨b, 0, none⟩ := by simp
  refine ⟨?_, ?_, World.cell?_setCell_same _ _ _ ((World.cell?_setCell_other _ _ _ _ (by simp)).trans ((World.cell?_setCell_other _ _ _ _ (by simp)).trans h2)), fun o ho => ?_, fun b' o hb => ?_, fun p => ?_, by simp⟩
  · exact (World.cell?_setCell_other _ _ _ _ (by simp)).trans ((World.cell?_setCell_other _ _ _ _ (by simp)).trans (World.cell?_setCell_same _ _ _ h0))
  · exact (World.cell?_setCell_other _ _ _ _ (by simp)).trans (World.cell?_setCell_same _ _ _ ((World.cell?_setCell_other _ _ _ _ (by simp)).trans h1))
  · rw [World.cell?_setCell_other _ _ _ _ (by intro e; injection e with _ e2; omega), World.cell?_setCell_other _ _ _ _ (by intro e; injection e with _ e2; omega), World.cell?_setCell_other _ _ _ _ (by intro e; injection e with _ e2; omega)]
  · rw [World.cell?_setCell_other _ _ _ _ (by intro e; injection e with e2 _; exact hb e2.symm), World.cell?_setCell_other _ _ _ _ (by intro e; injection e with e2 _; exact hb e2.symm), World.cell?_setCell_other _ _ _ _ (by intro e; injection e with e2 _; exact hb e2.symm)]
  · rw [World.frozen?_setCell, World.frozen?_setCell, World.frozen?_setCell]
theorem own_base_le {w : World} {B B' : Nat} {e : TypeId} {sz n : Nat} {v : Value} {xs : List Value} (h : w.ownsRow B e sz v n xs) (hb : B' ≤ B) : w.ownsRow B' e sz v n xs := by
  refine ⟨h.1, ?_⟩
  rcases h.2 with h | ⟨g, cap, cur, hv, hg, rest⟩
  · exact .inl h
  · exact .inr ⟨g, cap, cur, hv, Nat.le_trans hb hg, rest⟩
theorem own_row_far {w w' : World} {B b : Nat} {e : TypeId} {sz n : Nat} {v : Value} {C : Nat → Nat → Value} (h : w.ownsRow B e sz v n (rowL sz n C)) (hl : n ≤ maxLen) (hb : b < B) (hc : ∀ b' o, b' ≠ b → w'.cell? ⟨b', o, none⟩ = w.cell? ⟨b', o, none⟩) (hs : w'.heap.size = w.heap.size) : IsRowI B w'.heap.size w' v sz n C := by
  have hr := own_row h hl
  rcases h.2 with ⟨rfl, h0⟩ | ⟨g, cap, cur, rfl, hg, _⟩
  · subst h0; exact ⟨none, 0, rfl, hl, .inl rfl⟩
  · obtain ⟨a, c, e, hm, hx⟩ := hr
    simp only [Value.slice.injEq, true_and] at e
    obtain ⟨rfl, rfl⟩ := e
    refine ⟨_, _, rfl, hm, ?_⟩
    rcases hx with hx | ⟨b', o, e, hlt, hcc⟩
    · exact .inl hx
    · simp only [Option.some.injEq, Addr.mk.injEq, and_true] at e
      obtain ⟨rfl, rfl⟩ := e
      exact .inr ⟨g, 0, rfl, hg, by rw [hs]; exact hlt, by rw [hs]; exact hlt, fun i j hi hj => by rw [hc _ _ (by omega)]; exact hcc i j hi hj⟩
theorem tw1_mk {w w2 w6 w9 w12 : World} {P : Pln} {l x0 x1 x2 : Value} {v1 v2 v3 : Value} (hW : Gr w w2) (hb : PBox w2 w.heap.size P x0 x1 x2 l) (hf : Free9 w2 w.heap.size) (hs : w2.heap.size = w.heap.size + 2)
    (hc : ∀ o, o < 9 → ∃ u, w2.cell? ⟨w.heap.size + 1, o, none⟩ = some u) (hf2 : Free9 w2 (w.heap.size + 1)) (k6 : Gr w2 w6) (h9 : Gr w6 w9) (h12 : Gr w9 w12)
    (o6 : w6.ownsRow w2.heap.size 72 3 v1 P.es.length (rowL 3 P.es.length fun i j => (P.es.getD i default).c j)) (o9 : w9.ownsRow w6.heap.size 74 4 v2 P.js.length (rowL 4 P.js.length fun i j => (P.js.getD i default).c j))
    (o12 : w12.ownsRow w9.heap.size 77 4 v3 P.ss.length (rowL 4 P.ss.length fun i j => (P.ss.getD i default).c j)) (hn : P.es.length ≤ 1000 ∧ P.js.length ≤ 1000 ∧ P.ss.length ≤ 1000) :
    Tw1 w P l (((w12.setCell ⟨w.heap.size, 0, none⟩ v1).setCell ⟨w.heap.size, 1, none⟩ v2).setCell ⟨w.heap.size, 2, none⟩ v3) := by
  have k12 := (k6.trans h9).trans h12
  obtain ⟨zb, b0, b1, b2, b3, b4, b5, b6, b7, b8⟩ := hb.gr k12
  obtain ⟨c0, c1, c2, c3, c4, c5, c6⟩ := set3_cell (v0 := v1) (v1 := v2) (v2 := v3) b0 b1 b2
  have z6 := k6.size
  have z9 := h9.size
  have z12 := h12.size
  refine ⟨v1, v2, v3, ((((hW.trans k12).setCell (Nat.le_refl _) _).setCell (Nat.le_refl _) _).setCell (Nat.le_refl _) _), ⟨by rw [c6]; exact zb, c0, c1, c2, (c3 3 (by omega)).trans b3, (c3 4 (by omega)).trans b4, (c3 5 (by omega)).trans b5, (c3 6 (by omega)).trans b6, (c3 7 (by omega)).trans b7, (c3 8 (by omega)).trans b8⟩, ?_, by rw [c6]; omega, ?_, ?_, ?_, ?_, ?_⟩
  · intro o ho
    rw [c5]
    exact (hf.gr k12 (by omega)) o ho
  · intro o ho
    obtain ⟨u, hu⟩ := hc o ho
    exact ⟨u, (c4 _ _ (by omega)).trans ((k12.cell _ _ (by omega)).trans hu)⟩
  · intro o ho
    rw [c5]
    exact (hf2.gr k12 (by omega)) o ho
  · exact own_row_far (own_base_le (own_gr o6 (h9.trans h12)) (by omega)) (by unfold maxLen; omega) (by omega) c4 c6
  · exact own_row_far (own_base_le (own_gr o9 h12) (by omega)) (by unfold maxLen; omega) (by omega) c4 c6
  · exact own_row_far (own_base_le o12 (by omega)) (by unfold maxLen; omega) (by omega) c4 c6
def Far (r : Nat) (w w' : World) : Prop := w'.heap.size = w.heap.size ∧ (∀ b o, b ≠ r → w'.cell? ⟨b, o, none⟩ = w.cell? ⟨b, o, none⟩) ∧ ∀ p, w'.frozen? p = w.frozen? p
theorem Far.refl (r : Nat) (w : World) : Far r w w := ⟨rfl, fun _ _ _ => rfl, fun _ => rfl⟩
theorem Far.set {r : Nat} {w w' : World} (h : Far r w w') (o : Nat) (v : Value) : Far r w (w'.setCell ⟨r, o, none⟩ v) :=
  ⟨by simpa using h.1, fun b o' hb => (World.cell?_setCell_other _ _ _ _ (by intro e; injection e with e2 _; exact hb e2.symm)).trans (h.2.1 b o' hb), fun p => by rw [World.frozen?_setCell]; exact h.2.2 p⟩
def IsValsA (g r : Nat) (w : World) (u : Value) (xs : List Value) : Prop :=
  ∃ (a : Option Addr) (cap : Nat), u = .slice a xs.length cap ∧ xs.length ≤ maxLen ∧ (xs = [] ∨ ∃ b off, a = some ⟨b, off, none⟩ ∧ b ≠ g ∧ b ≠ r ∧ b < w.heap.size ∧ ∀ i x, xs[i]? = some x → w.cell? ⟨b, off + i, none⟩ = some x)
theorem IsValsA.vals {g r : Nat} {w : World} {u : Value} {xs : List Value} (h : IsValsA g r w u xs) : IsVals w u xs := by
  obtain ⟨a, cap, e, hl, hx⟩ := h
  refine ⟨a, cap, e, hl, ?_⟩
  rcases hx with h | ⟨b, o, h1, -, -, h2, h3⟩
  · exact .inl h
  · exact .inr ⟨b, o, h1, h2, h3⟩
theorem IsValsA.keep {g r : Nat} {w w' : World} {u : Value} {xs : List Value} (h : IsValsA g r w u xs) (hs : w.heap.size ≤ w'.heap.size) (hc : ∀ b o, b ≠ g → b ≠ r → b < w.heap.size → w'.cell? ⟨b, o, none⟩ = w.cell? ⟨b, o, none⟩) : IsValsA g r w' u xs := by
  obtain ⟨a, cap, e, hl, hx⟩ := h
  refine ⟨a, cap, e, hl, ?_⟩
  rcases hx with h | ⟨b, o, h1, h4, h5, h2, h3⟩
  · exact .inl h
  · exact .inr ⟨b, o, h1, h4, h5, Nat.lt_of_lt_of_le h2 hs, fun i x hx => by rw [hc _ _ h4 h5 h2]; exact h3 i x hx⟩
theorem IsValsA.low {g r : Nat} {w : World} {u : Value} {xs : List Value} (h : IsVals w u xs) (hg : w.heap.size ≤ g) (hr : w.heap.size ≤ r) : IsValsA g r w u xs := by
  obtain ⟨a, cap, e, hl, hx⟩ := h
  refine ⟨a, cap, e, hl, ?_⟩
  rcases hx with h | ⟨b, o, h1, h2, h3⟩
  · exact .inl h
  · exact .inr ⟨b, o, h1, by omega, by omega, h2, h3⟩
structure TwL (w : World) (P : Pln) (v1 v2 v3 v4 : Value) (hi g4 : Nat) (wr : World) : Prop where
  gr : Gr w wr
  box : PBox wr w.heap.size P v1 v2 v3 v4
  rs : w.heap.size + 1 < wr.heap.size
  rc : ∀ o, o < 9 → ∃ u, wr.cell? ⟨w.heap.size + 1, o, none⟩ = some u
  rf : Free9 wr (w.heap.size + 1)
  i1 : IsRowI (w.heap.size + 2) hi wr v1 3 P.es.length (fun i j => (P.es.getD i default).c j)
  i2 : IsRowI (w.heap.size + 2) hi wr v2 4 P.js.length (fun i j => (P.js.getD i default).c j)
  i3 : IsRowI (w.heap.size + 2) hi wr v3 4 P.ss.length (fun i j => (P.ss.getD i default).c j)
  hg : w.heap.size + 2 ≤ hi ∧ hi ≤ g4
  v4 : ∃ c, P.ls.length ≤ maxLen ∧ ((P.ls.length = 0 ∧ ∃ a, v4 = .slice a 0 c) ∨ v4 = .slice (some ⟨g4, 0, none⟩) P.ls.length c)
  ln : ∀ i (h : i < P.ls.length), g4 < wr.heap.size ∧ wr.cell? ⟨g4, i * 2, none⟩ = some (.string P.ls[i].n) ∧ wr.frozen? ⟨g4, i * 2 + 1, none⟩ = false ∧ ∃ u, wr.cell? ⟨g4, i * 2 + 1, none⟩ = some u ∧ IsValsA g4 (w.heap.size + 1) wr u (P.ls[i].es.map (Value.int .i64))
theorem TwL.grow {w : World} {P : Pln} {v1 v2 v3 v4 : Value} {hi g4 : Nat} {wr w5 : World} (h : TwL w P v1 v2 v3 v4 hi g4 wr) (g : Gr wr w5) : TwL w P v1 v2 v3 v4 hi g4 w5 :=
  ⟨h.gr.trans g, h.box.gr g, Nat.lt_of_lt_of_le h.rs g.size, fun o ho => by obtain ⟨u, hu⟩ := h.rc o ho; exact ⟨u, (g.cell _ _ h.rs).trans hu⟩, h.rf.gr g h.rs,
    h.i1.keep g.size (fun b o _ _ hb => g.cell _ _ hb), h.i2.keep g.size (fun b o _ _ hb => g.cell _ _ hb), h.i3.keep g.size (fun b o _ _ hb => g.cell _ _ hb), h.hg, h.v4, fun i hi => by
      obtain ⟨a, b, c, u, d, e⟩ := h.ln i hi
      exact ⟨Nat.lt_of_lt_of_le a g.size, (g.cell _ _ a).trans b, (g.frozen _ _ a).trans c, u, (g.cell _ _ a).trans d, e.keep g.size fun b o _ _ hb => g.cell _ _ hb⟩⟩
theorem TwL.step {w : World} {P : Pln} {v1 v2 v3 v4 : Value} {hi g4 : Nat} {wr w5 : World} {k : Nat} {v : Value} (h0 : TwL w P v1 v2 v3 v4 hi g4 wr) (g : Gr wr w5) (hk : k < P.ls.length)
    (ho : w5.ownsRow wr.heap.size 3 1 v P.ls[k].es.length (rowL 1 P.ls[k].es.length fun i _ => .int .i64 (P.ls[k].es.getD i 0))) (hl : P.ls[k].es.length ≤ maxLen) : TwL w P v1 v2 v3 v4 hi g4 (w5.setCell ⟨g4, k * 2 + 1, none⟩ v) := by
  have h := h0.grow g
  have hgs := (h0.ln k hk).1
  have hf : Far g4 w5 (w5.setCell ⟨g4, k * 2 + 1, none⟩ v) := (Far.refl _ _).set _ _
  have hne : ∀ b, b < hi → b ≠ g4 := fun b hb e => by have := h.hg; omega
  obtain ⟨zb, b0, b1, b2, b3, b4, b5, b6, b7, b8⟩ := h.box
  have q : ∀ o, (w5.setCell ⟨g4, k * 2 + 1, none⟩ v).cell? ⟨w.heap.size, o, none⟩ = w5.cell? ⟨w.heap.size, o, none⟩ := fun o => hf.2.1 _ _ (by have := h.hg; omega)
  refine ⟨h.gr.setCell (by have := h.hg; show w.heap.size ≤ g4; omega) _, ⟨by rw [hf.1]; exact zb, (q _).trans b0, (q _).trans b1, (q _).trans b2, (q _).trans b3, (q _).trans b4, (q _).trans b5, (q _).trans b6, (q _).trans b7, (q _).trans b8⟩, by rw [hf.1]; exact h.rs,
    fun o ho => by obtain ⟨u, hu⟩ := h.rc o ho; exact ⟨u, (hf.2.1 _ _ (by have := h.hg; omega)).trans hu⟩, fun o ho => by rw [hf.2.2]; exact h.rf o ho,
    h.i1.keep (by rw [hf.1]; exact Nat.le_refl _) (fun b o _ hb _ => hf.2.1 _ _ (hne b hb)), h.i2.keep (by rw [hf.1]; exact Nat.le_refl _) (fun b o _ hb _ => hf.2.1 _ _ (hne b hb)), h.i3.keep (by rw [hf.1]; exact Nat.le_refl _) (fun b o _ hb _ => hf.2.1 _ _ (hne b hb)), h.hg, h.v4, fun i hi => ?_⟩
  obtain ⟨a, b, c, u, d, e⟩ := h.ln i hi
  refine ⟨by rw [hf.1]; exact a, (World.cell?_setCell_other _ _ _ _ (by intro e; injection e with _ e2; omega)).trans b, by rw [hf.2.2]; exact c, ?_⟩
  by_cases eik : i = k
  · subst eik
    refine ⟨v, World.cell?_setCell_same _ _ _ d, ?_⟩
    have hr := own_row_far (w' := w5.setCell ⟨g4, i * 2 + 1, none⟩ v) ho hl hgs (fun b' o hb => hf.2.1 _ _ hb) hf.1
    obtain ⟨av, cv, rfl, hm, hx⟩ := hr
    refine ⟨av, cv, by simp, by simpa using hm, ?_⟩
    rcases hx with h0' | ⟨b', o', rfl, lo1, lo2, lo3, hcc⟩
    · left; rw [List.length_eq_zero_iff.1 h0']; rfl
    · refine .inr ⟨b', o', rfl, by omega, by have := h0.rs; omega, lo3, fun j x hx => ?_⟩
      rw [List.getElem?_map] at hx
      obtain ⟨y, hy, rfl⟩ := Option.map_eq_some_iff.1 hx
      have hj := (List.getElem?_eq_some_iff.1 hy).1
      have := hcc j 0 hj (by omega)
      simp only [Nat.mul_one, Nat.add_zero] at this
      rw [this, List.getD_eq_getElem?_getD, hy]; rfl
  · exact ⟨u, (World.cell?_setCell_other _ _ _ _ (by intro e; injection e with _ e2; omega)).trans d, e.keep (by rw [hf.1]; exact Nat.le_refl _) fun b o hb _ _ => hf.2.1 _ _ hb⟩
theorem TwL.done {w : World} {P : Pln} {v1 v2 v3 v4 : Value} {hi g4 : Nat} {wr w' : World} (h : TwL w P v1 v2 v3 v4 hi g4 wr) (hf : Far (w.heap.size + 1) wr w') : IsPln w' (plnV P v1 v2 v3 v4) P := by
  have hz : wr.heap.size ≤ w'.heap.size := by rw [hf.1]; exact Nat.le_refl _
  have k1 := (h.i1.keep hz fun b o hb _ _ => hf.2.1 _ _ (by omega)).row
  have k2 := (h.i2.keep hz fun b o hb _ _ => hf.2.1 _ _ (by omega)).row
  have k3 := (h.i3.keep hz fun b o hb _ _ => hf.2.1 _ _ (by omega)).row
  obtain ⟨x1, y1, rfl, -⟩ := id h.i1
  obtain ⟨x2, y2, rfl, -⟩ := id h.i2
  obtain ⟨x3, y3, rfl, -⟩ := id h.i3
  obtain ⟨c, hm, h4⟩ := h.v4
  rcases h4 with ⟨h0, a, rfl⟩ | rfl
  · refine ⟨x1, y1, x2, y2, x3, y3, a, c, by rw [h0], k1, k2, k3, fun _ => default, ⟨a, c, rfl, hm, .inl h0⟩, fun i hi => by omega⟩
  · refine ⟨x1, y1, x2, y2, x3, y3, _, c, rfl, k1, k2, k3, fun i => (w'.cell? ⟨g4, i * 2 + 1, none⟩).getD default, ⟨_, c, rfl, hm, ?_⟩, fun i hi => ?_⟩
    · rcases Nat.eq_zero_or_pos P.ls.length with h0 | h0
      · exact .inl h0
      · refine .inr ⟨g4, 0, rfl, by rw [hf.1]; exact (h.ln 0 h0).1, fun i j hi hj => ?_⟩
        obtain ⟨_, b, _, u, d, _⟩ := h.ln i hi
        have hg := h.hg
        match j, hj with
        | 0, _ =>
          show w'.cell? ⟨g4, 0 + i * 2 + 0, none⟩ = some (.string (P.ls.getD i default).n)
          rw [Nat.add_zero, Nat.zero_add, hf.2.1 g4 _ (fun e => by omega), b, getD_at _ _ hi]
        | 1, _ =>
          show w'.cell? ⟨g4, 0 + i * 2 + 1, none⟩ = some ((w'.cell? ⟨g4, i * 2 + 1, none⟩).getD default)
          rw [Nat.zero_add, hf.2.1 g4 _ (fun e => by omega), d]; rfl
    · obtain ⟨_, b, _, u, d, e⟩ := h.ln i hi
      have hg := h.hg
      show IsVals w' ((w'.cell? ⟨g4, i * 2 + 1, none⟩).getD default) _
      rw [hf.2.1 g4 _ (fun e => by omega), d, getD_at _ _ hi]
      exact (e.keep hz fun b o _ hb _ => hf.2.1 _ _ hb).vals
theorem tw_zero (t : TypeId) (w : World) (o : Nat) (ho : o < 9) : ∃ u, (w.alloc (.cells #[.slice none 0 0, .slice none 0 0, .slice none 0 0, .slice none 0 0, .int .i64 0, .int .i64 0, .int .i64 0, .int .i64 0, .bool false] t)).cell? ⟨w.heap.size, o, none⟩ = some u := by
  rw [World.cell?_alloc_mark]
  match o, ho with
  | 0, _ => exact ⟨_, rfl⟩
  | 1, _ => exact ⟨_, rfl⟩
  | 2, _ => exact ⟨_, rfl⟩
  | 3, _ => exact ⟨_, rfl⟩
  | 4, _ => exact ⟨_, rfl⟩
  | 5, _ => exact ⟨_, rfl⟩
  | 6, _ => exact ⟨_, rfl⟩
  | 7, _ => exact ⟨_, rfl⟩
  | 8, _ => exact ⟨_, rfl⟩
theorem vals_slice {w : World} {u : Value} {xs : List Value} (h : IsVals w u xs) : u.oneCell' = true := by
  obtain ⟨a, c, rfl, _⟩ := h; rfl
theorem IsLns.one {w : World} {v : Value} {l : List Ln} (h : IsLns w v l) : ∃ S : Nat → Value, (∀ i j, (if j = 0 then Value.string (l.getD i default).n else S i).oneCell' = true) ∧ IsRow w v 2 l.length (fun i j => if j = 0 then .string (l.getD i default).n else S i) ∧ ∀ i, i < l.length → IsVals w (S i) ((l.getD i default).es.map (Value.int .i64)) := by
  obtain ⟨S, h1, h2⟩ := h
  refine ⟨fun i => if i < l.length then S i else .slice none 0 0, fun i j => ?_, ?_, fun i hi => by dsimp only; rw [if_pos hi]; exact h2 i hi⟩
  · dsimp only
    split
    · rfl
    · split
      · next hi => exact vals_slice (h2 i hi)
      · rfl
  · obtain ⟨a, c, e, hm, hx⟩ := h1
    refine ⟨a, c, e, hm, ?_⟩
    rcases hx with h | ⟨b, o, h1, h2, h3⟩
    · exact .inl h
    · refine .inr ⟨b, o, h1, h2, fun i j hi hj => ?_⟩
      dsimp only
      rw [if_pos hi]
      exact h3 i j hi hj
theorem IsVals.row1 {w : World} {u : Value} {l : List Int} (h : IsVals w u (l.map (Value.int .i64))) : IsRow w u 1 l.length (fun i _ => .int .i64 (l.getD i 0)) := by
  obtain ⟨a, c, rfl, hm, hx⟩ := h
  rw [List.length_map] at hm ⊢
  refine ⟨a, c, rfl, hm, ?_⟩
  rcases hx with h | ⟨b, o, h1, h2, h3⟩
  · left; simpa using h
  · refine .inr ⟨b, o, h1, h2, fun i j hi hj => ?_⟩
    have e : j = 0 := by omega
    subst e
    have := h3 i (.int .i64 l[i]) (by simp [hi])
    rw [Nat.mul_one, Nat.add_zero, this]
    show _ = some (Value.int .i64 (l.getD i 0))
    rw [List.getD_eq_getElem?_getD, List.getElem?_eq_getElem hi]; rfl
theorem tw_start {w wc w5 : World} {P : Pln} {l v1 v2 v3 v4 : Value} {S : Nat → Value} (gA : Gr w wc) (bA : PBox wc w.heap.size P v1 v2 v3 l) (rs : w.heap.size + 1 < wc.heap.size)
    (rc : ∀ o, o < 9 → ∃ u, wc.cell? ⟨w.heap.size + 1, o, none⟩ = some u) (rf : Free9 wc (w.heap.size + 1))
    (i1 : IsRowI (w.heap.size + 2) wc.heap.size wc v1 3 P.es.length (fun i j => (P.es.getD i default).c j)) (i2 : IsRowI (w.heap.size + 2) wc.heap.size wc v2 4 P.js.length (fun i j => (P.js.getD i default).c j)) (i3 : IsRowI (w.heap.size + 2) wc.heap.size wc v3 4 P.ss.length (fun i j => (P.ss.getD i default).c j))
    (g5 : Gr wc w5) (o5 : w5.ownsRow wc.heap.size 85 2 v4 P.ls.length (rowL 2 P.ls.length fun i j => if j = 0 then .string (P.ls.getD i default).n else S i)) (hS : ∀ i, i < P.ls.length → IsVals w (S i) ((P.ls.getD i default).es.map (Value.int .i64))) (hl : P.ls.length ≤ maxLen) :
    ∃ g4, TwL w P v1 v2 v3 v4 wc.heap.size g4 (w5.setCell ⟨w.heap.size, 3, none⟩ v4) := by
  have hf : Far w.heap.size w5 (w5.setCell ⟨w.heap.size, 3, none⟩ v4) := (Far.refl _ _).set _ _
  have z5 := g5.size
  obtain ⟨zb, b0, b1, b2, b3, b4, b5, b6, b7, b8⟩ := bA.gr g5
  have q : ∀ o, o ≠ 3 → (w5.setCell ⟨w.heap.size, 3, none⟩ v4).cell? ⟨w.heap.size, o, none⟩ = w5.cell? ⟨w.heap.size, o, none⟩ := fun o ho => World.cell?_setCell_other _ _ _ _ (by intro e; injection e with _ e2; omega)
  have hbox : PBox (w5.setCell ⟨w.heap.size, 3, none⟩ v4) w.heap.size P v1 v2 v3 v4 :=
    ⟨by rw [hf.1]; exact zb, (q 0 (by omega)).trans b0, (q 1 (by omega)).trans b1, (q 2 (by omega)).trans b2, World.cell?_setCell_same _ _ _ b3, (q 4 (by omega)).trans b4, (q 5 (by omega)).trans b5, (q 6 (by omega)).trans b6, (q 7 (by omega)).trans b7, (q 8 (by omega)).trans b8⟩
  have hgr : Gr w (w5.setCell ⟨w.heap.size, 3, none⟩ v4) := (gA.trans g5).setCell (Nat.le_refl _) _
  have hrs : w.heap.size + 1 < (w5.setCell ⟨w.heap.size, 3, none⟩ v4).heap.size := by rw [hf.1]; omega
  have hrc : ∀ o, o < 9 → ∃ u, (w5.setCell ⟨w.heap.size, 3, none⟩ v4).cell? ⟨w.heap.size + 1, o, none⟩ = some u := fun o ho => by
    obtain ⟨u, hu⟩ := rc o ho
    exact ⟨u, (hf.2.1 _ _ (by omega)).trans ((g5.cell _ _ rs).trans hu)⟩
  have hrf : Free9 (w5.setCell ⟨w.heap.size, 3, none⟩ v4) (w.heap.size + 1) := (rf.gr g5 rs).set _ _
  have hk1 := i1.keep (w' := w5.setCell ⟨w.heap.size, 3, none⟩ v4) (by rw [hf.1]; exact z5) fun b o h1 _ hb => (hf.2.1 _ _ (by omega)).trans (g5.cell _ _ hb)
  have hk2 := i2.keep (w' := w5.setCell ⟨w.heap.size, 3, none⟩ v4) (by rw [hf.1]; exact z5) fun b o h1 _ hb => (hf.2.1 _ _ (by omega)).trans (g5.cell _ _ hb)
  have hk3 := i3.keep (w' := w5.setCell ⟨w.heap.size, 3, none⟩ v4) (by rw [hf.1]; exact z5) fun b o h1 _ hb => (hf.2.1 _ _ (by omega)).trans (g5.cell _ _ hb)
  rcases id o5.2 with ⟨rfl, h0⟩ | ⟨g, cap, cur, rfl, hg, hcur, _⟩
  · exact ⟨wc.heap.size, hgr, hbox, hrs, hrc, hrf, hk1, hk2, hk3, ⟨by omega, Nat.le_refl _⟩, ⟨0, hl, .inl ⟨h0, none, rfl⟩⟩, fun i hi => by omega⟩
  · have hgs := o5.lt g rfl
    refine ⟨g, hgr, hbox, hrs, hrc, hrf, hk1, hk2, hk3, ⟨by omega, hg⟩, ⟨cap, hl, .inr rfl⟩, fun i hi => ?_⟩
    have hr := own_row o5 hl
    obtain ⟨a, c, e, hm, hx⟩ := hr
    simp only [Value.slice.injEq, true_and] at e
    obtain ⟨rfl, rfl⟩ := e
    rcases hx with h0 | ⟨b', o', e, hlt, hcc⟩
    · omega
    · simp only [Option.some.injEq, Addr.mk.injEq, and_true] at e
      obtain ⟨rfl, rfl⟩ := e
      refine ⟨by rw [hf.1]; exact hlt, ?_, (World.frozen?_setCell _ _ _ _).trans (o5.frozenAt _), S i, ?_, ?_⟩
      · have := hcc i 0 hi (by omega)
        rw [Nat.add_zero, Nat.zero_add] at this
        rw [hf.2.1 g _ (fun e => by omega), this, ← getD_at _ _ hi]; rfl
      · have := hcc i 1 hi (by omega)
        rw [Nat.zero_add] at this
        rw [hf.2.1 g _ (fun e => by omega), this]; rfl
      · have h9 := hS i hi
        rw [getD_at _ _ hi] at h9
        exact (IsValsA.low h9 (by omega) (by omega)).keep hgr.size fun b o _ _ hb => hgr.cell _ _ hb
end Go.Proofs.YtgjnlgcdpbilfaaDoor
namespace Go.Proofs.YtgjnlgcdpbilfaaDoor
open Go.ChangeShapes Go.WideShapes Go.ChangeAt Go.RowKit
set_option linter.unusedVariables false
set_option linter.unusedSimpArgs false
attribute [local go_sem ↓] Go.wp_at_zero Go.wp_at_succ
set_option maxRecDepth 100000 in
set_option maxHeartbeats 6000000 in
theorem twin_any (v : Value) (P : Pln) (w : World) (hP : IsPln w v P) (hn : P.es.length ≤ 1000 ∧ P.js.length ≤ 1000 ∧ P.ss.length ≤ 1000 ∧ P.ls.length ≤ 1000) (hnl : ∀ l ∈ P.ls, l.es.length ≤ 1000) :
    Calls Tryd.prog 45 #[v] w fun e w' => ∃ v', e = .returned v' ∧ IsPln w' v' P ∧ Gr w w' := by
  obtain ⟨a1, c1, a2, c2, a3, c3, a4, c4, rfl, h1, h2, h3, h4⟩ := hP
  have H1 := Lib.hid h1
  have H2 := Lib.hid h2
  have H3 := Lib.hid h3
  have HC1 := Lib.hid (fun w' (h : Gr w w') => cloneElem_any _ _ _ w' (h1.gr h) (fun i j => ele_one _ _) (by omega))
  have HC2 := Lib.hid (fun w' (h : Gr w w') => cloneJoin_any _ _ _ w' (h2.gr h) (fun i j => jn_one _ _) (by omega))
  have HC3 := Lib.hid (fun w' (h : Gr w w') => cloneSignal_any _ _ _ w' (h3.gr h) (fun i j => sg_one _ _) (by omega))
  have HB := Lib.hid (bxW_box w P (.slice a1 P.es.length c1) (.slice a2 P.js.length c2) (.slice a3 P.ss.length c3) (.slice a4 P.ls.length c4))
  have hw0 := bxW_gr w P (.slice a1 P.es.length c1) (.slice a2 P.js.length c2) (.slice a3 P.ss.length c3) (.slice a4 P.ls.length c4)
  clear h1 h2 h3
  unfold plnV
  go_enter Tryd.func45, Tryd.ntmps45
  go_upto_region 1 with (fail)
  have hW2 : Gr w ((w.alloc (.cells #[.slice a1 P.es.length c1, .slice a2 P.js.length c2, .slice a3 P.ss.length c3, .slice a4 P.ls.length c4, .int .i64 P.top, .int .i64 P.brake, .int .i64 P.margin, .int .i64 P.throw, .bool P.hard] 27)).alloc (.cells #[.slice none 0 0, .slice none 0 0, .slice none 0 0, .slice none 0 0, .int .i64 0, .int .i64 0, .int .i64 0, .int .i64 0, .bool false] 27)) := hw0.alloc _
  have HBX : Hid (∀ w', Gr ((w.alloc (.cells #[.slice a1 P.es.length c1, .slice a2 P.js.length c2, .slice a3 P.ss.length c3, .slice a4 P.ls.length c4, .int .i64 P.top, .int .i64 P.brake, .int .i64 P.margin, .int .i64 P.throw, .bool P.hard] 27)).alloc (.cells #[.slice none 0 0, .slice none 0 0, .slice none 0 0, .slice none 0 0, .int .i64 0, .int .i64 0, .int .i64 0, .int .i64 0, .bool false] 27)) w' → PBox w' w.heap.size P (.slice a1 P.es.length c1) (.slice a2 P.js.length c2) (.slice a3 P.ss.length c3) (.slice a4 P.ls.length c4) ∧ w'.frozen? ⟨w.heap.size, 0, none⟩ = false ∧ w'.frozen? ⟨w.heap.size, 1, none⟩ = false ∧ w'.frozen? ⟨w.heap.size, 2, none⟩ = false ∧ w'.frozen? ⟨w.heap.size, 3, none⟩ = false) := by
    intro w' h
    have hz : w.heap.size < (((w.alloc (.cells #[.slice a1 P.es.length c1, .slice a2 P.js.length c2, .slice a3 P.ss.length c3, .slice a4 P.ls.length c4, .int .i64 P.top, .int .i64 P.brake, .int .i64 P.margin, .int .i64 P.throw, .bool P.hard] 27)).alloc (.cells #[.slice none 0 0, .slice none 0 0, .slice none 0 0, .slice none 0 0, .int .i64 0, .int .i64 0, .int .i64 0, .int .i64 0, .bool false] 27))).heap.size := by simp; omega
    refine ⟨(HB.out.gr ((Gr.refl _).alloc _)).gr h, ?_, ?_, ?_, ?_⟩ <;> exact (h.frozen _ _ hz).trans (by simp)
  have HW3 : Hid (PBox ((w.alloc (.cells #[.slice a1 P.es.length c1, .slice a2 P.js.length c2, .slice a3 P.ss.length c3, .slice a4 P.ls.length c4, .int .i64 P.top, .int .i64 P.brake, .int .i64 P.margin, .int .i64 P.throw, .bool P.hard] 27)).alloc (.cells #[.slice none 0 0, .slice none 0 0, .slice none 0 0, .slice none 0 0, .int .i64 0, .int .i64 0, .int .i64 0, .int .i64 0, .bool false] 27)) w.heap.size P (.slice a1 P.es.length c1) (.slice a2 P.js.length c2) (.slice a3 P.ss.length c3) (.slice a4 P.ls.length c4) ∧ Free9 ((w.alloc (.cells #[.slice a1 P.es.length c1, .slice a2 P.js.length c2, .slice a3 P.ss.length c3, .slice a4 P.ls.length c4, .int .i64 P.top, .int .i64 P.brake, .int .i64 P.margin, .int .i64 P.throw, .bool P.hard] 27)).alloc (.cells #[.slice none 0 0, .slice none 0 0, .slice none 0 0, .slice none 0 0, .int .i64 0, .int .i64 0, .int .i64 0, .int .i64 0, .bool false] 27)) w.heap.size ∧ (((w.alloc (.cells #[.slice a1 P.es.length c1, .slice a2 P.js.length c2, .slice a3 P.ss.length c3, .slice a4 P.ls.length c4, .int .i64 P.top, .int .i64 P.brake, .int .i64 P.margin, .int .i64 P.throw, .bool P.hard] 27)).alloc (.cells #[.slice none 0 0, .slice none 0 0, .slice none 0 0, .slice none 0 0, .int .i64 0, .int .i64 0, .int .i64 0, .int .i64 0, .bool false] 27))).heap.size = w.heap.size + 2 ∧ (∀ o, o < 9 → ∃ u, (((w.alloc (.cells #[.slice a1 P.es.length c1, .slice a2 P.js.length c2, .slice a3 P.ss.length c3, .slice a4 P.ls.length c4, .int .i64 P.top, .int .i64 P.brake, .int .i64 P.margin, .int .i64 P.throw, .bool P.hard] 27)).alloc (.cells #[.slice none 0 0, .slice none 0 0, .slice none 0 0, .slice none 0 0, .int .i64 0, .int .i64 0, .int .i64 0, .int .i64 0, .bool false] 27))).cell? ⟨w.heap.size + 1, o, none⟩ = some u) ∧ Free9 ((w.alloc (.cells #[.slice a1 P.es.length c1, .slice a2 P.js.length c2, .slice a3 P.ss.length c3, .slice a4 P.ls.length c4, .int .i64 P.top, .int .i64 P.brake, .int .i64 P.margin, .int .i64 P.throw, .bool P.hard] 27)).alloc (.cells #[.slice none 0 0, .slice none 0 0, .slice none 0 0, .slice none 0 0, .int .i64 0, .int .i64 0, .int .i64 0, .int .i64 0, .bool false] 27)) (w.heap.size + 1)) := by
    refine ⟨HB.out.gr ((Gr.refl _).alloc _), (Free9.new _ _ _).gr ((Gr.refl _).alloc _) (by simp), by simp, fun o ho => ?_, ?_⟩
    · have h9 := tw_zero 27 (w.alloc (.cells #[.slice a1 P.es.length c1, .slice a2 P.js.length c2, .slice a3 P.ss.length c3, .slice a4 P.ls.length c4, .int .i64 P.top, .int .i64 P.brake, .int .i64 P.margin, .int .i64 P.throw, .bool P.hard] 27)) o ho
      simpa using h9
    · have := Free9.new (w.alloc (.cells #[.slice a1 P.es.length c1, .slice a2 P.js.length c2, .slice a3 P.ss.length c3, .slice a4 P.ls.length c4, .int .i64 P.top, .int .i64 P.brake, .int .i64 P.margin, .int .i64 P.throw, .bool P.hard] 27)) #[.slice none 0 0, .slice none 0 0, .slice none 0 0, .slice none 0 0, .int .i64 0, .int .i64 0, .int .i64 0, .int .i64 0, .bool false] 27
      simpa using this
  go_cut [] from 4 (fun wc => Tw1 w P (.slice a4 P.ls.length c4) wc)
  case first =>
    go_region_with (first | (go_at_call 72; (with_reducible refine (HC1.out _ ?_).mono ?_); (exact hW2.trans (Gr.refl _).drew); rintro e w6 ⟨v1, rfl, h6, o6⟩; obtain ⟨x6, y6, rfl⟩ := own_form o6; have k6 := ((Gr.refl _).drew).trans h6; obtain ⟨⟨zb6, d06, d16, d26, d36, d46, d56, d66, d76, d86⟩, f06, f16, f26, f36⟩ := HBX.out _ k6) | (go_at_call 73; (with_reducible refine (HC2.out _ ?_).mono ?_); (exact hW2.trans k6); rintro e w9 ⟨v2, rfl, h9, o9⟩; obtain ⟨x9, y9, rfl⟩ := own_form o9; have k9 := (k6).trans h9; obtain ⟨⟨zb9, d09, d19, d29, d39, d49, d59, d69, d79, d89⟩, f09, f19, f29, f39⟩ := HBX.out _ k9) | (go_at_call 74; (with_reducible refine (HC3.out _ ?_).mono ?_); (exact hW2.trans k9); rintro e w12 ⟨v3, rfl, h12, o12⟩; obtain ⟨x12, y12, rfl⟩ := own_form o12; have k12 := (k9).trans h12; obtain ⟨⟨zb12, d012, d112, d212, d312, d412, d512, d612, d712, d812⟩, f012, f112, f212, f312⟩ := HBX.out _ k12) | fail)
    all_goals
      go_wp2_with fail
      go_meet
      case rel => exact tw1_mk hW2 HW3.out.1 HW3.out.2.1 HW3.out.2.2.1 HW3.out.2.2.2.1 HW3.out.2.2.2.2 k6 h9 h12 (own_base_le o6 (by simp)) o9 o12 (by omega)
  case rest =>
    obtain ⟨v1, v2, v3, gA, bA, fA, rA, cA, ffA, i1, i2, i3⟩ := hcut
    clear HC1 HC2 HC3 HB HBX HW3 H1 H2 H3 hW2 hw0
    have h4' := h4
    obtain ⟨S, hS1, hr4, hS4⟩ := h4.one
    have HC4 := Lib.hid (cloneLine_any _ _ _ wc (hr4.gr gA) hS1 (by omega))
    have hl4 := hr4.len
    have HTS := Lib.hid (fun (w5 : World) (v4 : Value) (g5 : Gr wc w5) (o5 : w5.ownsRow wc.heap.size 85 2 v4 P.ls.length (rowL 2 P.ls.length fun i j => if j = 0 then .string (P.ls.getD i default).n else S i)) => tw_start gA bA rA cA ffA i1 i2 i3 g5 o5 hS4 hl4)
    have HBG := Lib.hid (fun (w5 : World) (g5 : Gr wc w5) => And.intro (bA.gr g5) (fA.gr g5 (by omega) 3 (by omega)))
    obtain ⟨zA, b0, b1, b2, b3, b4, b5, b6, b7, b8⟩ := id bA
    clear h4 h4' hr4 hS4 hS1 i1 i2 i3 cA ffA fA b0 b1 b2 b4 b5 b6 b7 b8
    go_upto_region 3 with (first | (go_at_call 75; (with_reducible refine (HC4.out).mono ?_); rintro e w5 ⟨v4, rfl, h5, o5⟩; obtain ⟨x5, y5, rfl⟩ := own_form o5; obtain ⟨⟨zb5, d05, d15, d25, d35, d45, d55, d65, d75, d85⟩, f35⟩ := HBG.out _ h5) | fail)
    obtain ⟨g4, hT⟩ := HTS.out _ _ h5 o5
    generalize hwr : w5.setCell ⟨w.heap.size, 3, none⟩ (.slice x5 P.ls.length y5) = wr0 at hT ⊢
    have hb := hT.box
    obtain ⟨z0, b0, b1, b2, b3, b4, b5, b6, b7, b8⟩ := hb
    have w1000 : P.ls.length ≤ 1000 := by omega
    obtain ⟨p1, q1, rfl, -⟩ := id hT.i1
    obtain ⟨p2, q2, rfl, -⟩ := id hT.i2
    obtain ⟨p3, q3, rfl, -⟩ := id hT.i3
    clear h5 o5 zb5 d05 d15 d25 d35 d45 d55 d65 d75 d85 f35 hwr HTS HBG HC4 gA bA
    go_wp2_with fail
    clear z0 b0 b1 b2 b3 b4 b5 b6 b7 b8
    go_loopw [23] (fun i wr => ∃ k : Nat, i = .int .i64 k ∧ k ≤ P.ls.length ∧ TwL w P (.slice p1 P.es.length q1) (.slice p2 P.js.length q2) (.slice p3 P.ss.length q3) (.slice x5 P.ls.length y5) wc.heap.size g4 wr) (fun i _ => P.ls.length - (intOf i).toNat)
    case atStart => exact ⟨0, rfl, Nat.zero_le _, hT⟩
    case round =>
      obtain ⟨k, rfl, hk, h⟩ := hrel
      clear hT
      have HT := Lib.hid h
      have hb := h.box
      obtain ⟨z0, b0, b1, b2, b3, b4, b5, b6, b7, b8⟩ := hb
      by_cases hlt : k < P.ls.length
      · have hk1 : (k : Int) < (P.ls.length : Int) := by omega
        obtain ⟨ca, cb, cc, u, cd, ce⟩ := h.ln k hlt
        have hx5 : x5 = some ⟨g4, 0, none⟩ := by
          obtain ⟨c, _, hx⟩ := h.v4
          rcases hx with ⟨h0, _⟩ | hx
          · omega
          · injection hx
        subst hx5
        have hkl := hnl _ (List.getElem_mem hlt)
        have hkm : P.ls[k].es.length ≤ maxLen := by unfold maxLen; omega
        have HCI := Lib.hid (fun w' (g : Gr wr w') => cloneInt_any _ _ _ w' ((ce.vals.row1).gr g) (fun _ _ => rfl) (by omega))
        have HG := Lib.hid (fun w6 (g : Gr wr w6) => And.intro (HT.out.grow g).box ((HT.out.grow g).ln k hlt))
        clear h ca ce
        go_upto_region 6 with (fail)
        go_region_with (first | (go_at_call 76; (with_reducible refine (HCI.out _ ?_).mono ?_); (exact (Gr.refl _).drew); rintro e w6 ⟨v6, rfl, g6, o6⟩; obtain ⟨x6, y6, rfl⟩ := own_form o6; have g7 := (Gr.refl wr).drew.trans g6; obtain ⟨⟨z6, e0, e1, e2, e3, e4, e5, e6, e7, e8⟩, ca6, cb6, cc6, u6, cd6, ce6⟩ := HG.out _ g7) | fail)
        all_goals
          go_wp2_with fail
          go_roundw
          case rel => exact ⟨k + 1, by go_num, hlt, HT.out.step g7 hlt (by simpa using o6) hkm⟩
          case measure => simp [intOf]; omega
      · have hk1 : ¬ (k : Int) < (P.ls.length : Int) := by omega
        obtain ⟨r0, hr0⟩ := h.rc 0 (by omega)
        obtain ⟨r1, hr1⟩ := h.rc 1 (by omega)
        obtain ⟨r2, hr2⟩ := h.rc 2 (by omega)
        obtain ⟨r3, hr3⟩ := h.rc 3 (by omega)
        obtain ⟨r4, hr4⟩ := h.rc 4 (by omega)
        obtain ⟨r5, hr5⟩ := h.rc 5 (by omega)
        obtain ⟨r6, hr6⟩ := h.rc 6 (by omega)
        obtain ⟨r7, hr7⟩ := h.rc 7 (by omega)
        obtain ⟨r8, hr8⟩ := h.rc 8 (by omega)
        have f0 := h.rf 0 (by omega)
        have f1 := h.rf 1 (by omega)
        have f2 := h.rf 2 (by omega)
        have f3 := h.rf 3 (by omega)
        have f4 := h.rf 4 (by omega)
        have f5 := h.rf 5 (by omega)
        have f6 := h.rf 6 (by omega)
        have f7 := h.rf 7 (by omega)
        have f8 := h.rf 8 (by omega)
        clear h
        go_wp2_with fail
        have hfar : Far (w.heap.size + 1) wr _ := (((((((((Far.refl _ wr).set 0 (.slice p1 P.es.length q1)).set 1 (.slice p2 P.js.length q2)).set 2 (.slice p3 P.ss.length q3)).set 3 (.slice x5 P.ls.length y5)).set 4 (.int .i64 P.top)).set 5 (.int .i64 P.brake)).set 6 (.int .i64 P.margin)).set 7 (.int .i64 P.throw)).set 8 (.bool P.hard)
        refine bodyPost_ret (v := plnV P (.slice p1 P.es.length q1) (.slice p2 P.js.length q2) (.slice p3 P.ss.length q3) (.slice x5 P.ls.length y5)) (by simp [results, Tryd.results45, go_sem, hr0, hr1, hr2, hr3, hr4, hr5, hr6, hr7, hr8, plnV]) rfl ⟨_, rfl, HT.out.done hfar, ?_⟩
        have g := HT.out.gr
        iterate 9 refine Gr.setCell ?_ (by show w.heap.size ≤ w.heap.size + 1; omega) _
        exact g
end Go.Proofs.YtgjnlgcdpbilfaaDoor
