/- Pla8: plan.Check.
Cln: slices.Clone at the plan's element types. Printed by wip/gen_cln.py.
TwnP: net.twin: what its walk carries.
Twn: net.twin.
New1: net.New.
Mad: semaphorelaw4.Made. -/
import Derived.Test.YtknmngejjoohdaaGreatDoorRows
import Derived.Test.YtknmngejjoohdaaGreatDoorB12
import Derived.Test.YtknmngejjoohdaaGreatDoorB13
import Derived.Test.YtknmngejjoohdaaGreatDoorB9
import Derived.Test.YtknmngejjoohdaaGreatDoorB14
import Derived.Test.YtknmngejjoohdaaGreatDoorB2
import Derived.Test.YtknmngejjoohdaaGreatDoorB3
import Derived.WalkSpells
import Derived.Test.YtknmngejjoohdaaGreatDoorB4
import Derived.Deep.RegionWith
import Derived.Deep.Cut
import Derived.Deep.DrawnRows
import Derived.Deep.CutRange
import Derived.BigRegion
namespace Go.Proofs.YtknmngejjoohdaaGreatDoor
open Go.ChangeShapes Go.WideShapes Go.ChangeAt Go.RowKit Go.Maps
set_option linter.unusedVariables false
set_option linter.unusedSimpArgs false
def MapFn (l : List Jn) (w : World) (b n : Nat) (f : Value → Option Value) : Prop := MapIs Tryz.prog 67 w b n f ∧ FnL l f
theorem MapFn.gr {l : List Jn} {w w' : World} {b n : Nat} {f : Value → Option Value} (h : MapFn l w b n f) (g : Gr w w') : MapFn l w' b n f := ⟨h.1.gr g, h.2⟩
theorem sig_in {P : Pln} (h : signalsB P = true) : ∀ s ∈ P.ss, 0 ≤ s.at_.e ∧ s.at_.e < P.es.length := by
  intro s hs
  obtain ⟨k, hk, rfl⟩ := List.mem_iff_getElem.1 hs
  have hb : sigB P k = true := by
    cases hh : sigB P k with
    | true => rfl
    | false => rw [signalsB_no hk hh] at h; cases h
  rw [sigB_at P k hk] at hb
  simp only [Bool.and_eq_true] at hb
  have := hasP_bd hb.1.1.1
  exact ⟨this.1, this.2.1⟩
set_option maxRecDepth 100000 in
set_option maxHeartbeats 1000000 in
theorem check_any (v : Value) (P : Pln) (w : World) (hP : IsPln w v P) (hk : PlnOk P) (hl : (P.ls.flatMap (·.es)).length ≤ 1000000) :
    Calls Tryz.prog 39 #[v] w fun e w' => e = .returned (.int .i64 (chk P)) ∧ Gr w w' := by
  obtain ⟨a1, c1, a2, c2, a3, c3, a4, c4, rfl, h1, h2, h3, h4⟩ := hP
  have m1 := IsRow.len h1
  have m2 := IsRow.len h2
  have m3 := IsRow.len h3
  have m4 : P.ls.length ≤ maxLen := by obtain ⟨S, hS, -⟩ := h4; exact IsRow.len hS
  unfold maxLen at m1 m2 m3 m4
  have H1 := Lib.hid h1
  have H3 := Lib.hid h3
  have H4 := Lib.hid h4
  have HPv := Lib.hid (fun (w' : World) (g : Gr w w') => IsPln.mk (w' := w') h1 h2 h3 h4 g)
  have HB := Lib.hid (bxW_box w P (.slice a1 P.es.length c1) (.slice a2 P.js.length c2) (.slice a3 P.ss.length c3) (.slice a4 P.ls.length c4))
  have hw0 := bxW_gr w P (.slice a1 P.es.length c1) (.slice a2 P.js.length c2) (.slice a3 P.ss.length c3) (.slice a4 P.ls.length c4)
  obtain ⟨wb, hwb⟩ : ∃ wb, wb = bxW w P (.slice a1 P.es.length c1) (.slice a2 P.js.length c2) (.slice a3 P.ss.length c3) (.slice a4 P.ls.length c4) := ⟨_, rfl⟩
  rw [← hwb] at HB hw0
  unfold plnV
  have HWB := Lib.hid hwb
  have HKK := Lib.hid hk
  have HLL := Lib.hid hl
  clear h1 h2 h3 h4 hwb hk hl
  by_cases hlong : 40 < P.es.length ∨ 24 < P.ss.length ∨ 4 < P.ls.length ∨ 80 < P.js.length
  · have HC := Lib.hid (chk_long hlong)
    have hcs : (40 < (P.es.length : Int)) ∨ (¬ 40 < (P.es.length : Int) ∧ 24 < (P.ss.length : Int)) ∨ (¬ 40 < (P.es.length : Int) ∧ ¬ 24 < (P.ss.length : Int) ∧ 4 < (P.ls.length : Int)) ∨ (¬ 40 < (P.es.length : Int) ∧ ¬ 24 < (P.ss.length : Int) ∧ ¬ 4 < (P.ls.length : Int) ∧ 80 < (P.js.length : Int)) := by omega
    clear hlong
    rcases hcs with l1 | ⟨l1, l2⟩ | ⟨l1, l2, l3⟩ | ⟨l1, l2, l3, l4⟩
    all_goals
      go_enter Tryz.func39, Tryz.ntmps39
      go_wp2
      go_ret
      exact ⟨ret_int HC.out.symm, (Gr.refl _).alloc _⟩
  have HC := Lib.hid (chk_rest hlong)
  obtain ⟨l1, l2, l3, l4⟩ : ¬ 40 < (P.es.length : Int) ∧ ¬ 24 < (P.ss.length : Int) ∧ ¬ 4 < (P.ls.length : Int) ∧ ¬ 80 < (P.js.length : Int) := by omega
  have HL1 : Hid (P.es.length ≤ 40 ∧ P.ss.length ≤ 24 ∧ P.ls.length ≤ 4 ∧ P.js.length ≤ 80) := by unfold Hid; omega
  clear hlong
  have hmf : ∀ (fn : Fn) (first cap : Array Value) (w : World), (Instr.makeFunc fn first cap).run Tryz.prog w = .ok (.func fn first cap) w := fun _ _ _ _ => rfl
  go_enter Tryz.func39, Tryz.ntmps39
  go_wp2_with (fail)
  rw [show (w.alloc (.cells #[.slice a1 P.es.length c1, .slice a2 P.js.length c2, .slice a3 P.ss.length c3, .slice a4 P.ls.length c4, .int .i64 P.top, .int .i64 P.brake, .int .i64 P.margin, .int .i64 P.throw, .bool P.hard] 28)) = wb from HWB.out.symm]
  clear HWB l1 l2 l3 l4
  have HAR := Lib.hid (fun (v' : Value) (w' : World) (h : IsPln w' v' P) => numbers_any v' P w' h HKK.out)
  have HTA : Hid (∀ w', Gr wb w' → Calls Tryz.prog 79 #[.int .i64 P.es.length, .func (.func 80) #[] #[.pointer (some ⟨w.heap.size, 0, none⟩)]] w' fun e w'' => e = .returned (.bool (twiceB (P.es.map (·.n)))) ∧ Gr w' w'') := by
    intro w' h
    have := twice1_any (P.es.map (·.n)) w.heap.size w' (fun x hx => by obtain ⟨e, he, rfl⟩ := List.mem_map.1 hx; exact (HKK.out.es e he).2.2) (by have := HL1.out; simp; omega) (fun w'' h' i hi => by
      rw [List.getElem_map]
      exact name1_any w'' P w.heap.size a1 c1 _ _ _ _ (HB.out.gr (h.trans h')) rfl (H1.out.gr ((hw0.trans h).trans h')) (by have := HL1.out; omega) i (by simpa using hi))
    rwa [List.length_map] at this
  have HTB : Hid (∀ w', Gr wb w' → Calls Tryz.prog 79 #[.int .i64 P.ss.length, .func (.func 81) #[] #[.pointer (some ⟨w.heap.size, 0, none⟩)]] w' fun e w'' => e = .returned (.bool (twiceB (P.ss.map (·.n)))) ∧ Gr w' w'') := by
    intro w' h
    have := twice2_any (P.ss.map (·.n)) w.heap.size w' (fun x hx => by obtain ⟨e, he, rfl⟩ := List.mem_map.1 hx; exact (HKK.out.ss e he).2.2) (by have := HL1.out; simp; omega) (fun w'' h' i hi => by
      rw [List.getElem_map]
      exact name2_any w'' P w.heap.size a3 c3 _ _ _ _ (HB.out.gr (h.trans h')) rfl (H3.out.gr ((hw0.trans h).trans h')) (by have := HL1.out; omega) i (by simpa using hi))
    rwa [List.length_map] at this
  have HTC : Hid (∀ w', Gr wb w' → Calls Tryz.prog 79 #[.int .i64 P.ls.length, .func (.func 82) #[] #[.pointer (some ⟨w.heap.size, 0, none⟩)]] w' fun e w'' => e = .returned (.bool (twiceB (P.ls.map (·.n)))) ∧ Gr w' w'') := by
    intro w' h
    have := twice3_any (P.ls.map (·.n)) w.heap.size w' (fun x hx => by obtain ⟨e, he, rfl⟩ := List.mem_map.1 hx; exact (HKK.out.ls e he).1) (by have := HL1.out; simp; omega) (fun w'' h' i hi => by
      rw [List.getElem_map]
      exact name3_any w'' P w.heap.size a4 c4 _ _ _ _ (HB.out.gr (h.trans h')) rfl (H4.out.gr ((hw0.trans h).trans h')) (by have := HL1.out; omega) i (by simpa using hi))
    rwa [List.length_map] at this
  have HJO := Lib.hid (fun (v' : Value) (w' : World) (h : IsPln w' v' P) => joined_any v' P w' h HKK.out (by have := HL1.out; omega))
  have HSI : Hid (joinedB P = true → ∀ (v' : Value) (w' : World) (b n : Nat) (f : Value → Option Value) (h : IsPln w' v' P) (hm : MapFn P.js w' b n f), Calls Tryz.prog 84 #[v', .map (some b)] w' fun e w'' => e = .returned (.bool (signalsB P)) ∧ Gr w' w'') := fun hj v' w' b n f h hm => signals_any v' P w' b n f h HKK.out (by have := HL1.out; omega) hm.1 hm.2 (joined_ports hj)
  have HLN : Hid (joinedB P = true → ∀ (v' : Value) (w' : World) (b n : Nat) (f : Value → Option Value) (h : IsPln w' v' P) (hm : MapFn P.js w' b n f), Calls Tryz.prog 85 #[v', .map (some b)] w' fun e w'' => e = .returned (.bool (linesB P)) ∧ Gr w' w'') := fun hj v' w' b n f h hm => lines_anyP v' P w' b n f h HKK.out HLL.out (by have := HL1.out; omega) hm.1 hm.2 (joined_ports hj)
  have HLG : Hid (argsB P = true → signalsB P = true → ∀ (v' : Value) (w' : World) (h : IsPln w' v' P), Calls Tryz.prog 86 #[v'] w' fun e w'' => e = .returned (.bool (longB P)) ∧ Gr w' w'') := fun ha hs v' w' h => long_any v' P w' h (by have := args_nums ha; omega) (by have := args_nums ha; omega) (sig_in hs)
  generalize argsB P = ab at *
  generalize twiceB (P.es.map (·.n)) = ta at *
  generalize twiceB (P.ss.map (·.n)) = tb at *
  generalize twiceB (P.ls.map (·.n)) = tc at *
  generalize signalsB P = sb at *
  generalize linesB P = lb at *
  generalize longB P = gb at *
  have hz : Gr wb wb := Gr.refl _
  refine (HAR.out _ _ (HPv.out _ hw0)).mono ?_
  rintro e w5 ⟨rfl, h5⟩
  replace hz := hz.trans h5; obtain ⟨zb5, d05, d15, d25, d35, d45, d55, d65, d75, d85⟩ := HB.out.gr hz
  cases ab
  · go_wp2_with fail
    (go_ret; exact ⟨ret_int (by rw [HC.out]; rfl), hw0.trans hz⟩)
  cases ta
  case true => (go_wp2_with (first | (go_at_call 79; first | ((with_reducible refine (HTA.out _ hz).mono ?_); rintro e w21 ⟨rfl, h21⟩; replace hz := hz.trans h21; obtain ⟨zb21, d021, d121, d221, d321, d421, d521, d621, d721, d821⟩ := HB.out.gr hz) | ((with_reducible refine (HTB.out _ hz).mono ?_); rintro e w22 ⟨rfl, h22⟩; replace hz := hz.trans h22; obtain ⟨zb22, d022, d122, d222, d322, d422, d522, d622, d722, d822⟩ := HB.out.gr hz) | ((with_reducible refine (HTC.out _ hz).mono ?_); rintro e w23 ⟨rfl, h23⟩; replace hz := hz.trans h23; obtain ⟨zb23, d023, d123, d223, d323, d423, d523, d623, d723, d823⟩ := HB.out.gr hz)) | fail)); (go_ret; exact ⟨ret_int (by rw [HC.out]; rfl), hw0.trans hz⟩)
  cases tb
  case true => (go_wp2_with (first | (go_at_call 79; first | ((with_reducible refine (HTA.out _ hz).mono ?_); rintro e w21 ⟨rfl, h21⟩; replace hz := hz.trans h21; obtain ⟨zb21, d021, d121, d221, d321, d421, d521, d621, d721, d821⟩ := HB.out.gr hz) | ((with_reducible refine (HTB.out _ hz).mono ?_); rintro e w22 ⟨rfl, h22⟩; replace hz := hz.trans h22; obtain ⟨zb22, d022, d122, d222, d322, d422, d522, d622, d722, d822⟩ := HB.out.gr hz) | ((with_reducible refine (HTC.out _ hz).mono ?_); rintro e w23 ⟨rfl, h23⟩; replace hz := hz.trans h23; obtain ⟨zb23, d023, d123, d223, d323, d423, d523, d623, d723, d823⟩ := HB.out.gr hz)) | fail)); (go_ret; exact ⟨ret_int (by rw [HC.out]; rfl), hw0.trans hz⟩)
  cases tc
  case true => (go_wp2_with (first | (go_at_call 79; first | ((with_reducible refine (HTA.out _ hz).mono ?_); rintro e w21 ⟨rfl, h21⟩; replace hz := hz.trans h21; obtain ⟨zb21, d021, d121, d221, d321, d421, d521, d621, d721, d821⟩ := HB.out.gr hz) | ((with_reducible refine (HTB.out _ hz).mono ?_); rintro e w22 ⟨rfl, h22⟩; replace hz := hz.trans h22; obtain ⟨zb22, d022, d122, d222, d322, d422, d522, d622, d722, d822⟩ := HB.out.gr hz) | ((with_reducible refine (HTC.out _ hz).mono ?_); rintro e w23 ⟨rfl, h23⟩; replace hz := hz.trans h23; obtain ⟨zb23, d023, d123, d223, d323, d423, d523, d623, d723, d823⟩ := HB.out.gr hz)) | fail)); (go_ret; exact ⟨ret_int (by rw [HC.out]; rfl), hw0.trans hz⟩)
  go_wp2_with (first | (go_at_call 79; first | ((with_reducible refine (HTA.out _ hz).mono ?_); rintro e w21 ⟨rfl, h21⟩; replace hz := hz.trans h21; obtain ⟨zb21, d021, d121, d221, d321, d421, d521, d621, d721, d821⟩ := HB.out.gr hz) | ((with_reducible refine (HTB.out _ hz).mono ?_); rintro e w22 ⟨rfl, h22⟩; replace hz := hz.trans h22; obtain ⟨zb22, d022, d122, d222, d322, d422, d522, d622, d722, d822⟩ := HB.out.gr hz) | ((with_reducible refine (HTC.out _ hz).mono ?_); rintro e w23 ⟨rfl, h23⟩; replace hz := hz.trans h23; obtain ⟨zb23, d023, d123, d223, d323, d423, d523, d623, d723, d823⟩ := HB.out.gr hz)) | fail)
  refine (HJO.out _ _ (HPv.out _ (hw0.trans hz))).mono ?_
  rintro e w12 ⟨m, rfl, h12, hmap⟩
  replace hz := hz.trans h12; obtain ⟨zb12, d012, d112, d212, d312, d412, d512, d612, d712, d812⟩ := HB.out.gr hz
  generalize hjb : joinedB P = jb at *
  cases jb
  · clear hmap hjb
    go_wp2_with fail
    (go_ret; exact ⟨ret_int (by rw [HC.out]; rfl), hw0.trans hz⟩)
  obtain ⟨b, n, f, rfl, -, hm, hf⟩ := hmap rfl
  have HMF : Hid (MapFn P.js w12 b n f) := ⟨hm, hf⟩
  have HSI2 := Lib.hid (HSI.out (by trivial))
  have HLN2 := Lib.hid (HLN.out (by trivial))
  have HLG2 := Lib.hid (HLG.out (by trivial))
  clear hmap hjb hm hf
  cases sb
  · go_wp2_with (first | (go_at_call 84; (with_reducible refine (HSI2.out _ _ _ _ _ (HPv.out _ (hw0.trans hz)) HMF.out).mono ?_); rintro e w13 ⟨rfl, h13⟩; have HMF := Lib.hid (HMF.out.gr h13); replace hz := hz.trans h13; obtain ⟨zb13, d013, d113, d213, d313, d413, d513, d613, d713, d813⟩ := HB.out.gr hz) | fail)
    (go_ret; exact ⟨ret_int (by rw [HC.out]; rfl), hw0.trans hz⟩)
  have HLG3 := Lib.hid (HLG2.out (by trivial))
  go_wp2_with (first | (go_at_call 84; (with_reducible refine (HSI2.out _ _ _ _ _ (HPv.out _ (hw0.trans hz)) HMF.out).mono ?_); rintro e w13 ⟨rfl, h13⟩; have HMF := Lib.hid (HMF.out.gr h13); replace hz := hz.trans h13; obtain ⟨zb13, d013, d113, d213, d313, d413, d513, d613, d713, d813⟩ := HB.out.gr hz) | fail)
  cases lb
  · go_wp2_with (first | (go_at_call 85; (with_reducible refine (HLN2.out _ _ _ _ _ (HPv.out _ (hw0.trans hz)) HMF.out).mono ?_); rintro e w14 ⟨rfl, h14⟩; have HMF := Lib.hid (HMF.out.gr h14); replace hz := hz.trans h14; obtain ⟨zb14, d014, d114, d214, d314, d414, d514, d614, d714, d814⟩ := HB.out.gr hz) | fail)
    (go_ret; exact ⟨ret_int (by rw [HC.out]; rfl), hw0.trans hz⟩)
  go_wp2_with (first | (go_at_call 85; (with_reducible refine (HLN2.out _ _ _ _ _ (HPv.out _ (hw0.trans hz)) HMF.out).mono ?_); rintro e w14 ⟨rfl, h14⟩; have HMF := Lib.hid (HMF.out.gr h14); replace hz := hz.trans h14; obtain ⟨zb14, d014, d114, d214, d314, d414, d514, d614, d714, d814⟩ := HB.out.gr hz) | fail)
  cases gb
  · go_wp2_with (first | (go_at_call 86; (with_reducible refine (HLG3.out _ _ (HPv.out _ (hw0.trans hz))).mono ?_); rintro e w15 ⟨rfl, h15⟩; replace hz := hz.trans h15; obtain ⟨zb15, d015, d115, d215, d315, d415, d515, d615, d715, d815⟩ := HB.out.gr hz) | fail)
    (go_ret; exact ⟨ret_int (by rw [HC.out]; rfl), hw0.trans hz⟩)
  go_wp2_with (first | (go_at_call 86; (with_reducible refine (HLG3.out _ _ (HPv.out _ (hw0.trans hz))).mono ?_); rintro e w15 ⟨rfl, h15⟩; replace hz := hz.trans h15; obtain ⟨zb15, d015, d115, d215, d315, d415, d515, d615, d715, d815⟩ := HB.out.gr hz) | fail)
  (go_ret; exact ⟨ret_int (by rw [HC.out]; rfl), hw0.trans hz⟩)
end Go.Proofs.YtknmngejjoohdaaGreatDoor
namespace Go.Proofs.YtknmngejjoohdaaGreatDoor
open Go.ChangeShapes Go.WideShapes Go.ChangeAt Go.RowKit
set_option linter.unusedVariables false
set_option linter.unusedSimpArgs false
def rowL (sz n : Nat) (C : Nat → Nat → Value) : List Value := (List.range (n * sz)).map fun k => C (k / sz) (k % sz)
theorem rowL_len (sz n : Nat) (C : Nat → Nat → Value) : (rowL sz n C).length = n * sz := by unfold rowL; simp
def RetC (w : World) (e : TypeId) (sz n : Nat) (C : Nat → Nat → Value) (en : Ending) (w' : World) : Prop := ∃ v, en = .returned v ∧ Gr w w' ∧ w'.ownsRow w.heap.size e sz v n (rowL sz n C)
theorem RetC.nil {w : World} {e : TypeId} {sz : Nat} {C : Nat → Nat → Value} : RetC w e sz 0 C (.returned (.slice none 0 0)) w :=
  ⟨_, rfl, Gr.refl _, by rw [rowL_len], .inl ⟨rfl, rfl⟩⟩
end Go.Proofs.YtknmngejjoohdaaGreatDoor
namespace Go.Proofs.YtknmngejjoohdaaGreatDoor
open Go.ChangeShapes Go.WideShapes Go.ChangeAt Go.RowKit
set_option linter.unusedVariables false
set_option linter.unusedSimpArgs false
attribute [local go_sem ↓] Go.wp_at_zero Go.wp_at_succ
def Free9 (w : World) (b : Nat) : Prop := ∀ o, o < 9 → w.frozen? ⟨b, o, none⟩ = false
theorem Free9.gr {w w' : World} {b : Nat} (h : Free9 w b) (g : Gr w w') (hb : b < w.heap.size) : Free9 w' b := fun o ho => by rw [g.frozen _ _ hb]; exact h o ho
theorem Free9.set {w : World} {b : Nat} (h : Free9 w b) (p : Addr) (v : Value) : Free9 (w.setCell p v) b := fun o ho => by rw [World.frozen?_setCell]; exact h o ho
theorem Free9.new (w : World) (x : Array Value) (t : TypeId) : Free9 (w.alloc (.cells x t)) w.heap.size := fun o ho => by simp
theorem own_form {w : World} {B : Nat} {e : TypeId} {sz n : Nat} {v : Value} {xs : List Value} (h : w.ownsRow B e sz v n xs) : ∃ a c, v = .slice a n c := by
  rcases h.2 with ⟨rfl, h0⟩ | ⟨g, cap, cur, rfl, _⟩
  · subst h0; exact ⟨_, _, rfl⟩
  · exact ⟨_, _, rfl⟩
def IsRowI (lo hi : Nat) (w : World) (v : Value) (sz n : Nat) (C : Nat → Nat → Value) : Prop :=
  ∃ a c, v = .slice a n c ∧ n ≤ maxLen ∧ (n = 0 ∨ ∃ b o, a = some ⟨b, o, none⟩ ∧ lo ≤ b ∧ b < hi ∧ b < w.heap.size ∧ ∀ i j, i < n → j < sz → w.cell? ⟨b, o + i * sz + j, none⟩ = some (C i j))
theorem IsRowI.row {lo hi : Nat} {w : World} {v : Value} {sz n : Nat} {C : Nat → Nat → Value} (h : IsRowI lo hi w v sz n C) : IsRow w v sz n C := by
  obtain ⟨a, c, e, hm, hx⟩ := h
  refine ⟨a, c, e, hm, ?_⟩
  rcases hx with h | ⟨b, o, h1, -, -, h2, h3⟩
  · exact .inl h
  · exact .inr ⟨b, o, h1, h2, h3⟩
theorem IsRowI.keep {lo hi : Nat} {w w' : World} {v : Value} {sz n : Nat} {C : Nat → Nat → Value} (h : IsRowI lo hi w v sz n C) (hs : w.heap.size ≤ w'.heap.size) (hc : ∀ b o, lo ≤ b → b < hi → b < w.heap.size → w'.cell? ⟨b, o, none⟩ = w.cell? ⟨b, o, none⟩) : IsRowI lo hi w' v sz n C := by
  obtain ⟨a, c, e, hm, hx⟩ := h
  refine ⟨a, c, e, hm, ?_⟩
  rcases hx with h | ⟨b, o, h1, h2, h3, h4, h5⟩
  · exact .inl h
  · exact .inr ⟨b, o, h1, h2, h3, Nat.lt_of_lt_of_le h4 hs, fun i j hi hj => by rw [hc _ _ h2 h3 h4]; exact h5 i j hi hj⟩
theorem own_base_le {w : World} {B B' : Nat} {e : TypeId} {sz n : Nat} {v : Value} {xs : List Value} (h : w.ownsRow B e sz v n xs) (hb : B' ≤ B) : w.ownsRow B' e sz v n xs := by
  refine ⟨h.1, ?_⟩
  rcases h.2 with h | ⟨g, cap, cur, hv, hg, rest⟩
  · exact .inl h
  · exact .inr ⟨g, cap, cur, hv, Nat.le_trans hb hg, rest⟩
def Far (r : Nat) (w w' : World) : Prop := w'.heap.size = w.heap.size ∧ (∀ b o, b ≠ r → w'.cell? ⟨b, o, none⟩ = w.cell? ⟨b, o, none⟩) ∧ ∀ p, w'.frozen? p = w.frozen? p
theorem Far.refl (r : Nat) (w : World) : Far r w w := ⟨rfl, fun _ _ _ => rfl, fun _ => rfl⟩
theorem Far.set {r : Nat} {w w' : World} (h : Far r w w') (o : Nat) (v : Value) : Far r w (w'.setCell ⟨r, o, none⟩ v) :=
  ⟨by simpa using h.1, fun b o' hb => (World.cell?_setCell_other _ _ _ _ (by intro e; injection e with e2 _; exact hb e2.symm)).trans (h.2.1 b o' hb), fun p => by rw [World.frozen?_setCell]; exact h.2.2 p⟩
def IsValsA (g r : Nat) (w : World) (u : Value) (xs : List Value) : Prop :=
  ∃ (a : Option Addr) (cap : Nat), u = .slice a xs.length cap ∧ xs.length ≤ maxLen ∧ (xs = [] ∨ ∃ b off, a = some ⟨b, off, none⟩ ∧ b ≠ g ∧ b ≠ r ∧ b < w.heap.size ∧ ∀ i x, xs[i]? = some x → w.cell? ⟨b, off + i, none⟩ = some x)
theorem IsValsA.vals {g r : Nat} {w : World} {u : Value} {xs : List Value} (h : IsValsA g r w u xs) : IsVals w u xs := by
  obtain ⟨a, cap, e, hl, hx⟩ := h
  refine ⟨a, cap, e, hl, ?_⟩
  rcases hx with h | ⟨b, o, h1, -, -, h2, h3⟩
  · exact .inl h
  · exact .inr ⟨b, o, h1, h2, h3⟩
theorem IsValsA.keep {g r : Nat} {w w' : World} {u : Value} {xs : List Value} (h : IsValsA g r w u xs) (hs : w.heap.size ≤ w'.heap.size) (hc : ∀ b o, b ≠ g → b ≠ r → b < w.heap.size → w'.cell? ⟨b, o, none⟩ = w.cell? ⟨b, o, none⟩) : IsValsA g r w' u xs := by
  obtain ⟨a, cap, e, hl, hx⟩ := h
  refine ⟨a, cap, e, hl, ?_⟩
  rcases hx with h | ⟨b, o, h1, h4, h5, h2, h3⟩
  · exact .inl h
  · exact .inr ⟨b, o, h1, h4, h5, Nat.lt_of_lt_of_le h2 hs, fun i x hx => by rw [hc _ _ h4 h5 h2]; exact h3 i x hx⟩
structure TwL (w : World) (P : Pln) (v1 v2 v3 v4 : Value) (hi g4 : Nat) (wr : World) : Prop where
  gr : Gr w wr
  box : PBox wr w.heap.size P v1 v2 v3 v4
  rs : w.heap.size + 1 < wr.heap.size
  rc : ∀ o, o < 9 → ∃ u, wr.cell? ⟨w.heap.size + 1, o, none⟩ = some u
  rf : Free9 wr (w.heap.size + 1)
  i1 : IsRowI (w.heap.size + 2) hi wr v1 3 P.es.length (fun i j => (P.es.getD i default).c j)
  i2 : IsRowI (w.heap.size + 2) hi wr v2 4 P.js.length (fun i j => (P.js.getD i default).c j)
  i3 : IsRowI (w.heap.size + 2) hi wr v3 4 P.ss.length (fun i j => (P.ss.getD i default).c j)
  hg : w.heap.size + 2 ≤ hi ∧ hi ≤ g4
  v4 : ∃ c, P.ls.length ≤ maxLen ∧ ((P.ls.length = 0 ∧ ∃ a, v4 = .slice a 0 c) ∨ v4 = .slice (some ⟨g4, 0, none⟩) P.ls.length c)
  ln : ∀ i (h : i < P.ls.length), g4 < wr.heap.size ∧ wr.cell? ⟨g4, i * 2, none⟩ = some (.string P.ls[i].n) ∧ wr.frozen? ⟨g4, i * 2 + 1, none⟩ = false ∧ ∃ u, wr.cell? ⟨g4, i * 2 + 1, none⟩ = some u ∧ IsValsA g4 (w.heap.size + 1) wr u (P.ls[i].es.map (Value.int .i64))
theorem TwL.grow {w : World} {P : Pln} {v1 v2 v3 v4 : Value} {hi g4 : Nat} {wr w5 : World} (h : TwL w P v1 v2 v3 v4 hi g4 wr) (g : Gr wr w5) : TwL w P v1 v2 v3 v4 hi g4 w5 :=
  ⟨h.gr.trans g, h.box.gr g, Nat.lt_of_lt_of_le h.rs g.size, fun o ho => by obtain ⟨u, hu⟩ := h.rc o ho; exact ⟨u, (g.cell _ _ h.rs).trans hu⟩, h.rf.gr g h.rs,
    h.i1.keep g.size (fun b o _ _ hb => g.cell _ _ hb), h.i2.keep g.size (fun b o _ _ hb => g.cell _ _ hb), h.i3.keep g.size (fun b o _ _ hb => g.cell _ _ hb), h.hg, h.v4, fun i hi => by
      obtain ⟨a, b, c, u, d, e⟩ := h.ln i hi
      exact ⟨Nat.lt_of_lt_of_le a g.size, (g.cell _ _ a).trans b, (g.frozen _ _ a).trans c, u, (g.cell _ _ a).trans d, e.keep g.size fun b o _ _ hb => g.cell _ _ hb⟩⟩
theorem TwL.done {w : World} {P : Pln} {v1 v2 v3 v4 : Value} {hi g4 : Nat} {wr w' : World} (h : TwL w P v1 v2 v3 v4 hi g4 wr) (hf : Far (w.heap.size + 1) wr w') : IsPln w' (plnV P v1 v2 v3 v4) P := by
  have hz : wr.heap.size ≤ w'.heap.size := by rw [hf.1]; exact Nat.le_refl _
  have k1 := (h.i1.keep hz fun b o hb _ _ => hf.2.1 _ _ (by omega)).row
  have k2 := (h.i2.keep hz fun b o hb _ _ => hf.2.1 _ _ (by omega)).row
  have k3 := (h.i3.keep hz fun b o hb _ _ => hf.2.1 _ _ (by omega)).row
  obtain ⟨x1, y1, rfl, -⟩ := id h.i1
  obtain ⟨x2, y2, rfl, -⟩ := id h.i2
  obtain ⟨x3, y3, rfl, -⟩ := id h.i3
  obtain ⟨c, hm, h4⟩ := h.v4
  rcases h4 with ⟨h0, a, rfl⟩ | rfl
  · refine ⟨x1, y1, x2, y2, x3, y3, a, c, by rw [h0], k1, k2, k3, fun _ => default, ⟨a, c, rfl, hm, .inl h0⟩, fun i hi => by omega⟩
  · refine ⟨x1, y1, x2, y2, x3, y3, _, c, rfl, k1, k2, k3, fun i => (w'.cell? ⟨g4, i * 2 + 1, none⟩).getD default, ⟨_, c, rfl, hm, ?_⟩, fun i hi => ?_⟩
    · rcases Nat.eq_zero_or_pos P.ls.length with h0 | h0
      · exact .inl h0
      · refine .inr ⟨g4, 0, rfl, by rw [hf.1]; exact (h.ln 0 h0).1, fun i j hi hj => ?_⟩
        obtain ⟨_, b, _, u, d, _⟩ := h.ln i hi
        have hg := h.hg
        match j, hj with
        | 0, _ =>
          show w'.cell? ⟨g4, 0 + i * 2 + 0, none⟩ = some (.string (P.ls.getD i default).n)
          rw [Nat.add_zero, Nat.zero_add, hf.2.1 g4 _ (fun e => by omega), b, getD_at _ _ hi]
        | 1, _ =>
          show w'.cell? ⟨g4, 0 + i * 2 + 1, none⟩ = some ((w'.cell? ⟨g4, i * 2 + 1, none⟩).getD default)
          rw [Nat.zero_add, hf.2.1 g4 _ (fun e => by omega), d]; rfl
    · obtain ⟨_, b, _, u, d, e⟩ := h.ln i hi
      have hg := h.hg
      show IsVals w' ((w'.cell? ⟨g4, i * 2 + 1, none⟩).getD default) _
      rw [hf.2.1 g4 _ (fun e => by omega), d, getD_at _ _ hi]
      exact (e.keep hz fun b o _ hb _ => hf.2.1 _ _ hb).vals
theorem vals_slice {w : World} {u : Value} {xs : List Value} (h : IsVals w u xs) : u.oneCell' = true := by
  obtain ⟨a, c, rfl, _⟩ := h; rfl
theorem IsLns.one {w : World} {v : Value} {l : List Ln} (h : IsLns w v l) : ∃ S : Nat → Value, (∀ i j, (if j = 0 then Value.string (l.getD i default).n else S i).oneCell' = true) ∧ IsRow w v 2 l.length (fun i j => if j = 0 then .string (l.getD i default).n else S i) ∧ ∀ i, i < l.length → IsVals w (S i) ((l.getD i default).es.map (Value.int .i64)) := by
  obtain ⟨S, h1, h2⟩ := h
  refine ⟨fun i => if i < l.length then S i else .slice none 0 0, fun i j => ?_, ?_, fun i hi => by dsimp only; rw [if_pos hi]; exact h2 i hi⟩
  · dsimp only
    split
    · rfl
    · split
      · next hi => exact vals_slice (h2 i hi)
      · rfl
  · obtain ⟨a, c, e, hm, hx⟩ := h1
    refine ⟨a, c, e, hm, ?_⟩
    rcases hx with h | ⟨b, o, h1, h2, h3⟩
    · exact .inl h
    · refine .inr ⟨b, o, h1, h2, fun i j hi hj => ?_⟩
      dsimp only
      rw [if_pos hi]
      exact h3 i j hi hj
end Go.Proofs.YtknmngejjoohdaaGreatDoor
namespace Go.Proofs.YtknmngejjoohdaaGreatDoor
open Go.ChangeShapes Go.WideShapes Go.ChangeAt Go.RowKit
set_option linter.unusedVariables false
set_option linter.unusedSimpArgs false
attribute [local go_sem ↓] Go.wp_at_zero Go.wp_at_succ
end Go.Proofs.YtknmngejjoohdaaGreatDoor
namespace Go.Proofs.YtknmngejjoohdaaGreatDoor
open Go.ChangeShapes Go.WideShapes Go.ChangeAt Go.RowKit Go.Maps
set_option linter.unusedVariables false
set_option linter.unusedSimpArgs false
attribute [local go_sem ↓] Go.wp_at_zero Go.wp_at_succ
end Go.Proofs.YtknmngejjoohdaaGreatDoor
namespace Go.Proofs.YtknmngejjoohdaaGreatDoor
open Go.ChangeShapes Go.WideShapes Go.ChangeAt Go.RowKit Go.Maps
set_option linter.unusedVariables false
set_option linter.unusedSimpArgs false
end Go.Proofs.YtknmngejjoohdaaGreatDoor
