/- DgR: (*reader).leg (printed by gen_dgr.py). -/
import Derived.Test.YtgjnlgcdpbilfaaGreatDoorRows
import Derived.Test.YtgjnlgcdpbilfaaGreatDoorB9
import Derived.Deep.RegionHeld3
import Derived.Deep.AppendLies
namespace Go.Proofs.YtgjnlgcdpbilfaaGreatDoor
open Go.ChangeShapes Go.WideShapes Go.ChangeAt Go.RowKit Go.Maps
set_option linter.unusedVariables false
set_option linter.unusedSimpArgs false
def XB (B : Nat) (u0 u1 u2 u3 : Value) (w : World) : Prop := B < w.heap.size ∧ w.cell? ⟨B, 0, none⟩ = some u0 ∧ w.cell? ⟨B, 1, none⟩ = some u1 ∧ w.cell? ⟨B, 2, none⟩ = some u2 ∧ w.cell? ⟨B, 3, none⟩ = some u3 ∧ w.frozen? ⟨B, 0, none⟩ = false ∧ w.frozen? ⟨B, 1, none⟩ = false ∧ w.frozen? ⟨B, 2, none⟩ = false ∧ w.frozen? ⟨B, 3, none⟩ = false
theorem XB.gr {B : Nat} {u0 u1 u2 u3 : Value} {w w' : World} (h : XB B u0 u1 u2 u3 w) (g : Gr w w') : XB B u0 u1 u2 u3 w' := by
  obtain ⟨z, h0, h1, h2, h3, f0, f1, f2, f3⟩ := h
  exact ⟨Nat.lt_of_lt_of_le z g.size, (g.cell _ _ z).trans h0, (g.cell _ _ z).trans h1, (g.cell _ _ z).trans h2, (g.cell _ _ z).trans h3, (g.frozen _ _ z).trans f0, (g.frozen _ _ z).trans f1, (g.frozen _ _ z).trans f2, (g.frozen _ _ z).trans f3⟩
theorem XB.new (w : World) (u0 u1 u2 u3 : Value) (T : TypeId) : XB w.heap.size u0 u1 u2 u3 (w.alloc (.cells #[u0, u1, u2, u3] T)) := by
  refine ⟨by simp, ?_, ?_, ?_, ?_, ?_, ?_, ?_, ?_⟩ <;> go_simp
theorem XB.set0 {B : Nat} {u0 u1 u2 u3 : Value} {w : World} (h : XB B u0 u1 u2 u3 w) (u : Value) : XB B u u1 u2 u3 (w.setCell ⟨B, 0, none⟩ u) := by
  obtain ⟨z, h0, h1, h2, h3, f0, f1, f2, f3⟩ := h
  refine ⟨by simpa using z, World.cell?_setCell_same _ _ _ h0, ?_, ?_, ?_, ?_, ?_, ?_, ?_⟩ <;> go_simp
theorem XB.set1 {B : Nat} {u0 u1 u2 u3 : Value} {w : World} (h : XB B u0 u1 u2 u3 w) (u : Value) : XB B u0 u u2 u3 (w.setCell ⟨B, 1, none⟩ u) := by
  obtain ⟨z, h0, h1, h2, h3, f0, f1, f2, f3⟩ := h
  refine ⟨by simpa using z, ?_, World.cell?_setCell_same _ _ _ h1, ?_, ?_, ?_, ?_, ?_, ?_⟩ <;> go_simp
theorem XB.set23 {B : Nat} {u0 u1 u2 u3 : Value} {w : World} (h : XB B u0 u1 u2 u3 w) (u v : Value) : XB B u0 u1 u v ((w.setCell ⟨B, 2, none⟩ u).setCell ⟨B, 3, none⟩ v) := by
  obtain ⟨z, h0, h1, h2, h3, f0, f1, f2, f3⟩ := h
  refine ⟨by simpa using z, ?_, ?_, (World.cell?_setCell_other _ _ _ _ (by simp)).trans (World.cell?_setCell_same _ _ _ h2), World.cell?_setCell_same _ _ _ ((World.cell?_setCell_other _ _ _ _ (by simp)).trans h3), ?_, ?_, ?_, ?_⟩ <;> go_simp
theorem slice_rest4 (b o c : Nat) (hc : 4 ≤ c) (w' : World) : (Instr.slice 55 (.slice (some ⟨b, o, none⟩) 4 c) (some (.int .i64 1)) none none).run Tryz.prog w' = .ok (.slice (some ⟨b, o + 1, none⟩) 3 (c - 1)) w' := by
  rw [run_slice_l (w := w') (P := Tryz.prog) 55 _ 4 c (by kernel_rfl) .i64 1 (by omega) (by omega)]
  have hs : (sizeOf (Tryz.prog.elem 55)).run Tryz.prog w' = .ok 1 w' := by kernel_rfl
  rw [hs]
  simp only [Result.andThen, sliced]
  rw [show Int.toNat 1 = 1 from rfl, if_neg (by omega)]
  rfl
theorem turnL : bTurn.toList = [116, 117, 114, 110] := by rw [ByteArray.toList_eq]; rfl
theorem goL : bGo.toList = [103, 111] := by rw [ByteArray.toList_eq]; rfl
theorem gateL : bGate.toList = [103, 97, 116, 101] := by rw [ByteArray.toList_eq]; rfl
theorem bufferL : bBuffer.toList = [98, 117, 102, 102, 101, 114] := by rw [ByteArray.toList_eq]; rfl
theorem rd_cells {T : TypeId} {b : Nat} {w : World} {D : Dgm} {sv rv : Value} (h : Bx T b 9 w D.beg sv rv) : ∀ w', Gr w w' → b < w'.heap.size ∧ w'.cell? ⟨b, 9, none⟩ = some (.int .i64 D.beg) ∧ w'.cell? ⟨b, 11, none⟩ = some rv := fun w' g => ⟨(h.gr g).lt, (h.gr g).2.1, (h.gr g).2.2.2⟩
theorem wrd_cells {w : World} {bb o : Nat} {x y z : ByteArray} (hb : bb < w.heap.size) (h0 : w.cell? ⟨bb, o, none⟩ = some (.string x)) (h1 : w.cell? ⟨bb, o + 1, none⟩ = some (.string y)) (h2 : w.cell? ⟨bb, o + 2, none⟩ = some (.string z)) : ∀ w', Gr w w' → bb < w'.heap.size ∧ w'.cell? ⟨bb, o, none⟩ = some (.string x) ∧ w'.cell? ⟨bb, o + 1, none⟩ = some (.string y) ∧ w'.cell? ⟨bb, o + 2, none⟩ = some (.string z) := fun w' g => ⟨Nat.lt_of_lt_of_le hb g.size, (g.cell _ _ hb).trans h0, (g.cell _ _ hb).trans h1, (g.cell _ _ hb).trans h2⟩
theorem runs_snoc {B M : Nat} {w : World} {A : List (Rn × Value)} {D : Dgm} (h : Lgs B M w A) (e : A.map Prod.fst = D.runs) (hne : D.runs ≠ []) : ∃ A' r v, A = A' ++ [(r, v)] ∧ (∀ x ∈ A', OwnLg B w x.2 x.1.legs ∧ x.1.legs.length ≤ maxLen ∧ ∀ k, x.2.ownBlock = some k → k < M) ∧ OwnLg M w v r.legs ∧ r.legs.length ≤ maxLen := by
  rcases h with rfl | h
  · rw [List.map_nil] at e; exact absurd e.symm hne
  · exact h
set_option maxRecDepth 100000 in
set_option maxHeartbeats 2000000 in
theorem legF_no (b B k : Nat) (h0 : Option Obj) (bb o c : Nat) (v t n : ByteArray) (P : Pln) (a1 a2 a3 a4 : Option Addr) (c1 c2 c3 c4 m : Nat) (D : Dgm) (w0 w : World)
    (hP : IsPln w0 (plnV P (.slice a1 P.es.length c1) (.slice a2 P.js.length c2) (.slice a3 P.ss.length c3) (.slice a4 P.ls.length c4)) P) (hb : w0.heap.size ≤ b) (g : Gr w0 w)
    (hKB : KB b P (.slice a1 P.es.length c1) (.slice a2 P.js.length c2) (.slice a3 P.ss.length c3) (.slice a4 P.ls.length c4) k h0 w) (hkB : k < B) (hkb : k ≠ b) (hR : Rd 88 b 9 B w D) (hbb : bb < w.heap.size) (yv : w.cell? ⟨bb, o, none⟩ = some (.string v)) (yt : w.cell? ⟨bb, o + 1, none⟩ = some (.string t)) (yn : w.cell? ⟨bb, o + 2, none⟩ = some (.string n)) (hv : v ≠ bTurn) (hcap : 3 ≤ c) (hst : t.size ≤ maxLen) (hsn : n.size ≤ maxLen) (hz : SzD m D) (hm : m ≤ 40000) (he : D.runs = [] ∨ nmB n = false ∨ clkB t = false ∨ (v ≠ bGo ∧ v ≠ bGate ∧ v ≠ bBuffer)) :
    Calls Tryz.prog 87 #[.pointer (some ⟨b, 0, none⟩), .slice (some ⟨bb, o, none⟩) 3 c] w ((RetLn 88 w0 b 9 B (KB b P (.slice a1 P.es.length c1) (.slice a2 P.js.length c2) (.slice a3 P.ss.length c3) (.slice a4 P.ls.length c4) k h0)) (leg3 P D false v t n)) := by
  obtain ⟨sv, rv, hbx, hbB, A, M, k1, k2, k3, k4, k5, k6⟩ := hR
  have HKB := Lib.hid hKB
  have hB := hKB.1
  obtain ⟨ra, rc, rfl⟩ := own_form k2
  have HBX := Lib.hid hbx
  have HPB := Lib.hid hB
  have K1 := Lib.hid k1
  have K2 := Lib.hid k2
  have K3 := Lib.hid k3
  have K4 := Lib.hid k4
  have hAl : A.length = D.runs.length := by rw [← k4]; simp
  have hAl2 : A.length ≤ 40000 := by have := hz.2.1; omega
  have HAL := Lib.hid hAl
  have HZ := Lib.hid hz
  have HDD := Lib.hid (rd_cells hbx)
  have HY := Lib.hid (wrd_cells hbb yv yt yn)
  have HG0 := Lib.hid g
  have HPI := Lib.hid hP
  have HNM := Lib.hid (fun w' => name_any n hsn w')
  have HCK := Lib.hid (fun w' => parse_any t w' hst)
  have HTI := Lib.hid (fun w' => till_any D.beg (clkN t) w')
  have HNO := Lib.hid (fun h => leg3_no (P := P) (D := D) (tn := false) (v := v) (t := t) (n := n) h)
  have HAT := Lib.hid (fun (E : Int) h1 h2 h3 h4 h5 => leg3_at (P := P) (D := D) (tn := false) (v := v) (t := t) (n := n) (E := E) h1 h2 h3 h4 h5)
  generalize leg3 P D false v t n = R at HNO HAT ⊢
  clear k1 k2 k3 k4 hbx hB hKB hP hz g hAl
  have tt : (v.toList == [116, 117, 114, 110]) = false := by rw [← turnL]; exact str_ne hv
  have HR : Hid (R = .inl 2) := HNO.out (he.imp_right (Or.imp_right (Or.imp_right fun h => by unfold endW; rw [if_neg h.1, if_neg h.2.1, if_neg h.2.2])))
  clear HNO HAT
  by_cases h1 : D.runs = []
  · have t1 : ((A.length : Int) == 0) = true := beqT (by rw [HAL.out, h1]; rfl)
    clear he h1
    go_enter Tryz.func87, Tryz.ntmps87
    go_upto_region 4 with fail
    have HX := Lib.hid (XB.new w (.bool false) (.int .i64 0) (.int .i64 0) (.int .i64 0) 54)
    have G1 : Gr w (w.alloc (.cells #[.bool false, .int .i64 0, .int .i64 0, .int .i64 0] 54)) := (Gr.refl _).alloc _
    generalize (w.alloc (.cells #[.bool false, .int .i64 0, .int .i64 0, .int .i64 0] 54)) = w1 at *
    obtain ⟨zx, x0', x1', x2', x3', f0, f1, f2, f3⟩ := HX.out
    obtain ⟨zy, y0, y1, y2⟩ := HY.out _ G1
    obtain ⟨zd, d0, d2⟩ := HDD.out _ G1
    go_wp2_with fail
    (go_ret; exact RetLn.no HR.out (HG0.out.trans G1))
  have t1 : ((A.length : Int) == 0) = false := beqF (by rw [HAL.out]; have := List.length_pos_iff.2 h1; omega)
  replace he := he.resolve_left h1
  generalize nmB n = q at HNM he
  cases q
  · clear he h1
    go_enter Tryz.func87, Tryz.ntmps87
    go_upto_region 4 with fail
    have HX := Lib.hid (XB.new w (.bool false) (.int .i64 0) (.int .i64 0) (.int .i64 0) 54)
    have G1 : Gr w (w.alloc (.cells #[.bool false, .int .i64 0, .int .i64 0, .int .i64 0] 54)) := (Gr.refl _).alloc _
    generalize (w.alloc (.cells #[.bool false, .int .i64 0, .int .i64 0, .int .i64 0] 54)) = w1 at *
    obtain ⟨zx, x0', x1', x2', x3', f0, f1, f2, f3⟩ := HX.out
    obtain ⟨zy, y0, y1, y2⟩ := HY.out _ G1
    obtain ⟨zd, d0, d2⟩ := HDD.out _ G1
    go_wp2_with (first | (go_at_call 72; (with_reducible refine (HNM.out _).mono ?_); rintro e w3 ⟨rfl, hq⟩; obtain rfl := hq.symm) | fail)
    (go_ret; exact RetLn.no HR.out (HG0.out.trans G1))
  replace he := he.resolve_left (by simp)
  generalize clkB t = q at HCK he
  cases q
  · clear he h1
    go_enter Tryz.func87, Tryz.ntmps87
    go_upto_region 4 with fail
    have HX := Lib.hid (XB.new w (.bool false) (.int .i64 0) (.int .i64 0) (.int .i64 0) 54)
    have G1 : Gr w (w.alloc (.cells #[.bool false, .int .i64 0, .int .i64 0, .int .i64 0] 54)) := (Gr.refl _).alloc _
    generalize (w.alloc (.cells #[.bool false, .int .i64 0, .int .i64 0, .int .i64 0] 54)) = w1 at *
    obtain ⟨zx, x0', x1', x2', x3', f0, f1, f2, f3⟩ := HX.out
    obtain ⟨zy, y0, y1, y2⟩ := HY.out _ G1
    obtain ⟨zd, d0, d2⟩ := HDD.out _ G1
    go_wp2_with (first | (go_at_call 72; (with_reducible refine (HNM.out _).mono ?_); rintro e w3 ⟨rfl, hq⟩; obtain rfl := hq.symm) | (go_at_call 84; (with_reducible refine (HCK.out _).mono ?_); rintro e w4 ⟨rfl, g4⟩; have G4 := G1.trans g4; obtain ⟨zx, x0', x1', x2', x3', f0, f1, f2, f3⟩ := HX.out.gr g4; obtain ⟨zy, y0, y1, y2⟩ := HY.out _ G4; obtain ⟨zd, d0, d2⟩ := HDD.out _ G4) | fail)
    (go_ret; exact RetLn.no HR.out (HG0.out.trans G4))
  obtain ⟨e1, e2, e3⟩ := he.resolve_left (by simp)
  have s1 : (v.toList == [103, 111]) = false := by rw [← goL]; exact str_ne e1
  have s2 : (v.toList == [103, 97, 116, 101]) = false := by rw [← gateL]; exact str_ne e2
  have s3 : (v.toList == [98, 117, 102, 102, 101, 114]) = false := by rw [← bufferL]; exact str_ne e3
  clear e1 e2 e3 he h1
  go_enter Tryz.func87, Tryz.ntmps87
  go_upto_region 4 with fail
  have HX := Lib.hid (XB.new w (.bool false) (.int .i64 0) (.int .i64 0) (.int .i64 0) 54)
  have G1 : Gr w (w.alloc (.cells #[.bool false, .int .i64 0, .int .i64 0, .int .i64 0] 54)) := (Gr.refl _).alloc _
  generalize (w.alloc (.cells #[.bool false, .int .i64 0, .int .i64 0, .int .i64 0] 54)) = w1 at *
  obtain ⟨zx, x0', x1', x2', x3', f0, f1, f2, f3⟩ := HX.out
  obtain ⟨zy, y0, y1, y2⟩ := HY.out _ G1
  obtain ⟨zd, d0, d2⟩ := HDD.out _ G1
  go_wp2_with (first | (go_at_call 72; (with_reducible refine (HNM.out _).mono ?_); rintro e w3 ⟨rfl, hq⟩; obtain rfl := hq.symm) | (go_at_call 84; (with_reducible refine (HCK.out _).mono ?_); rintro e w4 ⟨rfl, g4⟩; have G4 := G1.trans g4; obtain ⟨zx, x0', x1', x2', x3', f0, f1, f2, f3⟩ := HX.out.gr g4; obtain ⟨zy, y0, y1, y2⟩ := HY.out _ G4; obtain ⟨zd, d0, d2⟩ := HDD.out _ G4) | (go_at_call 118; (with_reducible refine (HTI.out _).mono ?_); rintro e w5 ⟨rfl, rfl⟩) | fail)
  (go_ret; exact RetLn.no HR.out (HG0.out.trans (G4.setCell (Nat.le_refl _) _)))
set_option maxRecDepth 100000 in
set_option maxHeartbeats 2000000 in
theorem legT_no (b B k : Nat) (h0 : Option Obj) (bb o c : Nat) (v t n : ByteArray) (P : Pln) (a1 a2 a3 a4 : Option Addr) (c1 c2 c3 c4 m : Nat) (D : Dgm) (w0 w : World)
    (hP : IsPln w0 (plnV P (.slice a1 P.es.length c1) (.slice a2 P.js.length c2) (.slice a3 P.ss.length c3) (.slice a4 P.ls.length c4)) P) (hb : w0.heap.size ≤ b) (g : Gr w0 w)
    (hKB : KB b P (.slice a1 P.es.length c1) (.slice a2 P.js.length c2) (.slice a3 P.ss.length c3) (.slice a4 P.ls.length c4) k h0 w) (hkB : k < B) (hkb : k ≠ b) (hR : Rd 88 b 9 B w D) (hbb : bb < w.heap.size) (yy : w.cell? ⟨bb, o, none⟩ = some (.string bTurn)) (yv : w.cell? ⟨bb, o + 1, none⟩ = some (.string v)) (yt : w.cell? ⟨bb, o + 1 + 1, none⟩ = some (.string t)) (yn : w.cell? ⟨bb, o + 1 + 2, none⟩ = some (.string n)) (hcap : 4 ≤ c) (hst : t.size ≤ maxLen) (hsn : n.size ≤ maxLen) (hz : SzD m D) (hm : m ≤ 40000) (he : D.runs = [] ∨ nmB n = false ∨ clkB t = false ∨ (v ≠ bGo ∧ v ≠ bGate ∧ v ≠ bBuffer)) :
    Calls Tryz.prog 87 #[.pointer (some ⟨b, 0, none⟩), .slice (some ⟨bb, o, none⟩) 4 c] w ((RetLn 88 w0 b 9 B (KB b P (.slice a1 P.es.length c1) (.slice a2 P.js.length c2) (.slice a3 P.ss.length c3) (.slice a4 P.ls.length c4) k h0)) (leg3 P D true v t n)) := by
  obtain ⟨sv, rv, hbx, hbB, A, M, k1, k2, k3, k4, k5, k6⟩ := hR
  have HKB := Lib.hid hKB
  have hB := hKB.1
  obtain ⟨ra, rc, rfl⟩ := own_form k2
  have HBX := Lib.hid hbx
  have HPB := Lib.hid hB
  have K1 := Lib.hid k1
  have K2 := Lib.hid k2
  have K3 := Lib.hid k3
  have K4 := Lib.hid k4
  have hAl : A.length = D.runs.length := by rw [← k4]; simp
  have hAl2 : A.length ≤ 40000 := by have := hz.2.1; omega
  have HAL := Lib.hid hAl
  have HZ := Lib.hid hz
  have HDD := Lib.hid (rd_cells hbx)
  have HY := Lib.hid (wrd_cells hbb yv yt yn)
  have HG0 := Lib.hid g
  have HPI := Lib.hid hP
  have HNM := Lib.hid (fun w' => name_any n hsn w')
  have HCK := Lib.hid (fun w' => parse_any t w' hst)
  have HTI := Lib.hid (fun w' => till_any D.beg (clkN t) w')
  have HNO := Lib.hid (fun h => leg3_no (P := P) (D := D) (tn := true) (v := v) (t := t) (n := n) h)
  have HAT := Lib.hid (fun (E : Int) h1 h2 h3 h4 h5 => leg3_at (P := P) (D := D) (tn := true) (v := v) (t := t) (n := n) (E := E) h1 h2 h3 h4 h5)
  generalize leg3 P D true v t n = R at HNO HAT ⊢
  clear k1 k2 k3 k4 hbx hB hKB hP hz g hAl
  have HSL := slice_rest4 bb o c hcap
  have tt : (bTurn.toList == [116, 117, 114, 110]) = true := by rw [turnL]; rfl
  have HR : Hid (R = .inl 2) := HNO.out (he.imp_right (Or.imp_right (Or.imp_right fun h => by unfold endW; rw [if_neg h.1, if_neg h.2.1, if_neg h.2.2])))
  clear HNO HAT
  by_cases h1 : D.runs = []
  · have t1 : ((A.length : Int) == 0) = true := beqT (by rw [HAL.out, h1]; rfl)
    clear he h1
    go_enter Tryz.func87, Tryz.ntmps87
    go_upto_region 3 with fail
    have X0 := XB.new w (.bool false) (.int .i64 0) (.int .i64 0) (.int .i64 0) 54
    have G0 : Gr w (w.alloc (.cells #[.bool false, .int .i64 0, .int .i64 0, .int .i64 0] 54)) := (Gr.refl _).alloc _
    obtain ⟨zx, x0', x1', x2', x3', f0, f1, f2, f3⟩ := X0
    go_region
    have HX := Lib.hid ((XB.new w (.bool true) (.int .i64 0) (.int .i64 0) (.int .i64 0) 54).gr (Gr.refl _).drew)
    have G1 : Gr w ((w.alloc (.cells #[.bool true, .int .i64 0, .int .i64 0, .int .i64 0] 54)).drew) := ((Gr.refl _).alloc _).drew
    clear zx x0' x1' x2' x3' f0 f1 f2 f3 G0 HSL
    generalize (w.alloc (.cells #[.bool true, .int .i64 0, .int .i64 0, .int .i64 0] 54)).drew = w1 at *
    obtain ⟨zx, x0', x1', x2', x3', f0, f1, f2, f3⟩ := HX.out
    obtain ⟨zy, y0, y1, y2⟩ := HY.out _ G1
    obtain ⟨zd, d0, d2⟩ := HDD.out _ G1
    go_wp2_with fail
    (go_ret; exact RetLn.no HR.out (HG0.out.trans G1))
  have t1 : ((A.length : Int) == 0) = false := beqF (by rw [HAL.out]; have := List.length_pos_iff.2 h1; omega)
  replace he := he.resolve_left h1
  generalize nmB n = q at HNM he
  cases q
  · clear he h1
    go_enter Tryz.func87, Tryz.ntmps87
    go_upto_region 3 with fail
    have X0 := XB.new w (.bool false) (.int .i64 0) (.int .i64 0) (.int .i64 0) 54
    have G0 : Gr w (w.alloc (.cells #[.bool false, .int .i64 0, .int .i64 0, .int .i64 0] 54)) := (Gr.refl _).alloc _
    obtain ⟨zx, x0', x1', x2', x3', f0, f1, f2, f3⟩ := X0
    go_region
    have HX := Lib.hid ((XB.new w (.bool true) (.int .i64 0) (.int .i64 0) (.int .i64 0) 54).gr (Gr.refl _).drew)
    have G1 : Gr w ((w.alloc (.cells #[.bool true, .int .i64 0, .int .i64 0, .int .i64 0] 54)).drew) := ((Gr.refl _).alloc _).drew
    clear zx x0' x1' x2' x3' f0 f1 f2 f3 G0 HSL
    generalize (w.alloc (.cells #[.bool true, .int .i64 0, .int .i64 0, .int .i64 0] 54)).drew = w1 at *
    obtain ⟨zx, x0', x1', x2', x3', f0, f1, f2, f3⟩ := HX.out
    obtain ⟨zy, y0, y1, y2⟩ := HY.out _ G1
    obtain ⟨zd, d0, d2⟩ := HDD.out _ G1
    go_wp2_with (first | (go_at_call 72; (with_reducible refine (HNM.out _).mono ?_); rintro e w3 ⟨rfl, hq⟩; obtain rfl := hq.symm) | fail)
    (go_ret; exact RetLn.no HR.out (HG0.out.trans G1))
  replace he := he.resolve_left (by simp)
  generalize clkB t = q at HCK he
  cases q
  · clear he h1
    go_enter Tryz.func87, Tryz.ntmps87
    go_upto_region 3 with fail
    have X0 := XB.new w (.bool false) (.int .i64 0) (.int .i64 0) (.int .i64 0) 54
    have G0 : Gr w (w.alloc (.cells #[.bool false, .int .i64 0, .int .i64 0, .int .i64 0] 54)) := (Gr.refl _).alloc _
    obtain ⟨zx, x0', x1', x2', x3', f0, f1, f2, f3⟩ := X0
    go_region
    have HX := Lib.hid ((XB.new w (.bool true) (.int .i64 0) (.int .i64 0) (.int .i64 0) 54).gr (Gr.refl _).drew)
    have G1 : Gr w ((w.alloc (.cells #[.bool true, .int .i64 0, .int .i64 0, .int .i64 0] 54)).drew) := ((Gr.refl _).alloc _).drew
    clear zx x0' x1' x2' x3' f0 f1 f2 f3 G0 HSL
    generalize (w.alloc (.cells #[.bool true, .int .i64 0, .int .i64 0, .int .i64 0] 54)).drew = w1 at *
    obtain ⟨zx, x0', x1', x2', x3', f0, f1, f2, f3⟩ := HX.out
    obtain ⟨zy, y0, y1, y2⟩ := HY.out _ G1
    obtain ⟨zd, d0, d2⟩ := HDD.out _ G1
    go_wp2_with (first | (go_at_call 72; (with_reducible refine (HNM.out _).mono ?_); rintro e w3 ⟨rfl, hq⟩; obtain rfl := hq.symm) | (go_at_call 84; (with_reducible refine (HCK.out _).mono ?_); rintro e w4 ⟨rfl, g4⟩; have G4 := G1.trans g4; obtain ⟨zx, x0', x1', x2', x3', f0, f1, f2, f3⟩ := HX.out.gr g4; obtain ⟨zy, y0, y1, y2⟩ := HY.out _ G4; obtain ⟨zd, d0, d2⟩ := HDD.out _ G4) | fail)
    (go_ret; exact RetLn.no HR.out (HG0.out.trans G4))
  obtain ⟨e1, e2, e3⟩ := he.resolve_left (by simp)
  have s1 : (v.toList == [103, 111]) = false := by rw [← goL]; exact str_ne e1
  have s2 : (v.toList == [103, 97, 116, 101]) = false := by rw [← gateL]; exact str_ne e2
  have s3 : (v.toList == [98, 117, 102, 102, 101, 114]) = false := by rw [← bufferL]; exact str_ne e3
  clear e1 e2 e3 he h1
  go_enter Tryz.func87, Tryz.ntmps87
  go_upto_region 3 with fail
  have X0 := XB.new w (.bool false) (.int .i64 0) (.int .i64 0) (.int .i64 0) 54
  have G0 : Gr w (w.alloc (.cells #[.bool false, .int .i64 0, .int .i64 0, .int .i64 0] 54)) := (Gr.refl _).alloc _
  obtain ⟨zx, x0', x1', x2', x3', f0, f1, f2, f3⟩ := X0
  go_region
  have HX := Lib.hid ((XB.new w (.bool true) (.int .i64 0) (.int .i64 0) (.int .i64 0) 54).gr (Gr.refl _).drew)
  have G1 : Gr w ((w.alloc (.cells #[.bool true, .int .i64 0, .int .i64 0, .int .i64 0] 54)).drew) := ((Gr.refl _).alloc _).drew
  clear zx x0' x1' x2' x3' f0 f1 f2 f3 G0 HSL
  generalize (w.alloc (.cells #[.bool true, .int .i64 0, .int .i64 0, .int .i64 0] 54)).drew = w1 at *
  obtain ⟨zx, x0', x1', x2', x3', f0, f1, f2, f3⟩ := HX.out
  obtain ⟨zy, y0, y1, y2⟩ := HY.out _ G1
  obtain ⟨zd, d0, d2⟩ := HDD.out _ G1
  go_wp2_with (first | (go_at_call 72; (with_reducible refine (HNM.out _).mono ?_); rintro e w3 ⟨rfl, hq⟩; obtain rfl := hq.symm) | (go_at_call 84; (with_reducible refine (HCK.out _).mono ?_); rintro e w4 ⟨rfl, g4⟩; have G4 := G1.trans g4; obtain ⟨zx, x0', x1', x2', x3', f0, f1, f2, f3⟩ := HX.out.gr g4; obtain ⟨zy, y0, y1, y2⟩ := HY.out _ G4; obtain ⟨zd, d0, d2⟩ := HDD.out _ G4) | (go_at_call 118; (with_reducible refine (HTI.out _).mono ?_); rintro e w5 ⟨rfl, rfl⟩) | fail)
  (go_ret; exact RetLn.no HR.out (HG0.out.trans (G4.setCell (Nat.le_refl _) _)))
set_option maxRecDepth 100000 in
set_option maxHeartbeats 8000000 in
theorem legF_1 (b B k : Nat) (h0 : Option Obj) (bb o c : Nat) (t n : ByteArray) (P : Pln) (a1 a2 a3 a4 : Option Addr) (c1 c2 c3 c4 m : Nat) (D : Dgm) (w0 w : World)
    (hP : IsPln w0 (plnV P (.slice a1 P.es.length c1) (.slice a2 P.js.length c2) (.slice a3 P.ss.length c3) (.slice a4 P.ls.length c4)) P) (hb : w0.heap.size ≤ b) (g : Gr w0 w)
    (hKB : KB b P (.slice a1 P.es.length c1) (.slice a2 P.js.length c2) (.slice a3 P.ss.length c3) (.slice a4 P.ls.length c4) k h0 w) (hkB : k < B) (hkb : k ≠ b) (hR : Rd 88 b 9 B w D) (hbb : bb < w.heap.size) (yv : w.cell? ⟨bb, o, none⟩ = some (.string bGo)) (yt : w.cell? ⟨bb, o + 1, none⟩ = some (.string t)) (yn : w.cell? ⟨bb, o + 2, none⟩ = some (.string n))  (hcap : 3 ≤ c) (hst : t.size ≤ maxLen) (hsn : n.size ≤ maxLen) (hz : SzD m D) (hm : m ≤ 40000) (h1 : D.runs ≠ []) (h2 : nmB n = true) (h3 : clkB t = true) :
    Calls Tryz.prog 87 #[.pointer (some ⟨b, 0, none⟩), .slice (some ⟨bb, o, none⟩) 3 c] w ((RetLn 88 w0 b 9 B (KB b P (.slice a1 P.es.length c1) (.slice a2 P.js.length c2) (.slice a3 P.ss.length c3) (.slice a4 P.ls.length c4) k h0)) (leg3 P D false bGo t n)) := by
  obtain ⟨sv, rv, hbx, hbB, A, M, k1, k2, k3, k4, k5, k6⟩ := hR
  have HKB := Lib.hid hKB
  have hB := hKB.1
  obtain ⟨ra, rc, rfl⟩ := own_form k2
  have HBX := Lib.hid hbx
  have HPB := Lib.hid hB
  have K1 := Lib.hid k1
  have K2 := Lib.hid k2
  have K3 := Lib.hid k3
  have K4 := Lib.hid k4
  have hAl : A.length = D.runs.length := by rw [← k4]; simp
  have hAl2 : A.length ≤ 40000 := by have := hz.2.1; omega
  have HAL := Lib.hid hAl
  have HZ := Lib.hid hz
  have HDD := Lib.hid (rd_cells hbx)
  have HY := Lib.hid (wrd_cells hbb yv yt yn)
  have HG0 := Lib.hid g
  have HPI := Lib.hid hP
  have HNM := Lib.hid (fun w' => name_any n hsn w')
  have HCK := Lib.hid (fun w' => parse_any t w' hst)
  have HTI := Lib.hid (fun w' => till_any D.beg (clkN t) w')
  have HNO := Lib.hid (fun h => leg3_no (P := P) (D := D) (tn := false) (v := bGo) (t := t) (n := n) h)
  have HAT := Lib.hid (fun (E : Int) h1 h2 h3 h4 h5 => leg3_at (P := P) (D := D) (tn := false) (v := bGo) (t := t) (n := n) (E := E) h1 h2 h3 h4 h5)
  generalize leg3 P D false bGo t n = R at HNO HAT ⊢
  clear k1 k2 k3 k4 hbx hB hKB hP hz g hAl
  have tt : (bGo.toList == [116, 117, 114, 110]) = false := by rw [← turnL]; exact str_ne (by decide)
  have hA : Hid (R = if toW P 1 n < 0 then .inl 5 else .inr { D with runs := addLeg D.runs ⟨false, (clkN t - D.beg) % 86400, 1, toW P 1 n⟩ }) := HAT.out 1 h1 h2 h3 (by decide) (by decide)
  have HFN := Lib.hid (fun (w' : World) (g : Gr w w') => sig_any _ P n w' (HPI.out.gr (HG0.out.trans g)))
  unfold plnV at HFN
  have hE : sigN P n = toW P 1 n := rfl
  rw [hE] at HFN
  generalize toW P 1 n = To at HFN hA
  have t1 : ((A.length : Int) == 0) = false := beqF (by rw [HAL.out]; have := List.length_pos_iff.2 h1; omega)
  rw [h2] at HNM
  rw [h3] at HCK
  generalize (clkN t - D.beg) % 86400 = at_ at HTI hA
  have s1 : (bGo.toList == [103, 111]) = true := by rw [goL]; rfl
  have HS : Hid (∀ w', Gr w w' → (w'.cell? ⟨b, 0, none⟩ = some (.slice a1 P.es.length c1) ∧ w'.cell? ⟨b, 1, none⟩ = some (.slice a2 P.js.length c2) ∧ w'.cell? ⟨b, 2, none⟩ = some (.slice a3 P.ss.length c3) ∧ w'.cell? ⟨b, 3, none⟩ = some (.slice a4 P.ls.length c4) ∧ w'.cell? ⟨b, 4, none⟩ = some (.int .i64 P.top) ∧ w'.cell? ⟨b, 5, none⟩ = some (.int .i64 P.brake) ∧ w'.cell? ⟨b, 6, none⟩ = some (.int .i64 P.margin) ∧ w'.cell? ⟨b, 7, none⟩ = some (.int .i64 P.throw) ∧ w'.cell? ⟨b, 8, none⟩ = some (.bool P.hard) ∧ w'.cell? ⟨bb, o + 2, none⟩ = some (.string n))) := fun w' g => by
    obtain ⟨-, p0, p1, p2, p3, p4, p5, p6, p7, p8⟩ := HPB.out.gr g
    exact ⟨p0, p1, p2, p3, p4, p5, p6, p7, p8, (HY.out _ g).2.2.2⟩
  clear HNO HAT hE
  go_enter Tryz.func87, Tryz.ntmps87
  go_upto_region 4 with fail
  have HX := Lib.hid (XB.new w (.bool false) (.int .i64 0) (.int .i64 0) (.int .i64 0) 54)
  have G1 : Gr w (w.alloc (.cells #[.bool false, .int .i64 0, .int .i64 0, .int .i64 0] 54)) := (Gr.refl _).alloc _
  generalize (w.alloc (.cells #[.bool false, .int .i64 0, .int .i64 0, .int .i64 0] 54)) = w1 at *
  obtain ⟨zx, x0', x1', x2', x3', f0, f1, f2, f3⟩ := HX.out
  obtain ⟨zy, y0, y1, y2⟩ := HY.out _ G1
  obtain ⟨zd, d0, d2⟩ := HDD.out _ G1
  go_upto_region 13 with (first | (go_at_call 72; (with_reducible refine (HNM.out _).mono ?_); rintro e w3 ⟨rfl, hq⟩; obtain rfl := hq.symm) | (go_at_call 84; (with_reducible refine (HCK.out _).mono ?_); rintro e w4 ⟨rfl, g4⟩; have G4 := G1.trans g4; obtain ⟨zx, x0', x1', x2', x3', f0, f1, f2, f3⟩ := HX.out.gr g4; obtain ⟨zy, y0, y1, y2⟩ := HY.out _ G4; obtain ⟨zd, d0, d2⟩ := HDD.out _ G4) | (go_at_call 118; (with_reducible refine (HTI.out _).mono ?_); rintro e w5 ⟨rfl, rfl⟩) | fail)
  have GQ := G4.setCell (p := ⟨w.heap.size, 1, none⟩) (Nat.le_refl _) (.int .i64 at_)
  have HXQ := Lib.hid ((HX.out.gr g4).set1 (.int .i64 at_))
  clear zx x0' x1' x2' x3' f0 f1 f2 f3 zy y0 y1 y2 zd d0 d2
  generalize w4.setCell ⟨w.heap.size, 1, none⟩ (.int .i64 at_) = wq at *
  go_region_held3 (fun w' => w'.cell? ⟨b, 0, none⟩ = some (.slice a1 P.es.length c1) ∧ w'.cell? ⟨b, 1, none⟩ = some (.slice a2 P.js.length c2) ∧ w'.cell? ⟨b, 2, none⟩ = some (.slice a3 P.ss.length c3) ∧ w'.cell? ⟨b, 3, none⟩ = some (.slice a4 P.ls.length c4) ∧ w'.cell? ⟨b, 4, none⟩ = some (.int .i64 P.top) ∧ w'.cell? ⟨b, 5, none⟩ = some (.int .i64 P.brake) ∧ w'.cell? ⟨b, 6, none⟩ = some (.int .i64 P.margin) ∧ w'.cell? ⟨b, 7, none⟩ = some (.int .i64 P.throw) ∧ w'.cell? ⟨b, 8, none⟩ = some (.bool P.hard) ∧ w'.cell? ⟨bb, o + 2, none⟩ = some (.string n)) (first | exact HS.out _ GQ | exact HS.out _ GQ.drew | exact HS.out _ (GQ.drew.trans h5) | exact HS.out _ ((GQ.drew.trans h5).setCell (Nat.le_refl _) _) | exact HS.out _ (((GQ.drew.trans h5).setCell (Nat.le_refl _) _).setCell (Nat.le_refl _) _)) (first | (go_at_call 117; (with_reducible refine (HFN.out _ GQ.drew).mono ?_); rintro e w5 ⟨rfl, h5⟩; obtain ⟨zx, x0', x1', x2', x3', f0, f1, f2, f3⟩ := HXQ.out.gr ((Gr.refl _).drew.trans h5)))
  have GZ := ((GQ.drew.trans h5).setCell (p := ⟨w.heap.size, 2, none⟩) (Nat.le_refl _) (.int .i64 1)).setCell (p := ⟨w.heap.size, 3, none⟩) (Nat.le_refl _) (.int .i64 To)
  have HXZ := Lib.hid ((HXQ.out.gr ((Gr.refl _).drew.trans h5)).set23 (.int .i64 1) (.int .i64 To))
  clear zx x0' x1' x2' x3' f0 f1 f2 f3 HX HXQ
  generalize (w5.setCell ⟨w.heap.size, 2, none⟩ (.int .i64 1)).setCell ⟨w.heap.size, 3, none⟩ (.int .i64 To) = wz at *
  obtain ⟨zx, x0', x1', x2', x3', f0, f1, f2, f3⟩ := HXZ.out
  by_cases hto : To < 0
  · have HR : Hid (R = .inl 5) := by show _ = _; rw [hA.out, if_pos hto]
    go_wp2_with fail
    (go_ret; exact RetLn.no HR.out (HG0.out.trans GZ))
  have HR := hA.out
  rw [if_neg hto] at HR
  have HRR := Lib.hid HR
  clear HR hA
  obtain ⟨A', r, u, rfl, k3a, k7, k8⟩ := runs_snoc K3.out K4.out h1
  obtain ⟨gg, rcap, hform, hgb, hglt⟩ := K2.out.form (by simp)
  simp only [Value.slice.injEq] at hform
  obtain ⟨rfl, -, rfl⟩ := hform
  have hlen : (A' ++ [(r, u)]).length = A'.length + 1 := by simp
  have K2' : OwnRn B w (.slice (some ⟨gg, 0, none⟩) (A'.length + 1) rc) (A' ++ [(r, u)]) := by rw [← hlen]; exact K2.out
  rw [hlen] at HDD HBX hAl2
  obtain ⟨hcu, hfu⟩ := run_cell K2'
  have hrl : r.legs.length ≤ 40000 := by
    have hmem : r ∈ D.runs := by rw [← K4.out]; simp
    have := (HZ.out.2.2.1 r hmem).1; omega
  obtain ⟨ua, uc, rfl⟩ := own_form k7
  obtain ⟨zd, d0, d2⟩ := HDD.out _ GZ
  have hidx : IntKind.i64.wrap (((A'.length + 1 : Nat) : Int) - 1) = (A'.length : Int) := by rw [IntWalk.i64_in _ (by omega)]; omega
  have hi0 : (0 : Int) ≤ (A'.length : Int) := Int.natCast_nonneg _
  have hi1 : (A'.length : Int) < ((A'.length + 1 : Nat) : Int) := by omega
  have K3A := Lib.hid k3a
  have K7 := Lib.hid k7
  clear k3a k7 K2 K3 t1
  go_upto_region 20 with fail
  have hcb := fun (i : GrW wz) (o : Nat) => GrW.cell zd i o
  (refine wp_region_gr (by kernel_rfl) (by kernel_rfl) ?_; (repeat (go_big_quiet_step (fail))); refine wpQuiet_nil ?_; intro wz hz; obtain ⟨iz, hz⟩ := hz; obtain ⟨wn, gn⟩ := iz; dsimp only at hz; obtain rfl := hz.symm)
  have GN := GZ.trans gn
  have HXN := Lib.hid (HXZ.out.gr gn)
  clear hcb zx x0' x1' x2' x3' f0 f1 f2 f3 zd d0 d2
  obtain ⟨zx, x0', x1', x2', x3', f0, f1, f2, f3⟩ := HXN.out
  have zg : gg < w.heap.size := hglt
  have cu := (GN.cell _ _ zg).trans hcu
  have fu := (GN.frozen gg (A'.length * 5 + 4) zg).trans (hfu _)
  have KK7 := Lib.hid (own_gr K7.out GN)
  have hfar2 : (Value.slice ua r.legs.length uc).ownBlock ≠ some gg := fun e => by
    rcases own_diff K7.out K2' (by decide) with h | h
    · rw [h] at e; cases e
    · exact h (by rw [e]; rfl)
  have hfar3 : (Value.slice ua r.legs.length uc).ownBlock ≠ some w.heap.size := fun e => by
    have := own_lt K7.out _ e; omega
  have hMz : M ≤ wn.heap.size := Nat.le_trans k5 GN.size
  obtain ⟨i0, j0, j1, j2, j3⟩ := info_parts Tryz.infoLg
  have K7' := K7
  clear K7
  go_upto_region 21 with fail
  have zgn := Nat.lt_of_lt_of_le zg GN.size
  go_region_law ((refine step_append_lies _ (by rfl) _ _ _ (by rfl) M 54 i0 _ 4 32 Tryz.underlying49 j0 j1 j2 j3 rfl (by omega) (.slice ua r.legs.length uc) r.legs.length (r.legs.flatMap Leg.cs) (by rfl) ((KK7.out.alloc _).drew) ⟨wn.heap.size, 0, none⟩ 1 1 [.bool false, .int .i64 at_, .int .i64 1, .int .i64 To] (by rfl) (by rfl) (World.news_of_block (cs := #[.bool false, .int .i64 at_, .int .i64 1, .int .i64 To]) (t := 54) (fr := (0, 0)) (heap_alloc_new wn _)) (by simp [Value.oneCell']) (by omega) (by unfold maxLen; omega) (by omega) (by simp; omega) (wn.heap.size + 1) (by simp) ?_; intro g9 cap w9 hown hgrow hat hlt; have cu9 := (hgrow.cell_far ⟨gg, A'.length * 5 + 4, none⟩ (by simp; omega) (Ne.symm hfar2)); have fu9 := (hgrow.frozen_far ⟨gg, A'.length * 5 + 4, none⟩ (by simp; omega) (Ne.symm hfar2))))
  all_goals go_wp2_with fail
  all_goals go_ret
  all_goals exact leg_end (x := ⟨false, at_, 1, To⟩) (by decide) (by decide) HBX.out K1.out K2' K3A.out K7'.out (by unfold maxLen; omega) K4.out k5 k6 hbB hkB hkb hgb HKB.out HG0.out hb (GN.trans ((Gr.refl wn).alloc _).drew) HRR.out hgrow hown
set_option maxRecDepth 100000 in
set_option maxHeartbeats 8000000 in
theorem legF_2 (b B k : Nat) (h0 : Option Obj) (bb o c : Nat) (t n : ByteArray) (P : Pln) (a1 a2 a3 a4 : Option Addr) (c1 c2 c3 c4 m : Nat) (D : Dgm) (w0 w : World)
    (hP : IsPln w0 (plnV P (.slice a1 P.es.length c1) (.slice a2 P.js.length c2) (.slice a3 P.ss.length c3) (.slice a4 P.ls.length c4)) P) (hb : w0.heap.size ≤ b) (g : Gr w0 w)
    (hKB : KB b P (.slice a1 P.es.length c1) (.slice a2 P.js.length c2) (.slice a3 P.ss.length c3) (.slice a4 P.ls.length c4) k h0 w) (hkB : k < B) (hkb : k ≠ b) (hR : Rd 88 b 9 B w D) (hbb : bb < w.heap.size) (yv : w.cell? ⟨bb, o, none⟩ = some (.string bGate)) (yt : w.cell? ⟨bb, o + 1, none⟩ = some (.string t)) (yn : w.cell? ⟨bb, o + 2, none⟩ = some (.string n))  (hcap : 3 ≤ c) (hst : t.size ≤ maxLen) (hsn : n.size ≤ maxLen) (hz : SzD m D) (hm : m ≤ 40000) (h1 : D.runs ≠ []) (h2 : nmB n = true) (h3 : clkB t = true) :
    Calls Tryz.prog 87 #[.pointer (some ⟨b, 0, none⟩), .slice (some ⟨bb, o, none⟩) 3 c] w ((RetLn 88 w0 b 9 B (KB b P (.slice a1 P.es.length c1) (.slice a2 P.js.length c2) (.slice a3 P.ss.length c3) (.slice a4 P.ls.length c4) k h0)) (leg3 P D false bGate t n)) := by
  obtain ⟨sv, rv, hbx, hbB, A, M, k1, k2, k3, k4, k5, k6⟩ := hR
  have HKB := Lib.hid hKB
  have hB := hKB.1
  obtain ⟨ra, rc, rfl⟩ := own_form k2
  have HBX := Lib.hid hbx
  have HPB := Lib.hid hB
  have K1 := Lib.hid k1
  have K2 := Lib.hid k2
  have K3 := Lib.hid k3
  have K4 := Lib.hid k4
  have hAl : A.length = D.runs.length := by rw [← k4]; simp
  have hAl2 : A.length ≤ 40000 := by have := hz.2.1; omega
  have HAL := Lib.hid hAl
  have HZ := Lib.hid hz
  have HDD := Lib.hid (rd_cells hbx)
  have HY := Lib.hid (wrd_cells hbb yv yt yn)
  have HG0 := Lib.hid g
  have HPI := Lib.hid hP
  have HNM := Lib.hid (fun w' => name_any n hsn w')
  have HCK := Lib.hid (fun w' => parse_any t w' hst)
  have HTI := Lib.hid (fun w' => till_any D.beg (clkN t) w')
  have HNO := Lib.hid (fun h => leg3_no (P := P) (D := D) (tn := false) (v := bGate) (t := t) (n := n) h)
  have HAT := Lib.hid (fun (E : Int) h1 h2 h3 h4 h5 => leg3_at (P := P) (D := D) (tn := false) (v := bGate) (t := t) (n := n) (E := E) h1 h2 h3 h4 h5)
  generalize leg3 P D false bGate t n = R at HNO HAT ⊢
  clear k1 k2 k3 k4 hbx hB hKB hP hz g hAl
  have tt : (bGate.toList == [116, 117, 114, 110]) = false := by rw [← turnL]; exact str_ne (by decide)
  have hA : Hid (R = if toW P 2 n < 0 then .inl 5 else .inr { D with runs := addLeg D.runs ⟨false, (clkN t - D.beg) % 86400, 2, toW P 2 n⟩ }) := HAT.out 2 h1 h2 h3 (by decide) (by decide)
  have HFN := Lib.hid (fun (w' : World) (g : Gr w w') => ele_any _ P n w' (HPI.out.gr (HG0.out.trans g)))
  unfold plnV at HFN
  have hE : eleN P n = toW P 2 n := rfl
  rw [hE] at HFN
  generalize toW P 2 n = To at HFN hA
  have t1 : ((A.length : Int) == 0) = false := beqF (by rw [HAL.out]; have := List.length_pos_iff.2 h1; omega)
  rw [h2] at HNM
  rw [h3] at HCK
  generalize (clkN t - D.beg) % 86400 = at_ at HTI hA
  have s1 : (bGate.toList == [103, 111]) = false := by rw [← goL]; exact str_ne (by decide)
  have s2 : (bGate.toList == [103, 97, 116, 101]) = true := by rw [gateL]; rfl
  have HS : Hid (∀ w', Gr w w' → (w'.cell? ⟨b, 0, none⟩ = some (.slice a1 P.es.length c1) ∧ w'.cell? ⟨b, 1, none⟩ = some (.slice a2 P.js.length c2) ∧ w'.cell? ⟨b, 2, none⟩ = some (.slice a3 P.ss.length c3) ∧ w'.cell? ⟨b, 3, none⟩ = some (.slice a4 P.ls.length c4) ∧ w'.cell? ⟨b, 4, none⟩ = some (.int .i64 P.top) ∧ w'.cell? ⟨b, 5, none⟩ = some (.int .i64 P.brake) ∧ w'.cell? ⟨b, 6, none⟩ = some (.int .i64 P.margin) ∧ w'.cell? ⟨b, 7, none⟩ = some (.int .i64 P.throw) ∧ w'.cell? ⟨b, 8, none⟩ = some (.bool P.hard) ∧ w'.cell? ⟨bb, o + 2, none⟩ = some (.string n))) := fun w' g => by
    obtain ⟨-, p0, p1, p2, p3, p4, p5, p6, p7, p8⟩ := HPB.out.gr g
    exact ⟨p0, p1, p2, p3, p4, p5, p6, p7, p8, (HY.out _ g).2.2.2⟩
  clear HNO HAT hE
  go_enter Tryz.func87, Tryz.ntmps87
  go_upto_region 4 with fail
  have HX := Lib.hid (XB.new w (.bool false) (.int .i64 0) (.int .i64 0) (.int .i64 0) 54)
  have G1 : Gr w (w.alloc (.cells #[.bool false, .int .i64 0, .int .i64 0, .int .i64 0] 54)) := (Gr.refl _).alloc _
  generalize (w.alloc (.cells #[.bool false, .int .i64 0, .int .i64 0, .int .i64 0] 54)) = w1 at *
  obtain ⟨zx, x0', x1', x2', x3', f0, f1, f2, f3⟩ := HX.out
  obtain ⟨zy, y0, y1, y2⟩ := HY.out _ G1
  obtain ⟨zd, d0, d2⟩ := HDD.out _ G1
  go_upto_region 15 with (first | (go_at_call 72; (with_reducible refine (HNM.out _).mono ?_); rintro e w3 ⟨rfl, hq⟩; obtain rfl := hq.symm) | (go_at_call 84; (with_reducible refine (HCK.out _).mono ?_); rintro e w4 ⟨rfl, g4⟩; have G4 := G1.trans g4; obtain ⟨zx, x0', x1', x2', x3', f0, f1, f2, f3⟩ := HX.out.gr g4; obtain ⟨zy, y0, y1, y2⟩ := HY.out _ G4; obtain ⟨zd, d0, d2⟩ := HDD.out _ G4) | (go_at_call 118; (with_reducible refine (HTI.out _).mono ?_); rintro e w5 ⟨rfl, rfl⟩) | fail)
  have GQ := G4.setCell (p := ⟨w.heap.size, 1, none⟩) (Nat.le_refl _) (.int .i64 at_)
  have HXQ := Lib.hid ((HX.out.gr g4).set1 (.int .i64 at_))
  clear zx x0' x1' x2' x3' f0 f1 f2 f3 zy y0 y1 y2 zd d0 d2
  generalize w4.setCell ⟨w.heap.size, 1, none⟩ (.int .i64 at_) = wq at *
  go_region_held3 (fun w' => w'.cell? ⟨b, 0, none⟩ = some (.slice a1 P.es.length c1) ∧ w'.cell? ⟨b, 1, none⟩ = some (.slice a2 P.js.length c2) ∧ w'.cell? ⟨b, 2, none⟩ = some (.slice a3 P.ss.length c3) ∧ w'.cell? ⟨b, 3, none⟩ = some (.slice a4 P.ls.length c4) ∧ w'.cell? ⟨b, 4, none⟩ = some (.int .i64 P.top) ∧ w'.cell? ⟨b, 5, none⟩ = some (.int .i64 P.brake) ∧ w'.cell? ⟨b, 6, none⟩ = some (.int .i64 P.margin) ∧ w'.cell? ⟨b, 7, none⟩ = some (.int .i64 P.throw) ∧ w'.cell? ⟨b, 8, none⟩ = some (.bool P.hard) ∧ w'.cell? ⟨bb, o + 2, none⟩ = some (.string n)) (first | exact HS.out _ GQ | exact HS.out _ GQ.drew | exact HS.out _ (GQ.drew.trans h5) | exact HS.out _ ((GQ.drew.trans h5).setCell (Nat.le_refl _) _) | exact HS.out _ (((GQ.drew.trans h5).setCell (Nat.le_refl _) _).setCell (Nat.le_refl _) _)) (first | (go_at_call 119; (with_reducible refine (HFN.out _ GQ.drew).mono ?_); rintro e w5 ⟨rfl, h5⟩; obtain ⟨zx, x0', x1', x2', x3', f0, f1, f2, f3⟩ := HXQ.out.gr ((Gr.refl _).drew.trans h5)))
  have GZ := ((GQ.drew.trans h5).setCell (p := ⟨w.heap.size, 2, none⟩) (Nat.le_refl _) (.int .i64 2)).setCell (p := ⟨w.heap.size, 3, none⟩) (Nat.le_refl _) (.int .i64 To)
  have HXZ := Lib.hid ((HXQ.out.gr ((Gr.refl _).drew.trans h5)).set23 (.int .i64 2) (.int .i64 To))
  clear zx x0' x1' x2' x3' f0 f1 f2 f3 HX HXQ
  generalize (w5.setCell ⟨w.heap.size, 2, none⟩ (.int .i64 2)).setCell ⟨w.heap.size, 3, none⟩ (.int .i64 To) = wz at *
  obtain ⟨zx, x0', x1', x2', x3', f0, f1, f2, f3⟩ := HXZ.out
  by_cases hto : To < 0
  · have HR : Hid (R = .inl 5) := by show _ = _; rw [hA.out, if_pos hto]
    go_wp2_with fail
    (go_ret; exact RetLn.no HR.out (HG0.out.trans GZ))
  have HR := hA.out
  rw [if_neg hto] at HR
  have HRR := Lib.hid HR
  clear HR hA
  obtain ⟨A', r, u, rfl, k3a, k7, k8⟩ := runs_snoc K3.out K4.out h1
  obtain ⟨gg, rcap, hform, hgb, hglt⟩ := K2.out.form (by simp)
  simp only [Value.slice.injEq] at hform
  obtain ⟨rfl, -, rfl⟩ := hform
  have hlen : (A' ++ [(r, u)]).length = A'.length + 1 := by simp
  have K2' : OwnRn B w (.slice (some ⟨gg, 0, none⟩) (A'.length + 1) rc) (A' ++ [(r, u)]) := by rw [← hlen]; exact K2.out
  rw [hlen] at HDD HBX hAl2
  obtain ⟨hcu, hfu⟩ := run_cell K2'
  have hrl : r.legs.length ≤ 40000 := by
    have hmem : r ∈ D.runs := by rw [← K4.out]; simp
    have := (HZ.out.2.2.1 r hmem).1; omega
  obtain ⟨ua, uc, rfl⟩ := own_form k7
  obtain ⟨zd, d0, d2⟩ := HDD.out _ GZ
  have hidx : IntKind.i64.wrap (((A'.length + 1 : Nat) : Int) - 1) = (A'.length : Int) := by rw [IntWalk.i64_in _ (by omega)]; omega
  have hi0 : (0 : Int) ≤ (A'.length : Int) := Int.natCast_nonneg _
  have hi1 : (A'.length : Int) < ((A'.length + 1 : Nat) : Int) := by omega
  have K3A := Lib.hid k3a
  have K7 := Lib.hid k7
  clear k3a k7 K2 K3 t1
  go_upto_region 20 with fail
  have hcb := fun (i : GrW wz) (o : Nat) => GrW.cell zd i o
  (refine wp_region_gr (by kernel_rfl) (by kernel_rfl) ?_; (repeat (go_big_quiet_step (fail))); refine wpQuiet_nil ?_; intro wz hz; obtain ⟨iz, hz⟩ := hz; obtain ⟨wn, gn⟩ := iz; dsimp only at hz; obtain rfl := hz.symm)
  have GN := GZ.trans gn
  have HXN := Lib.hid (HXZ.out.gr gn)
  clear hcb zx x0' x1' x2' x3' f0 f1 f2 f3 zd d0 d2
  obtain ⟨zx, x0', x1', x2', x3', f0, f1, f2, f3⟩ := HXN.out
  have zg : gg < w.heap.size := hglt
  have cu := (GN.cell _ _ zg).trans hcu
  have fu := (GN.frozen gg (A'.length * 5 + 4) zg).trans (hfu _)
  have KK7 := Lib.hid (own_gr K7.out GN)
  have hfar2 : (Value.slice ua r.legs.length uc).ownBlock ≠ some gg := fun e => by
    rcases own_diff K7.out K2' (by decide) with h | h
    · rw [h] at e; cases e
    · exact h (by rw [e]; rfl)
  have hfar3 : (Value.slice ua r.legs.length uc).ownBlock ≠ some w.heap.size := fun e => by
    have := own_lt K7.out _ e; omega
  have hMz : M ≤ wn.heap.size := Nat.le_trans k5 GN.size
  obtain ⟨i0, j0, j1, j2, j3⟩ := info_parts Tryz.infoLg
  have K7' := K7
  clear K7
  go_upto_region 21 with fail
  have zgn := Nat.lt_of_lt_of_le zg GN.size
  go_region_law ((refine step_append_lies _ (by rfl) _ _ _ (by rfl) M 54 i0 _ 4 32 Tryz.underlying49 j0 j1 j2 j3 rfl (by omega) (.slice ua r.legs.length uc) r.legs.length (r.legs.flatMap Leg.cs) (by rfl) ((KK7.out.alloc _).drew) ⟨wn.heap.size, 0, none⟩ 1 1 [.bool false, .int .i64 at_, .int .i64 2, .int .i64 To] (by rfl) (by rfl) (World.news_of_block (cs := #[.bool false, .int .i64 at_, .int .i64 2, .int .i64 To]) (t := 54) (fr := (0, 0)) (heap_alloc_new wn _)) (by simp [Value.oneCell']) (by omega) (by unfold maxLen; omega) (by omega) (by simp; omega) (wn.heap.size + 1) (by simp) ?_; intro g9 cap w9 hown hgrow hat hlt; have cu9 := (hgrow.cell_far ⟨gg, A'.length * 5 + 4, none⟩ (by simp; omega) (Ne.symm hfar2)); have fu9 := (hgrow.frozen_far ⟨gg, A'.length * 5 + 4, none⟩ (by simp; omega) (Ne.symm hfar2))))
  all_goals go_wp2_with fail
  all_goals go_ret
  all_goals exact leg_end (x := ⟨false, at_, 2, To⟩) (by decide) (by decide) HBX.out K1.out K2' K3A.out K7'.out (by unfold maxLen; omega) K4.out k5 k6 hbB hkB hkb hgb HKB.out HG0.out hb (GN.trans ((Gr.refl wn).alloc _).drew) HRR.out hgrow hown
set_option maxRecDepth 100000 in
set_option maxHeartbeats 8000000 in
theorem legF_3 (b B k : Nat) (h0 : Option Obj) (bb o c : Nat) (t n : ByteArray) (P : Pln) (a1 a2 a3 a4 : Option Addr) (c1 c2 c3 c4 m : Nat) (D : Dgm) (w0 w : World)
    (hP : IsPln w0 (plnV P (.slice a1 P.es.length c1) (.slice a2 P.js.length c2) (.slice a3 P.ss.length c3) (.slice a4 P.ls.length c4)) P) (hb : w0.heap.size ≤ b) (g : Gr w0 w)
    (hKB : KB b P (.slice a1 P.es.length c1) (.slice a2 P.js.length c2) (.slice a3 P.ss.length c3) (.slice a4 P.ls.length c4) k h0 w) (hkB : k < B) (hkb : k ≠ b) (hR : Rd 88 b 9 B w D) (hbb : bb < w.heap.size) (yv : w.cell? ⟨bb, o, none⟩ = some (.string bBuffer)) (yt : w.cell? ⟨bb, o + 1, none⟩ = some (.string t)) (yn : w.cell? ⟨bb, o + 2, none⟩ = some (.string n))  (hcap : 3 ≤ c) (hst : t.size ≤ maxLen) (hsn : n.size ≤ maxLen) (hz : SzD m D) (hm : m ≤ 40000) (h1 : D.runs ≠ []) (h2 : nmB n = true) (h3 : clkB t = true) :
    Calls Tryz.prog 87 #[.pointer (some ⟨b, 0, none⟩), .slice (some ⟨bb, o, none⟩) 3 c] w ((RetLn 88 w0 b 9 B (KB b P (.slice a1 P.es.length c1) (.slice a2 P.js.length c2) (.slice a3 P.ss.length c3) (.slice a4 P.ls.length c4) k h0)) (leg3 P D false bBuffer t n)) := by
  obtain ⟨sv, rv, hbx, hbB, A, M, k1, k2, k3, k4, k5, k6⟩ := hR
  have HKB := Lib.hid hKB
  have hB := hKB.1
  obtain ⟨ra, rc, rfl⟩ := own_form k2
  have HBX := Lib.hid hbx
  have HPB := Lib.hid hB
  have K1 := Lib.hid k1
  have K2 := Lib.hid k2
  have K3 := Lib.hid k3
  have K4 := Lib.hid k4
  have hAl : A.length = D.runs.length := by rw [← k4]; simp
  have hAl2 : A.length ≤ 40000 := by have := hz.2.1; omega
  have HAL := Lib.hid hAl
  have HZ := Lib.hid hz
  have HDD := Lib.hid (rd_cells hbx)
  have HY := Lib.hid (wrd_cells hbb yv yt yn)
  have HG0 := Lib.hid g
  have HPI := Lib.hid hP
  have HNM := Lib.hid (fun w' => name_any n hsn w')
  have HCK := Lib.hid (fun w' => parse_any t w' hst)
  have HTI := Lib.hid (fun w' => till_any D.beg (clkN t) w')
  have HNO := Lib.hid (fun h => leg3_no (P := P) (D := D) (tn := false) (v := bBuffer) (t := t) (n := n) h)
  have HAT := Lib.hid (fun (E : Int) h1 h2 h3 h4 h5 => leg3_at (P := P) (D := D) (tn := false) (v := bBuffer) (t := t) (n := n) (E := E) h1 h2 h3 h4 h5)
  generalize leg3 P D false bBuffer t n = R at HNO HAT ⊢
  clear k1 k2 k3 k4 hbx hB hKB hP hz g hAl
  have tt : (bBuffer.toList == [116, 117, 114, 110]) = false := by rw [← turnL]; exact str_ne (by decide)
  have hA : Hid (R = if toW P 3 n < 0 then .inl 5 else .inr { D with runs := addLeg D.runs ⟨false, (clkN t - D.beg) % 86400, 3, toW P 3 n⟩ }) := HAT.out 3 h1 h2 h3 (by decide) (by decide)
  have HFN := Lib.hid (fun (w' : World) (g : Gr w w') => ele_any _ P n w' (HPI.out.gr (HG0.out.trans g)))
  unfold plnV at HFN
  have hE : eleN P n = toW P 3 n := rfl
  rw [hE] at HFN
  generalize toW P 3 n = To at HFN hA
  have t1 : ((A.length : Int) == 0) = false := beqF (by rw [HAL.out]; have := List.length_pos_iff.2 h1; omega)
  rw [h2] at HNM
  rw [h3] at HCK
  generalize (clkN t - D.beg) % 86400 = at_ at HTI hA
  have s1 : (bBuffer.toList == [103, 111]) = false := by rw [← goL]; exact str_ne (by decide)
  have s2 : (bBuffer.toList == [103, 97, 116, 101]) = false := by rw [← gateL]; exact str_ne (by decide)
  have s3 : (bBuffer.toList == [98, 117, 102, 102, 101, 114]) = true := by rw [bufferL]; rfl
  have HS : Hid (∀ w', Gr w w' → (w'.cell? ⟨b, 0, none⟩ = some (.slice a1 P.es.length c1) ∧ w'.cell? ⟨b, 1, none⟩ = some (.slice a2 P.js.length c2) ∧ w'.cell? ⟨b, 2, none⟩ = some (.slice a3 P.ss.length c3) ∧ w'.cell? ⟨b, 3, none⟩ = some (.slice a4 P.ls.length c4) ∧ w'.cell? ⟨b, 4, none⟩ = some (.int .i64 P.top) ∧ w'.cell? ⟨b, 5, none⟩ = some (.int .i64 P.brake) ∧ w'.cell? ⟨b, 6, none⟩ = some (.int .i64 P.margin) ∧ w'.cell? ⟨b, 7, none⟩ = some (.int .i64 P.throw) ∧ w'.cell? ⟨b, 8, none⟩ = some (.bool P.hard) ∧ w'.cell? ⟨bb, o + 2, none⟩ = some (.string n))) := fun w' g => by
    obtain ⟨-, p0, p1, p2, p3, p4, p5, p6, p7, p8⟩ := HPB.out.gr g
    exact ⟨p0, p1, p2, p3, p4, p5, p6, p7, p8, (HY.out _ g).2.2.2⟩
  clear HNO HAT hE
  go_enter Tryz.func87, Tryz.ntmps87
  go_upto_region 4 with fail
  have HX := Lib.hid (XB.new w (.bool false) (.int .i64 0) (.int .i64 0) (.int .i64 0) 54)
  have G1 : Gr w (w.alloc (.cells #[.bool false, .int .i64 0, .int .i64 0, .int .i64 0] 54)) := (Gr.refl _).alloc _
  generalize (w.alloc (.cells #[.bool false, .int .i64 0, .int .i64 0, .int .i64 0] 54)) = w1 at *
  obtain ⟨zx, x0', x1', x2', x3', f0, f1, f2, f3⟩ := HX.out
  obtain ⟨zy, y0, y1, y2⟩ := HY.out _ G1
  obtain ⟨zd, d0, d2⟩ := HDD.out _ G1
  go_upto_region 17 with (first | (go_at_call 72; (with_reducible refine (HNM.out _).mono ?_); rintro e w3 ⟨rfl, hq⟩; obtain rfl := hq.symm) | (go_at_call 84; (with_reducible refine (HCK.out _).mono ?_); rintro e w4 ⟨rfl, g4⟩; have G4 := G1.trans g4; obtain ⟨zx, x0', x1', x2', x3', f0, f1, f2, f3⟩ := HX.out.gr g4; obtain ⟨zy, y0, y1, y2⟩ := HY.out _ G4; obtain ⟨zd, d0, d2⟩ := HDD.out _ G4) | (go_at_call 118; (with_reducible refine (HTI.out _).mono ?_); rintro e w5 ⟨rfl, rfl⟩) | fail)
  have GQ := G4.setCell (p := ⟨w.heap.size, 1, none⟩) (Nat.le_refl _) (.int .i64 at_)
  have HXQ := Lib.hid ((HX.out.gr g4).set1 (.int .i64 at_))
  clear zx x0' x1' x2' x3' f0 f1 f2 f3 zy y0 y1 y2 zd d0 d2
  generalize w4.setCell ⟨w.heap.size, 1, none⟩ (.int .i64 at_) = wq at *
  go_region_held3 (fun w' => w'.cell? ⟨b, 0, none⟩ = some (.slice a1 P.es.length c1) ∧ w'.cell? ⟨b, 1, none⟩ = some (.slice a2 P.js.length c2) ∧ w'.cell? ⟨b, 2, none⟩ = some (.slice a3 P.ss.length c3) ∧ w'.cell? ⟨b, 3, none⟩ = some (.slice a4 P.ls.length c4) ∧ w'.cell? ⟨b, 4, none⟩ = some (.int .i64 P.top) ∧ w'.cell? ⟨b, 5, none⟩ = some (.int .i64 P.brake) ∧ w'.cell? ⟨b, 6, none⟩ = some (.int .i64 P.margin) ∧ w'.cell? ⟨b, 7, none⟩ = some (.int .i64 P.throw) ∧ w'.cell? ⟨b, 8, none⟩ = some (.bool P.hard) ∧ w'.cell? ⟨bb, o + 2, none⟩ = some (.string n)) (first | exact HS.out _ GQ | exact HS.out _ GQ.drew | exact HS.out _ (GQ.drew.trans h5) | exact HS.out _ ((GQ.drew.trans h5).setCell (Nat.le_refl _) _) | exact HS.out _ (((GQ.drew.trans h5).setCell (Nat.le_refl _) _).setCell (Nat.le_refl _) _)) (first | (go_at_call 119; (with_reducible refine (HFN.out _ GQ.drew).mono ?_); rintro e w5 ⟨rfl, h5⟩; obtain ⟨zx, x0', x1', x2', x3', f0, f1, f2, f3⟩ := HXQ.out.gr ((Gr.refl _).drew.trans h5)))
  have GZ := ((GQ.drew.trans h5).setCell (p := ⟨w.heap.size, 2, none⟩) (Nat.le_refl _) (.int .i64 3)).setCell (p := ⟨w.heap.size, 3, none⟩) (Nat.le_refl _) (.int .i64 To)
  have HXZ := Lib.hid ((HXQ.out.gr ((Gr.refl _).drew.trans h5)).set23 (.int .i64 3) (.int .i64 To))
  clear zx x0' x1' x2' x3' f0 f1 f2 f3 HX HXQ
  generalize (w5.setCell ⟨w.heap.size, 2, none⟩ (.int .i64 3)).setCell ⟨w.heap.size, 3, none⟩ (.int .i64 To) = wz at *
  obtain ⟨zx, x0', x1', x2', x3', f0, f1, f2, f3⟩ := HXZ.out
  by_cases hto : To < 0
  · have HR : Hid (R = .inl 5) := by show _ = _; rw [hA.out, if_pos hto]
    go_wp2_with fail
    (go_ret; exact RetLn.no HR.out (HG0.out.trans GZ))
  have HR := hA.out
  rw [if_neg hto] at HR
  have HRR := Lib.hid HR
  clear HR hA
  obtain ⟨A', r, u, rfl, k3a, k7, k8⟩ := runs_snoc K3.out K4.out h1
  obtain ⟨gg, rcap, hform, hgb, hglt⟩ := K2.out.form (by simp)
  simp only [Value.slice.injEq] at hform
  obtain ⟨rfl, -, rfl⟩ := hform
  have hlen : (A' ++ [(r, u)]).length = A'.length + 1 := by simp
  have K2' : OwnRn B w (.slice (some ⟨gg, 0, none⟩) (A'.length + 1) rc) (A' ++ [(r, u)]) := by rw [← hlen]; exact K2.out
  rw [hlen] at HDD HBX hAl2
  obtain ⟨hcu, hfu⟩ := run_cell K2'
  have hrl : r.legs.length ≤ 40000 := by
    have hmem : r ∈ D.runs := by rw [← K4.out]; simp
    have := (HZ.out.2.2.1 r hmem).1; omega
  obtain ⟨ua, uc, rfl⟩ := own_form k7
  obtain ⟨zd, d0, d2⟩ := HDD.out _ GZ
  have hidx : IntKind.i64.wrap (((A'.length + 1 : Nat) : Int) - 1) = (A'.length : Int) := by rw [IntWalk.i64_in _ (by omega)]; omega
  have hi0 : (0 : Int) ≤ (A'.length : Int) := Int.natCast_nonneg _
  have hi1 : (A'.length : Int) < ((A'.length + 1 : Nat) : Int) := by omega
  have K3A := Lib.hid k3a
  have K7 := Lib.hid k7
  clear k3a k7 K2 K3 t1
  go_upto_region 20 with fail
  have hcb := fun (i : GrW wz) (o : Nat) => GrW.cell zd i o
  (refine wp_region_gr (by kernel_rfl) (by kernel_rfl) ?_; (repeat (go_big_quiet_step (fail))); refine wpQuiet_nil ?_; intro wz hz; obtain ⟨iz, hz⟩ := hz; obtain ⟨wn, gn⟩ := iz; dsimp only at hz; obtain rfl := hz.symm)
  have GN := GZ.trans gn
  have HXN := Lib.hid (HXZ.out.gr gn)
  clear hcb zx x0' x1' x2' x3' f0 f1 f2 f3 zd d0 d2
  obtain ⟨zx, x0', x1', x2', x3', f0, f1, f2, f3⟩ := HXN.out
  have zg : gg < w.heap.size := hglt
  have cu := (GN.cell _ _ zg).trans hcu
  have fu := (GN.frozen gg (A'.length * 5 + 4) zg).trans (hfu _)
  have KK7 := Lib.hid (own_gr K7.out GN)
  have hfar2 : (Value.slice ua r.legs.length uc).ownBlock ≠ some gg := fun e => by
    rcases own_diff K7.out K2' (by decide) with h | h
    · rw [h] at e; cases e
    · exact h (by rw [e]; rfl)
  have hfar3 : (Value.slice ua r.legs.length uc).ownBlock ≠ some w.heap.size := fun e => by
    have := own_lt K7.out _ e; omega
  have hMz : M ≤ wn.heap.size := Nat.le_trans k5 GN.size
  obtain ⟨i0, j0, j1, j2, j3⟩ := info_parts Tryz.infoLg
  have K7' := K7
  clear K7
  go_upto_region 21 with fail
  have zgn := Nat.lt_of_lt_of_le zg GN.size
  go_region_law ((refine step_append_lies _ (by rfl) _ _ _ (by rfl) M 54 i0 _ 4 32 Tryz.underlying49 j0 j1 j2 j3 rfl (by omega) (.slice ua r.legs.length uc) r.legs.length (r.legs.flatMap Leg.cs) (by rfl) ((KK7.out.alloc _).drew) ⟨wn.heap.size, 0, none⟩ 1 1 [.bool false, .int .i64 at_, .int .i64 3, .int .i64 To] (by rfl) (by rfl) (World.news_of_block (cs := #[.bool false, .int .i64 at_, .int .i64 3, .int .i64 To]) (t := 54) (fr := (0, 0)) (heap_alloc_new wn _)) (by simp [Value.oneCell']) (by omega) (by unfold maxLen; omega) (by omega) (by simp; omega) (wn.heap.size + 1) (by simp) ?_; intro g9 cap w9 hown hgrow hat hlt; have cu9 := (hgrow.cell_far ⟨gg, A'.length * 5 + 4, none⟩ (by simp; omega) (Ne.symm hfar2)); have fu9 := (hgrow.frozen_far ⟨gg, A'.length * 5 + 4, none⟩ (by simp; omega) (Ne.symm hfar2))))
  all_goals go_wp2_with fail
  all_goals go_ret
  all_goals exact leg_end (x := ⟨false, at_, 3, To⟩) (by decide) (by decide) HBX.out K1.out K2' K3A.out K7'.out (by unfold maxLen; omega) K4.out k5 k6 hbB hkB hkb hgb HKB.out HG0.out hb (GN.trans ((Gr.refl wn).alloc _).drew) HRR.out hgrow hown
set_option maxRecDepth 100000 in
set_option maxHeartbeats 8000000 in
theorem legT_1 (b B k : Nat) (h0 : Option Obj) (bb o c : Nat) (t n : ByteArray) (P : Pln) (a1 a2 a3 a4 : Option Addr) (c1 c2 c3 c4 m : Nat) (D : Dgm) (w0 w : World)
    (hP : IsPln w0 (plnV P (.slice a1 P.es.length c1) (.slice a2 P.js.length c2) (.slice a3 P.ss.length c3) (.slice a4 P.ls.length c4)) P) (hb : w0.heap.size ≤ b) (g : Gr w0 w)
    (hKB : KB b P (.slice a1 P.es.length c1) (.slice a2 P.js.length c2) (.slice a3 P.ss.length c3) (.slice a4 P.ls.length c4) k h0 w) (hkB : k < B) (hkb : k ≠ b) (hR : Rd 88 b 9 B w D) (hbb : bb < w.heap.size) (yy : w.cell? ⟨bb, o, none⟩ = some (.string bTurn)) (yv : w.cell? ⟨bb, o + 1, none⟩ = some (.string bGo)) (yt : w.cell? ⟨bb, o + 1 + 1, none⟩ = some (.string t)) (yn : w.cell? ⟨bb, o + 1 + 2, none⟩ = some (.string n)) (hcap : 4 ≤ c) (hst : t.size ≤ maxLen) (hsn : n.size ≤ maxLen) (hz : SzD m D) (hm : m ≤ 40000) (h1 : D.runs ≠ []) (h2 : nmB n = true) (h3 : clkB t = true) :
    Calls Tryz.prog 87 #[.pointer (some ⟨b, 0, none⟩), .slice (some ⟨bb, o, none⟩) 4 c] w ((RetLn 88 w0 b 9 B (KB b P (.slice a1 P.es.length c1) (.slice a2 P.js.length c2) (.slice a3 P.ss.length c3) (.slice a4 P.ls.length c4) k h0)) (leg3 P D true bGo t n)) := by
  obtain ⟨sv, rv, hbx, hbB, A, M, k1, k2, k3, k4, k5, k6⟩ := hR
  have HKB := Lib.hid hKB
  have hB := hKB.1
  obtain ⟨ra, rc, rfl⟩ := own_form k2
  have HBX := Lib.hid hbx
  have HPB := Lib.hid hB
  have K1 := Lib.hid k1
  have K2 := Lib.hid k2
  have K3 := Lib.hid k3
  have K4 := Lib.hid k4
  have hAl : A.length = D.runs.length := by rw [← k4]; simp
  have hAl2 : A.length ≤ 40000 := by have := hz.2.1; omega
  have HAL := Lib.hid hAl
  have HZ := Lib.hid hz
  have HDD := Lib.hid (rd_cells hbx)
  have HY := Lib.hid (wrd_cells hbb yv yt yn)
  have HG0 := Lib.hid g
  have HPI := Lib.hid hP
  have HNM := Lib.hid (fun w' => name_any n hsn w')
  have HCK := Lib.hid (fun w' => parse_any t w' hst)
  have HTI := Lib.hid (fun w' => till_any D.beg (clkN t) w')
  have HNO := Lib.hid (fun h => leg3_no (P := P) (D := D) (tn := true) (v := bGo) (t := t) (n := n) h)
  have HAT := Lib.hid (fun (E : Int) h1 h2 h3 h4 h5 => leg3_at (P := P) (D := D) (tn := true) (v := bGo) (t := t) (n := n) (E := E) h1 h2 h3 h4 h5)
  generalize leg3 P D true bGo t n = R at HNO HAT ⊢
  clear k1 k2 k3 k4 hbx hB hKB hP hz g hAl
  have HSL := slice_rest4 bb o c hcap
  have tt : (bTurn.toList == [116, 117, 114, 110]) = true := by rw [turnL]; rfl
  have hA : Hid (R = if toW P 1 n < 0 then .inl 5 else .inr { D with runs := addLeg D.runs ⟨true, (clkN t - D.beg) % 86400, 1, toW P 1 n⟩ }) := HAT.out 1 h1 h2 h3 (by decide) (by decide)
  have HFN := Lib.hid (fun (w' : World) (g : Gr w w') => sig_any _ P n w' (HPI.out.gr (HG0.out.trans g)))
  unfold plnV at HFN
  have hE : sigN P n = toW P 1 n := rfl
  rw [hE] at HFN
  generalize toW P 1 n = To at HFN hA
  have t1 : ((A.length : Int) == 0) = false := beqF (by rw [HAL.out]; have := List.length_pos_iff.2 h1; omega)
  rw [h2] at HNM
  rw [h3] at HCK
  generalize (clkN t - D.beg) % 86400 = at_ at HTI hA
  have s1 : (bGo.toList == [103, 111]) = true := by rw [goL]; rfl
  have HS : Hid (∀ w', Gr w w' → (w'.cell? ⟨b, 0, none⟩ = some (.slice a1 P.es.length c1) ∧ w'.cell? ⟨b, 1, none⟩ = some (.slice a2 P.js.length c2) ∧ w'.cell? ⟨b, 2, none⟩ = some (.slice a3 P.ss.length c3) ∧ w'.cell? ⟨b, 3, none⟩ = some (.slice a4 P.ls.length c4) ∧ w'.cell? ⟨b, 4, none⟩ = some (.int .i64 P.top) ∧ w'.cell? ⟨b, 5, none⟩ = some (.int .i64 P.brake) ∧ w'.cell? ⟨b, 6, none⟩ = some (.int .i64 P.margin) ∧ w'.cell? ⟨b, 7, none⟩ = some (.int .i64 P.throw) ∧ w'.cell? ⟨b, 8, none⟩ = some (.bool P.hard) ∧ w'.cell? ⟨bb, o + 1 + 2, none⟩ = some (.string n))) := fun w' g => by
    obtain ⟨-, p0, p1, p2, p3, p4, p5, p6, p7, p8⟩ := HPB.out.gr g
    exact ⟨p0, p1, p2, p3, p4, p5, p6, p7, p8, (HY.out _ g).2.2.2⟩
  clear HNO HAT hE
  go_enter Tryz.func87, Tryz.ntmps87
  go_upto_region 3 with fail
  have X0 := XB.new w (.bool false) (.int .i64 0) (.int .i64 0) (.int .i64 0) 54
  have G0 : Gr w (w.alloc (.cells #[.bool false, .int .i64 0, .int .i64 0, .int .i64 0] 54)) := (Gr.refl _).alloc _
  obtain ⟨zx, x0', x1', x2', x3', f0, f1, f2, f3⟩ := X0
  go_region
  have HX := Lib.hid ((XB.new w (.bool true) (.int .i64 0) (.int .i64 0) (.int .i64 0) 54).gr (Gr.refl _).drew)
  have G1 : Gr w ((w.alloc (.cells #[.bool true, .int .i64 0, .int .i64 0, .int .i64 0] 54)).drew) := ((Gr.refl _).alloc _).drew
  clear zx x0' x1' x2' x3' f0 f1 f2 f3 G0 HSL
  generalize (w.alloc (.cells #[.bool true, .int .i64 0, .int .i64 0, .int .i64 0] 54)).drew = w1 at *
  obtain ⟨zx, x0', x1', x2', x3', f0, f1, f2, f3⟩ := HX.out
  obtain ⟨zy, y0, y1, y2⟩ := HY.out _ G1
  obtain ⟨zd, d0, d2⟩ := HDD.out _ G1
  go_upto_region 13 with (first | (go_at_call 72; (with_reducible refine (HNM.out _).mono ?_); rintro e w3 ⟨rfl, hq⟩; obtain rfl := hq.symm) | (go_at_call 84; (with_reducible refine (HCK.out _).mono ?_); rintro e w4 ⟨rfl, g4⟩; have G4 := G1.trans g4; obtain ⟨zx, x0', x1', x2', x3', f0, f1, f2, f3⟩ := HX.out.gr g4; obtain ⟨zy, y0, y1, y2⟩ := HY.out _ G4; obtain ⟨zd, d0, d2⟩ := HDD.out _ G4) | (go_at_call 118; (with_reducible refine (HTI.out _).mono ?_); rintro e w5 ⟨rfl, rfl⟩) | fail)
  have GQ := G4.setCell (p := ⟨w.heap.size, 1, none⟩) (Nat.le_refl _) (.int .i64 at_)
  have HXQ := Lib.hid ((HX.out.gr g4).set1 (.int .i64 at_))
  clear zx x0' x1' x2' x3' f0 f1 f2 f3 zy y0 y1 y2 zd d0 d2
  generalize w4.setCell ⟨w.heap.size, 1, none⟩ (.int .i64 at_) = wq at *
  go_region_held3 (fun w' => w'.cell? ⟨b, 0, none⟩ = some (.slice a1 P.es.length c1) ∧ w'.cell? ⟨b, 1, none⟩ = some (.slice a2 P.js.length c2) ∧ w'.cell? ⟨b, 2, none⟩ = some (.slice a3 P.ss.length c3) ∧ w'.cell? ⟨b, 3, none⟩ = some (.slice a4 P.ls.length c4) ∧ w'.cell? ⟨b, 4, none⟩ = some (.int .i64 P.top) ∧ w'.cell? ⟨b, 5, none⟩ = some (.int .i64 P.brake) ∧ w'.cell? ⟨b, 6, none⟩ = some (.int .i64 P.margin) ∧ w'.cell? ⟨b, 7, none⟩ = some (.int .i64 P.throw) ∧ w'.cell? ⟨b, 8, none⟩ = some (.bool P.hard) ∧ w'.cell? ⟨bb, o + 1 + 2, none⟩ = some (.string n)) (first | exact HS.out _ GQ | exact HS.out _ GQ.drew | exact HS.out _ (GQ.drew.trans h5) | exact HS.out _ ((GQ.drew.trans h5).setCell (Nat.le_refl _) _) | exact HS.out _ (((GQ.drew.trans h5).setCell (Nat.le_refl _) _).setCell (Nat.le_refl _) _)) (first | (go_at_call 117; (with_reducible refine (HFN.out _ GQ.drew).mono ?_); rintro e w5 ⟨rfl, h5⟩; obtain ⟨zx, x0', x1', x2', x3', f0, f1, f2, f3⟩ := HXQ.out.gr ((Gr.refl _).drew.trans h5)))
  have GZ := ((GQ.drew.trans h5).setCell (p := ⟨w.heap.size, 2, none⟩) (Nat.le_refl _) (.int .i64 1)).setCell (p := ⟨w.heap.size, 3, none⟩) (Nat.le_refl _) (.int .i64 To)
  have HXZ := Lib.hid ((HXQ.out.gr ((Gr.refl _).drew.trans h5)).set23 (.int .i64 1) (.int .i64 To))
  clear zx x0' x1' x2' x3' f0 f1 f2 f3 HX HXQ
  generalize (w5.setCell ⟨w.heap.size, 2, none⟩ (.int .i64 1)).setCell ⟨w.heap.size, 3, none⟩ (.int .i64 To) = wz at *
  obtain ⟨zx, x0', x1', x2', x3', f0, f1, f2, f3⟩ := HXZ.out
  by_cases hto : To < 0
  · have HR : Hid (R = .inl 5) := by show _ = _; rw [hA.out, if_pos hto]
    go_wp2_with fail
    (go_ret; exact RetLn.no HR.out (HG0.out.trans GZ))
  have HR := hA.out
  rw [if_neg hto] at HR
  have HRR := Lib.hid HR
  clear HR hA
  obtain ⟨A', r, u, rfl, k3a, k7, k8⟩ := runs_snoc K3.out K4.out h1
  obtain ⟨gg, rcap, hform, hgb, hglt⟩ := K2.out.form (by simp)
  simp only [Value.slice.injEq] at hform
  obtain ⟨rfl, -, rfl⟩ := hform
  have hlen : (A' ++ [(r, u)]).length = A'.length + 1 := by simp
  have K2' : OwnRn B w (.slice (some ⟨gg, 0, none⟩) (A'.length + 1) rc) (A' ++ [(r, u)]) := by rw [← hlen]; exact K2.out
  rw [hlen] at HDD HBX hAl2
  obtain ⟨hcu, hfu⟩ := run_cell K2'
  have hrl : r.legs.length ≤ 40000 := by
    have hmem : r ∈ D.runs := by rw [← K4.out]; simp
    have := (HZ.out.2.2.1 r hmem).1; omega
  obtain ⟨ua, uc, rfl⟩ := own_form k7
  obtain ⟨zd, d0, d2⟩ := HDD.out _ GZ
  have hidx : IntKind.i64.wrap (((A'.length + 1 : Nat) : Int) - 1) = (A'.length : Int) := by rw [IntWalk.i64_in _ (by omega)]; omega
  have hi0 : (0 : Int) ≤ (A'.length : Int) := Int.natCast_nonneg _
  have hi1 : (A'.length : Int) < ((A'.length + 1 : Nat) : Int) := by omega
  have K3A := Lib.hid k3a
  have K7 := Lib.hid k7
  clear k3a k7 K2 K3 t1
  go_upto_region 20 with fail
  have hcb := fun (i : GrW wz) (o : Nat) => GrW.cell zd i o
  (refine wp_region_gr (by kernel_rfl) (by kernel_rfl) ?_; (repeat (go_big_quiet_step (fail))); refine wpQuiet_nil ?_; intro wz hz; obtain ⟨iz, hz⟩ := hz; obtain ⟨wn, gn⟩ := iz; dsimp only at hz; obtain rfl := hz.symm)
  have GN := GZ.trans gn
  have HXN := Lib.hid (HXZ.out.gr gn)
  clear hcb zx x0' x1' x2' x3' f0 f1 f2 f3 zd d0 d2
  obtain ⟨zx, x0', x1', x2', x3', f0, f1, f2, f3⟩ := HXN.out
  have zg : gg < w.heap.size := hglt
  have cu := (GN.cell _ _ zg).trans hcu
  have fu := (GN.frozen gg (A'.length * 5 + 4) zg).trans (hfu _)
  have KK7 := Lib.hid (own_gr K7.out GN)
  have hfar2 : (Value.slice ua r.legs.length uc).ownBlock ≠ some gg := fun e => by
    rcases own_diff K7.out K2' (by decide) with h | h
    · rw [h] at e; cases e
    · exact h (by rw [e]; rfl)
  have hfar3 : (Value.slice ua r.legs.length uc).ownBlock ≠ some w.heap.size := fun e => by
    have := own_lt K7.out _ e; omega
  have hMz : M ≤ wn.heap.size := Nat.le_trans k5 GN.size
  obtain ⟨i0, j0, j1, j2, j3⟩ := info_parts Tryz.infoLg
  have K7' := K7
  clear K7
  go_upto_region 21 with fail
  have zgn := Nat.lt_of_lt_of_le zg GN.size
  go_region_law ((refine step_append_lies _ (by rfl) _ _ _ (by rfl) M 54 i0 _ 4 32 Tryz.underlying49 j0 j1 j2 j3 rfl (by omega) (.slice ua r.legs.length uc) r.legs.length (r.legs.flatMap Leg.cs) (by rfl) ((KK7.out.alloc _).drew) ⟨wn.heap.size, 0, none⟩ 1 1 [.bool true, .int .i64 at_, .int .i64 1, .int .i64 To] (by rfl) (by rfl) (World.news_of_block (cs := #[.bool true, .int .i64 at_, .int .i64 1, .int .i64 To]) (t := 54) (fr := (0, 0)) (heap_alloc_new wn _)) (by simp [Value.oneCell']) (by omega) (by unfold maxLen; omega) (by omega) (by simp; omega) (wn.heap.size + 1) (by simp) ?_; intro g9 cap w9 hown hgrow hat hlt; have cu9 := (hgrow.cell_far ⟨gg, A'.length * 5 + 4, none⟩ (by simp; omega) (Ne.symm hfar2)); have fu9 := (hgrow.frozen_far ⟨gg, A'.length * 5 + 4, none⟩ (by simp; omega) (Ne.symm hfar2))))
  all_goals go_wp2_with fail
  all_goals go_ret
  all_goals exact leg_end (x := ⟨true, at_, 1, To⟩) (by decide) (by decide) HBX.out K1.out K2' K3A.out K7'.out (by unfold maxLen; omega) K4.out k5 k6 hbB hkB hkb hgb HKB.out HG0.out hb (GN.trans ((Gr.refl wn).alloc _).drew) HRR.out hgrow hown
set_option maxRecDepth 100000 in
set_option maxHeartbeats 8000000 in
theorem legT_2 (b B k : Nat) (h0 : Option Obj) (bb o c : Nat) (t n : ByteArray) (P : Pln) (a1 a2 a3 a4 : Option Addr) (c1 c2 c3 c4 m : Nat) (D : Dgm) (w0 w : World)
    (hP : IsPln w0 (plnV P (.slice a1 P.es.length c1) (.slice a2 P.js.length c2) (.slice a3 P.ss.length c3) (.slice a4 P.ls.length c4)) P) (hb : w0.heap.size ≤ b) (g : Gr w0 w)
    (hKB : KB b P (.slice a1 P.es.length c1) (.slice a2 P.js.length c2) (.slice a3 P.ss.length c3) (.slice a4 P.ls.length c4) k h0 w) (hkB : k < B) (hkb : k ≠ b) (hR : Rd 88 b 9 B w D) (hbb : bb < w.heap.size) (yy : w.cell? ⟨bb, o, none⟩ = some (.string bTurn)) (yv : w.cell? ⟨bb, o + 1, none⟩ = some (.string bGate)) (yt : w.cell? ⟨bb, o + 1 + 1, none⟩ = some (.string t)) (yn : w.cell? ⟨bb, o + 1 + 2, none⟩ = some (.string n)) (hcap : 4 ≤ c) (hst : t.size ≤ maxLen) (hsn : n.size ≤ maxLen) (hz : SzD m D) (hm : m ≤ 40000) (h1 : D.runs ≠ []) (h2 : nmB n = true) (h3 : clkB t = true) :
    Calls Tryz.prog 87 #[.pointer (some ⟨b, 0, none⟩), .slice (some ⟨bb, o, none⟩) 4 c] w ((RetLn 88 w0 b 9 B (KB b P (.slice a1 P.es.length c1) (.slice a2 P.js.length c2) (.slice a3 P.ss.length c3) (.slice a4 P.ls.length c4) k h0)) (leg3 P D true bGate t n)) := by
  obtain ⟨sv, rv, hbx, hbB, A, M, k1, k2, k3, k4, k5, k6⟩ := hR
  have HKB := Lib.hid hKB
  have hB := hKB.1
  obtain ⟨ra, rc, rfl⟩ := own_form k2
  have HBX := Lib.hid hbx
  have HPB := Lib.hid hB
  have K1 := Lib.hid k1
  have K2 := Lib.hid k2
  have K3 := Lib.hid k3
  have K4 := Lib.hid k4
  have hAl : A.length = D.runs.length := by rw [← k4]; simp
  have hAl2 : A.length ≤ 40000 := by have := hz.2.1; omega
  have HAL := Lib.hid hAl
  have HZ := Lib.hid hz
  have HDD := Lib.hid (rd_cells hbx)
  have HY := Lib.hid (wrd_cells hbb yv yt yn)
  have HG0 := Lib.hid g
  have HPI := Lib.hid hP
  have HNM := Lib.hid (fun w' => name_any n hsn w')
  have HCK := Lib.hid (fun w' => parse_any t w' hst)
  have HTI := Lib.hid (fun w' => till_any D.beg (clkN t) w')
  have HNO := Lib.hid (fun h => leg3_no (P := P) (D := D) (tn := true) (v := bGate) (t := t) (n := n) h)
  have HAT := Lib.hid (fun (E : Int) h1 h2 h3 h4 h5 => leg3_at (P := P) (D := D) (tn := true) (v := bGate) (t := t) (n := n) (E := E) h1 h2 h3 h4 h5)
  generalize leg3 P D true bGate t n = R at HNO HAT ⊢
  clear k1 k2 k3 k4 hbx hB hKB hP hz g hAl
  have HSL := slice_rest4 bb o c hcap
  have tt : (bTurn.toList == [116, 117, 114, 110]) = true := by rw [turnL]; rfl
  have hA : Hid (R = if toW P 2 n < 0 then .inl 5 else .inr { D with runs := addLeg D.runs ⟨true, (clkN t - D.beg) % 86400, 2, toW P 2 n⟩ }) := HAT.out 2 h1 h2 h3 (by decide) (by decide)
  have HFN := Lib.hid (fun (w' : World) (g : Gr w w') => ele_any _ P n w' (HPI.out.gr (HG0.out.trans g)))
  unfold plnV at HFN
  have hE : eleN P n = toW P 2 n := rfl
  rw [hE] at HFN
  generalize toW P 2 n = To at HFN hA
  have t1 : ((A.length : Int) == 0) = false := beqF (by rw [HAL.out]; have := List.length_pos_iff.2 h1; omega)
  rw [h2] at HNM
  rw [h3] at HCK
  generalize (clkN t - D.beg) % 86400 = at_ at HTI hA
  have s1 : (bGate.toList == [103, 111]) = false := by rw [← goL]; exact str_ne (by decide)
  have s2 : (bGate.toList == [103, 97, 116, 101]) = true := by rw [gateL]; rfl
  have HS : Hid (∀ w', Gr w w' → (w'.cell? ⟨b, 0, none⟩ = some (.slice a1 P.es.length c1) ∧ w'.cell? ⟨b, 1, none⟩ = some (.slice a2 P.js.length c2) ∧ w'.cell? ⟨b, 2, none⟩ = some (.slice a3 P.ss.length c3) ∧ w'.cell? ⟨b, 3, none⟩ = some (.slice a4 P.ls.length c4) ∧ w'.cell? ⟨b, 4, none⟩ = some (.int .i64 P.top) ∧ w'.cell? ⟨b, 5, none⟩ = some (.int .i64 P.brake) ∧ w'.cell? ⟨b, 6, none⟩ = some (.int .i64 P.margin) ∧ w'.cell? ⟨b, 7, none⟩ = some (.int .i64 P.throw) ∧ w'.cell? ⟨b, 8, none⟩ = some (.bool P.hard) ∧ w'.cell? ⟨bb, o + 1 + 2, none⟩ = some (.string n))) := fun w' g => by
    obtain ⟨-, p0, p1, p2, p3, p4, p5, p6, p7, p8⟩ := HPB.out.gr g
    exact ⟨p0, p1, p2, p3, p4, p5, p6, p7, p8, (HY.out _ g).2.2.2⟩
  clear HNO HAT hE
  go_enter Tryz.func87, Tryz.ntmps87
  go_upto_region 3 with fail
  have X0 := XB.new w (.bool false) (.int .i64 0) (.int .i64 0) (.int .i64 0) 54
  have G0 : Gr w (w.alloc (.cells #[.bool false, .int .i64 0, .int .i64 0, .int .i64 0] 54)) := (Gr.refl _).alloc _
  obtain ⟨zx, x0', x1', x2', x3', f0, f1, f2, f3⟩ := X0
  go_region
  have HX := Lib.hid ((XB.new w (.bool true) (.int .i64 0) (.int .i64 0) (.int .i64 0) 54).gr (Gr.refl _).drew)
  have G1 : Gr w ((w.alloc (.cells #[.bool true, .int .i64 0, .int .i64 0, .int .i64 0] 54)).drew) := ((Gr.refl _).alloc _).drew
  clear zx x0' x1' x2' x3' f0 f1 f2 f3 G0 HSL
  generalize (w.alloc (.cells #[.bool true, .int .i64 0, .int .i64 0, .int .i64 0] 54)).drew = w1 at *
  obtain ⟨zx, x0', x1', x2', x3', f0, f1, f2, f3⟩ := HX.out
  obtain ⟨zy, y0, y1, y2⟩ := HY.out _ G1
  obtain ⟨zd, d0, d2⟩ := HDD.out _ G1
  go_upto_region 15 with (first | (go_at_call 72; (with_reducible refine (HNM.out _).mono ?_); rintro e w3 ⟨rfl, hq⟩; obtain rfl := hq.symm) | (go_at_call 84; (with_reducible refine (HCK.out _).mono ?_); rintro e w4 ⟨rfl, g4⟩; have G4 := G1.trans g4; obtain ⟨zx, x0', x1', x2', x3', f0, f1, f2, f3⟩ := HX.out.gr g4; obtain ⟨zy, y0, y1, y2⟩ := HY.out _ G4; obtain ⟨zd, d0, d2⟩ := HDD.out _ G4) | (go_at_call 118; (with_reducible refine (HTI.out _).mono ?_); rintro e w5 ⟨rfl, rfl⟩) | fail)
  have GQ := G4.setCell (p := ⟨w.heap.size, 1, none⟩) (Nat.le_refl _) (.int .i64 at_)
  have HXQ := Lib.hid ((HX.out.gr g4).set1 (.int .i64 at_))
  clear zx x0' x1' x2' x3' f0 f1 f2 f3 zy y0 y1 y2 zd d0 d2
  generalize w4.setCell ⟨w.heap.size, 1, none⟩ (.int .i64 at_) = wq at *
  go_region_held3 (fun w' => w'.cell? ⟨b, 0, none⟩ = some (.slice a1 P.es.length c1) ∧ w'.cell? ⟨b, 1, none⟩ = some (.slice a2 P.js.length c2) ∧ w'.cell? ⟨b, 2, none⟩ = some (.slice a3 P.ss.length c3) ∧ w'.cell? ⟨b, 3, none⟩ = some (.slice a4 P.ls.length c4) ∧ w'.cell? ⟨b, 4, none⟩ = some (.int .i64 P.top) ∧ w'.cell? ⟨b, 5, none⟩ = some (.int .i64 P.brake) ∧ w'.cell? ⟨b, 6, none⟩ = some (.int .i64 P.margin) ∧ w'.cell? ⟨b, 7, none⟩ = some (.int .i64 P.throw) ∧ w'.cell? ⟨b, 8, none⟩ = some (.bool P.hard) ∧ w'.cell? ⟨bb, o + 1 + 2, none⟩ = some (.string n)) (first | exact HS.out _ GQ | exact HS.out _ GQ.drew | exact HS.out _ (GQ.drew.trans h5) | exact HS.out _ ((GQ.drew.trans h5).setCell (Nat.le_refl _) _) | exact HS.out _ (((GQ.drew.trans h5).setCell (Nat.le_refl _) _).setCell (Nat.le_refl _) _)) (first | (go_at_call 119; (with_reducible refine (HFN.out _ GQ.drew).mono ?_); rintro e w5 ⟨rfl, h5⟩; obtain ⟨zx, x0', x1', x2', x3', f0, f1, f2, f3⟩ := HXQ.out.gr ((Gr.refl _).drew.trans h5)))
  have GZ := ((GQ.drew.trans h5).setCell (p := ⟨w.heap.size, 2, none⟩) (Nat.le_refl _) (.int .i64 2)).setCell (p := ⟨w.heap.size, 3, none⟩) (Nat.le_refl _) (.int .i64 To)
  have HXZ := Lib.hid ((HXQ.out.gr ((Gr.refl _).drew.trans h5)).set23 (.int .i64 2) (.int .i64 To))
  clear zx x0' x1' x2' x3' f0 f1 f2 f3 HX HXQ
  generalize (w5.setCell ⟨w.heap.size, 2, none⟩ (.int .i64 2)).setCell ⟨w.heap.size, 3, none⟩ (.int .i64 To) = wz at *
  obtain ⟨zx, x0', x1', x2', x3', f0, f1, f2, f3⟩ := HXZ.out
  by_cases hto : To < 0
  · have HR : Hid (R = .inl 5) := by show _ = _; rw [hA.out, if_pos hto]
    go_wp2_with fail
    (go_ret; exact RetLn.no HR.out (HG0.out.trans GZ))
  have HR := hA.out
  rw [if_neg hto] at HR
  have HRR := Lib.hid HR
  clear HR hA
  obtain ⟨A', r, u, rfl, k3a, k7, k8⟩ := runs_snoc K3.out K4.out h1
  obtain ⟨gg, rcap, hform, hgb, hglt⟩ := K2.out.form (by simp)
  simp only [Value.slice.injEq] at hform
  obtain ⟨rfl, -, rfl⟩ := hform
  have hlen : (A' ++ [(r, u)]).length = A'.length + 1 := by simp
  have K2' : OwnRn B w (.slice (some ⟨gg, 0, none⟩) (A'.length + 1) rc) (A' ++ [(r, u)]) := by rw [← hlen]; exact K2.out
  rw [hlen] at HDD HBX hAl2
  obtain ⟨hcu, hfu⟩ := run_cell K2'
  have hrl : r.legs.length ≤ 40000 := by
    have hmem : r ∈ D.runs := by rw [← K4.out]; simp
    have := (HZ.out.2.2.1 r hmem).1; omega
  obtain ⟨ua, uc, rfl⟩ := own_form k7
  obtain ⟨zd, d0, d2⟩ := HDD.out _ GZ
  have hidx : IntKind.i64.wrap (((A'.length + 1 : Nat) : Int) - 1) = (A'.length : Int) := by rw [IntWalk.i64_in _ (by omega)]; omega
  have hi0 : (0 : Int) ≤ (A'.length : Int) := Int.natCast_nonneg _
  have hi1 : (A'.length : Int) < ((A'.length + 1 : Nat) : Int) := by omega
  have K3A := Lib.hid k3a
  have K7 := Lib.hid k7
  clear k3a k7 K2 K3 t1
  go_upto_region 20 with fail
  have hcb := fun (i : GrW wz) (o : Nat) => GrW.cell zd i o
  (refine wp_region_gr (by kernel_rfl) (by kernel_rfl) ?_; (repeat (go_big_quiet_step (fail))); refine wpQuiet_nil ?_; intro wz hz; obtain ⟨iz, hz⟩ := hz; obtain ⟨wn, gn⟩ := iz; dsimp only at hz; obtain rfl := hz.symm)
  have GN := GZ.trans gn
  have HXN := Lib.hid (HXZ.out.gr gn)
  clear hcb zx x0' x1' x2' x3' f0 f1 f2 f3 zd d0 d2
  obtain ⟨zx, x0', x1', x2', x3', f0, f1, f2, f3⟩ := HXN.out
  have zg : gg < w.heap.size := hglt
  have cu := (GN.cell _ _ zg).trans hcu
  have fu := (GN.frozen gg (A'.length * 5 + 4) zg).trans (hfu _)
  have KK7 := Lib.hid (own_gr K7.out GN)
  have hfar2 : (Value.slice ua r.legs.length uc).ownBlock ≠ some gg := fun e => by
    rcases own_diff K7.out K2' (by decide) with h | h
    · rw [h] at e; cases e
    · exact h (by rw [e]; rfl)
  have hfar3 : (Value.slice ua r.legs.length uc).ownBlock ≠ some w.heap.size := fun e => by
    have := own_lt K7.out _ e; omega
  have hMz : M ≤ wn.heap.size := Nat.le_trans k5 GN.size
  obtain ⟨i0, j0, j1, j2, j3⟩ := info_parts Tryz.infoLg
  have K7' := K7
  clear K7
  go_upto_region 21 with fail
  have zgn := Nat.lt_of_lt_of_le zg GN.size
  go_region_law ((refine step_append_lies _ (by rfl) _ _ _ (by rfl) M 54 i0 _ 4 32 Tryz.underlying49 j0 j1 j2 j3 rfl (by omega) (.slice ua r.legs.length uc) r.legs.length (r.legs.flatMap Leg.cs) (by rfl) ((KK7.out.alloc _).drew) ⟨wn.heap.size, 0, none⟩ 1 1 [.bool true, .int .i64 at_, .int .i64 2, .int .i64 To] (by rfl) (by rfl) (World.news_of_block (cs := #[.bool true, .int .i64 at_, .int .i64 2, .int .i64 To]) (t := 54) (fr := (0, 0)) (heap_alloc_new wn _)) (by simp [Value.oneCell']) (by omega) (by unfold maxLen; omega) (by omega) (by simp; omega) (wn.heap.size + 1) (by simp) ?_; intro g9 cap w9 hown hgrow hat hlt; have cu9 := (hgrow.cell_far ⟨gg, A'.length * 5 + 4, none⟩ (by simp; omega) (Ne.symm hfar2)); have fu9 := (hgrow.frozen_far ⟨gg, A'.length * 5 + 4, none⟩ (by simp; omega) (Ne.symm hfar2))))
  all_goals go_wp2_with fail
  all_goals go_ret
  all_goals exact leg_end (x := ⟨true, at_, 2, To⟩) (by decide) (by decide) HBX.out K1.out K2' K3A.out K7'.out (by unfold maxLen; omega) K4.out k5 k6 hbB hkB hkb hgb HKB.out HG0.out hb (GN.trans ((Gr.refl wn).alloc _).drew) HRR.out hgrow hown
set_option maxRecDepth 100000 in
set_option maxHeartbeats 8000000 in
theorem legT_3 (b B k : Nat) (h0 : Option Obj) (bb o c : Nat) (t n : ByteArray) (P : Pln) (a1 a2 a3 a4 : Option Addr) (c1 c2 c3 c4 m : Nat) (D : Dgm) (w0 w : World)
    (hP : IsPln w0 (plnV P (.slice a1 P.es.length c1) (.slice a2 P.js.length c2) (.slice a3 P.ss.length c3) (.slice a4 P.ls.length c4)) P) (hb : w0.heap.size ≤ b) (g : Gr w0 w)
    (hKB : KB b P (.slice a1 P.es.length c1) (.slice a2 P.js.length c2) (.slice a3 P.ss.length c3) (.slice a4 P.ls.length c4) k h0 w) (hkB : k < B) (hkb : k ≠ b) (hR : Rd 88 b 9 B w D) (hbb : bb < w.heap.size) (yy : w.cell? ⟨bb, o, none⟩ = some (.string bTurn)) (yv : w.cell? ⟨bb, o + 1, none⟩ = some (.string bBuffer)) (yt : w.cell? ⟨bb, o + 1 + 1, none⟩ = some (.string t)) (yn : w.cell? ⟨bb, o + 1 + 2, none⟩ = some (.string n)) (hcap : 4 ≤ c) (hst : t.size ≤ maxLen) (hsn : n.size ≤ maxLen) (hz : SzD m D) (hm : m ≤ 40000) (h1 : D.runs ≠ []) (h2 : nmB n = true) (h3 : clkB t = true) :
    Calls Tryz.prog 87 #[.pointer (some ⟨b, 0, none⟩), .slice (some ⟨bb, o, none⟩) 4 c] w ((RetLn 88 w0 b 9 B (KB b P (.slice a1 P.es.length c1) (.slice a2 P.js.length c2) (.slice a3 P.ss.length c3) (.slice a4 P.ls.length c4) k h0)) (leg3 P D true bBuffer t n)) := by
  obtain ⟨sv, rv, hbx, hbB, A, M, k1, k2, k3, k4, k5, k6⟩ := hR
  have HKB := Lib.hid hKB
  have hB := hKB.1
  obtain ⟨ra, rc, rfl⟩ := own_form k2
  have HBX := Lib.hid hbx
  have HPB := Lib.hid hB
  have K1 := Lib.hid k1
  have K2 := Lib.hid k2
  have K3 := Lib.hid k3
  have K4 := Lib.hid k4
  have hAl : A.length = D.runs.length := by rw [← k4]; simp
  have hAl2 : A.length ≤ 40000 := by have := hz.2.1; omega
  have HAL := Lib.hid hAl
  have HZ := Lib.hid hz
  have HDD := Lib.hid (rd_cells hbx)
  have HY := Lib.hid (wrd_cells hbb yv yt yn)
  have HG0 := Lib.hid g
  have HPI := Lib.hid hP
  have HNM := Lib.hid (fun w' => name_any n hsn w')
  have HCK := Lib.hid (fun w' => parse_any t w' hst)
  have HTI := Lib.hid (fun w' => till_any D.beg (clkN t) w')
  have HNO := Lib.hid (fun h => leg3_no (P := P) (D := D) (tn := true) (v := bBuffer) (t := t) (n := n) h)
  have HAT := Lib.hid (fun (E : Int) h1 h2 h3 h4 h5 => leg3_at (P := P) (D := D) (tn := true) (v := bBuffer) (t := t) (n := n) (E := E) h1 h2 h3 h4 h5)
  generalize leg3 P D true bBuffer t n = R at HNO HAT ⊢
  clear k1 k2 k3 k4 hbx hB hKB hP hz g hAl
  have HSL := slice_rest4 bb o c hcap
  have tt : (bTurn.toList == [116, 117, 114, 110]) = true := by rw [turnL]; rfl
  have hA : Hid (R = if toW P 3 n < 0 then .inl 5 else .inr { D with runs := addLeg D.runs ⟨true, (clkN t - D.beg) % 86400, 3, toW P 3 n⟩ }) := HAT.out 3 h1 h2 h3 (by decide) (by decide)
  have HFN := Lib.hid (fun (w' : World) (g : Gr w w') => ele_any _ P n w' (HPI.out.gr (HG0.out.trans g)))
  unfold plnV at HFN
  have hE : eleN P n = toW P 3 n := rfl
  rw [hE] at HFN
  generalize toW P 3 n = To at HFN hA
  have t1 : ((A.length : Int) == 0) = false := beqF (by rw [HAL.out]; have := List.length_pos_iff.2 h1; omega)
  rw [h2] at HNM
  rw [h3] at HCK
  generalize (clkN t - D.beg) % 86400 = at_ at HTI hA
  have s1 : (bBuffer.toList == [103, 111]) = false := by rw [← goL]; exact str_ne (by decide)
  have s2 : (bBuffer.toList == [103, 97, 116, 101]) = false := by rw [← gateL]; exact str_ne (by decide)
  have s3 : (bBuffer.toList == [98, 117, 102, 102, 101, 114]) = true := by rw [bufferL]; rfl
  have HS : Hid (∀ w', Gr w w' → (w'.cell? ⟨b, 0, none⟩ = some (.slice a1 P.es.length c1) ∧ w'.cell? ⟨b, 1, none⟩ = some (.slice a2 P.js.length c2) ∧ w'.cell? ⟨b, 2, none⟩ = some (.slice a3 P.ss.length c3) ∧ w'.cell? ⟨b, 3, none⟩ = some (.slice a4 P.ls.length c4) ∧ w'.cell? ⟨b, 4, none⟩ = some (.int .i64 P.top) ∧ w'.cell? ⟨b, 5, none⟩ = some (.int .i64 P.brake) ∧ w'.cell? ⟨b, 6, none⟩ = some (.int .i64 P.margin) ∧ w'.cell? ⟨b, 7, none⟩ = some (.int .i64 P.throw) ∧ w'.cell? ⟨b, 8, none⟩ = some (.bool P.hard) ∧ w'.cell? ⟨bb, o + 1 + 2, none⟩ = some (.string n))) := fun w' g => by
    obtain ⟨-, p0, p1, p2, p3, p4, p5, p6, p7, p8⟩ := HPB.out.gr g
    exact ⟨p0, p1, p2, p3, p4, p5, p6, p7, p8, (HY.out _ g).2.2.2⟩
  clear HNO HAT hE
  go_enter Tryz.func87, Tryz.ntmps87
  go_upto_region 3 with fail
  have X0 := XB.new w (.bool false) (.int .i64 0) (.int .i64 0) (.int .i64 0) 54
  have G0 : Gr w (w.alloc (.cells #[.bool false, .int .i64 0, .int .i64 0, .int .i64 0] 54)) := (Gr.refl _).alloc _
  obtain ⟨zx, x0', x1', x2', x3', f0, f1, f2, f3⟩ := X0
  go_region
  have HX := Lib.hid ((XB.new w (.bool true) (.int .i64 0) (.int .i64 0) (.int .i64 0) 54).gr (Gr.refl _).drew)
  have G1 : Gr w ((w.alloc (.cells #[.bool true, .int .i64 0, .int .i64 0, .int .i64 0] 54)).drew) := ((Gr.refl _).alloc _).drew
  clear zx x0' x1' x2' x3' f0 f1 f2 f3 G0 HSL
  generalize (w.alloc (.cells #[.bool true, .int .i64 0, .int .i64 0, .int .i64 0] 54)).drew = w1 at *
  obtain ⟨zx, x0', x1', x2', x3', f0, f1, f2, f3⟩ := HX.out
  obtain ⟨zy, y0, y1, y2⟩ := HY.out _ G1
  obtain ⟨zd, d0, d2⟩ := HDD.out _ G1
  go_upto_region 17 with (first | (go_at_call 72; (with_reducible refine (HNM.out _).mono ?_); rintro e w3 ⟨rfl, hq⟩; obtain rfl := hq.symm) | (go_at_call 84; (with_reducible refine (HCK.out _).mono ?_); rintro e w4 ⟨rfl, g4⟩; have G4 := G1.trans g4; obtain ⟨zx, x0', x1', x2', x3', f0, f1, f2, f3⟩ := HX.out.gr g4; obtain ⟨zy, y0, y1, y2⟩ := HY.out _ G4; obtain ⟨zd, d0, d2⟩ := HDD.out _ G4) | (go_at_call 118; (with_reducible refine (HTI.out _).mono ?_); rintro e w5 ⟨rfl, rfl⟩) | fail)
  have GQ := G4.setCell (p := ⟨w.heap.size, 1, none⟩) (Nat.le_refl _) (.int .i64 at_)
  have HXQ := Lib.hid ((HX.out.gr g4).set1 (.int .i64 at_))
  clear zx x0' x1' x2' x3' f0 f1 f2 f3 zy y0 y1 y2 zd d0 d2
  generalize w4.setCell ⟨w.heap.size, 1, none⟩ (.int .i64 at_) = wq at *
  go_region_held3 (fun w' => w'.cell? ⟨b, 0, none⟩ = some (.slice a1 P.es.length c1) ∧ w'.cell? ⟨b, 1, none⟩ = some (.slice a2 P.js.length c2) ∧ w'.cell? ⟨b, 2, none⟩ = some (.slice a3 P.ss.length c3) ∧ w'.cell? ⟨b, 3, none⟩ = some (.slice a4 P.ls.length c4) ∧ w'.cell? ⟨b, 4, none⟩ = some (.int .i64 P.top) ∧ w'.cell? ⟨b, 5, none⟩ = some (.int .i64 P.brake) ∧ w'.cell? ⟨b, 6, none⟩ = some (.int .i64 P.margin) ∧ w'.cell? ⟨b, 7, none⟩ = some (.int .i64 P.throw) ∧ w'.cell? ⟨b, 8, none⟩ = some (.bool P.hard) ∧ w'.cell? ⟨bb, o + 1 + 2, none⟩ = some (.string n)) (first | exact HS.out _ GQ | exact HS.out _ GQ.drew | exact HS.out _ (GQ.drew.trans h5) | exact HS.out _ ((GQ.drew.trans h5).setCell (Nat.le_refl _) _) | exact HS.out _ (((GQ.drew.trans h5).setCell (Nat.le_refl _) _).setCell (Nat.le_refl _) _)) (first | (go_at_call 119; (with_reducible refine (HFN.out _ GQ.drew).mono ?_); rintro e w5 ⟨rfl, h5⟩; obtain ⟨zx, x0', x1', x2', x3', f0, f1, f2, f3⟩ := HXQ.out.gr ((Gr.refl _).drew.trans h5)))
  have GZ := ((GQ.drew.trans h5).setCell (p := ⟨w.heap.size, 2, none⟩) (Nat.le_refl _) (.int .i64 3)).setCell (p := ⟨w.heap.size, 3, none⟩) (Nat.le_refl _) (.int .i64 To)
  have HXZ := Lib.hid ((HXQ.out.gr ((Gr.refl _).drew.trans h5)).set23 (.int .i64 3) (.int .i64 To))
  clear zx x0' x1' x2' x3' f0 f1 f2 f3 HX HXQ
  generalize (w5.setCell ⟨w.heap.size, 2, none⟩ (.int .i64 3)).setCell ⟨w.heap.size, 3, none⟩ (.int .i64 To) = wz at *
  obtain ⟨zx, x0', x1', x2', x3', f0, f1, f2, f3⟩ := HXZ.out
  by_cases hto : To < 0
  · have HR : Hid (R = .inl 5) := by show _ = _; rw [hA.out, if_pos hto]
    go_wp2_with fail
    (go_ret; exact RetLn.no HR.out (HG0.out.trans GZ))
  have HR := hA.out
  rw [if_neg hto] at HR
  have HRR := Lib.hid HR
  clear HR hA
  obtain ⟨A', r, u, rfl, k3a, k7, k8⟩ := runs_snoc K3.out K4.out h1
  obtain ⟨gg, rcap, hform, hgb, hglt⟩ := K2.out.form (by simp)
  simp only [Value.slice.injEq] at hform
  obtain ⟨rfl, -, rfl⟩ := hform
  have hlen : (A' ++ [(r, u)]).length = A'.length + 1 := by simp
  have K2' : OwnRn B w (.slice (some ⟨gg, 0, none⟩) (A'.length + 1) rc) (A' ++ [(r, u)]) := by rw [← hlen]; exact K2.out
  rw [hlen] at HDD HBX hAl2
  obtain ⟨hcu, hfu⟩ := run_cell K2'
  have hrl : r.legs.length ≤ 40000 := by
    have hmem : r ∈ D.runs := by rw [← K4.out]; simp
    have := (HZ.out.2.2.1 r hmem).1; omega
  obtain ⟨ua, uc, rfl⟩ := own_form k7
  obtain ⟨zd, d0, d2⟩ := HDD.out _ GZ
  have hidx : IntKind.i64.wrap (((A'.length + 1 : Nat) : Int) - 1) = (A'.length : Int) := by rw [IntWalk.i64_in _ (by omega)]; omega
  have hi0 : (0 : Int) ≤ (A'.length : Int) := Int.natCast_nonneg _
  have hi1 : (A'.length : Int) < ((A'.length + 1 : Nat) : Int) := by omega
  have K3A := Lib.hid k3a
  have K7 := Lib.hid k7
  clear k3a k7 K2 K3 t1
  go_upto_region 20 with fail
  have hcb := fun (i : GrW wz) (o : Nat) => GrW.cell zd i o
  (refine wp_region_gr (by kernel_rfl) (by kernel_rfl) ?_; (repeat (go_big_quiet_step (fail))); refine wpQuiet_nil ?_; intro wz hz; obtain ⟨iz, hz⟩ := hz; obtain ⟨wn, gn⟩ := iz; dsimp only at hz; obtain rfl := hz.symm)
  have GN := GZ.trans gn
  have HXN := Lib.hid (HXZ.out.gr gn)
  clear hcb zx x0' x1' x2' x3' f0 f1 f2 f3 zd d0 d2
  obtain ⟨zx, x0', x1', x2', x3', f0, f1, f2, f3⟩ := HXN.out
  have zg : gg < w.heap.size := hglt
  have cu := (GN.cell _ _ zg).trans hcu
  have fu := (GN.frozen gg (A'.length * 5 + 4) zg).trans (hfu _)
  have KK7 := Lib.hid (own_gr K7.out GN)
  have hfar2 : (Value.slice ua r.legs.length uc).ownBlock ≠ some gg := fun e => by
    rcases own_diff K7.out K2' (by decide) with h | h
    · rw [h] at e; cases e
    · exact h (by rw [e]; rfl)
  have hfar3 : (Value.slice ua r.legs.length uc).ownBlock ≠ some w.heap.size := fun e => by
    have := own_lt K7.out _ e; omega
  have hMz : M ≤ wn.heap.size := Nat.le_trans k5 GN.size
  obtain ⟨i0, j0, j1, j2, j3⟩ := info_parts Tryz.infoLg
  have K7' := K7
  clear K7
  go_upto_region 21 with fail
  have zgn := Nat.lt_of_lt_of_le zg GN.size
  go_region_law ((refine step_append_lies _ (by rfl) _ _ _ (by rfl) M 54 i0 _ 4 32 Tryz.underlying49 j0 j1 j2 j3 rfl (by omega) (.slice ua r.legs.length uc) r.legs.length (r.legs.flatMap Leg.cs) (by rfl) ((KK7.out.alloc _).drew) ⟨wn.heap.size, 0, none⟩ 1 1 [.bool true, .int .i64 at_, .int .i64 3, .int .i64 To] (by rfl) (by rfl) (World.news_of_block (cs := #[.bool true, .int .i64 at_, .int .i64 3, .int .i64 To]) (t := 54) (fr := (0, 0)) (heap_alloc_new wn _)) (by simp [Value.oneCell']) (by omega) (by unfold maxLen; omega) (by omega) (by simp; omega) (wn.heap.size + 1) (by simp) ?_; intro g9 cap w9 hown hgrow hat hlt; have cu9 := (hgrow.cell_far ⟨gg, A'.length * 5 + 4, none⟩ (by simp; omega) (Ne.symm hfar2)); have fu9 := (hgrow.frozen_far ⟨gg, A'.length * 5 + 4, none⟩ (by simp; omega) (Ne.symm hfar2))))
  all_goals go_wp2_with fail
  all_goals go_ret
  all_goals exact leg_end (x := ⟨true, at_, 3, To⟩) (by decide) (by decide) HBX.out K1.out K2' K3A.out K7'.out (by unfold maxLen; omega) K4.out k5 k6 hbB hkB hkb hgb HKB.out HG0.out hb (GN.trans ((Gr.refl wn).alloc _).drew) HRR.out hgrow hown
end Go.Proofs.YtgjnlgcdpbilfaaGreatDoor
