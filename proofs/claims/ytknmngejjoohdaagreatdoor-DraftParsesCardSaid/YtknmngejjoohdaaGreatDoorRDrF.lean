/- (*reader).join, (*reader).signal. -/
import Derived.Test.YtknmngejjoohdaaGreatDoorRows
import Derived.Test.YtknmngejjoohdaaGreatDoorRDrE
import Derived.Test.YtknmngejjoohdaaGreatDoorB13
import Derived.Deep.AppendLies
import Derived.Deep.RegionLaw
namespace Go.Proofs.YtknmngejjoohdaaGreatDoor
open Go.ChangeShapes Go.WideShapes Go.ChangeAt Go.RowKit Go.Maps
set_option linter.unusedVariables false
set_option linter.unusedSimpArgs false
theorem slice_one (b o n c : Nat) (hn : 2 ≤ n) (hc : n ≤ c) (w' : World) : (Instr.slice 57 (.slice (some ⟨b, o, none⟩) n c) (some (.int .i64 1)) none none).run Tryz.prog w' = .ok (.slice (some ⟨b, o + 1, none⟩) (n - 1) (c - 1)) w' := by
  rw [run_slice_l (w := w') (P := Tryz.prog) 57 _ n c (by kernel_rfl) .i64 1 (by omega) (by omega)]
  have hs : (sizeOf (Tryz.prog.elem 57)).run Tryz.prog w' = .ok 1 w' := by kernel_rfl
  rw [hs]
  simp only [Result.andThen, sliced]
  rw [show Int.toNat 1 = 1 from rfl, if_neg (by omega)]
  rfl
theorem OwnPr.row {B : Nat} {w : World} {v : Value} {L : List Prt} (h : OwnPr B w v L) (hl : L.length ≤ maxLen) : IsRow w v 2 L.length (fun i j => if j = 0 then .int .i64 (L.getD i default).e else .int .i64 (L.getD i default).x) := row_of_own h hl fun i j hi hj => by
  rw [flat_get Prt.cs 2 (fun _ => rfl) L i j hi hj, getD_at _ _ hi]
  match j, hj with
  | 0, _ => rfl
  | 1, _ => rfl
theorem OwnPr.one {B : Nat} {w : World} {v : Value} {x : Prt} (h : OwnPr B w v [x]) : ∃ g o c, v = .slice (some ⟨g, o, none⟩) 1 c ∧ g < w.heap.size ∧ w.cell? ⟨g, o, none⟩ = some (.int .i64 x.e) ∧ w.cell? ⟨g, o + 1, none⟩ = some (.int .i64 x.x) := by
  have hr := OwnPr.row h (by unfold maxLen; simp)
  obtain ⟨a, c, rfl, -, hx⟩ := id hr
  obtain ⟨g, o, rfl, hg, hc⟩ := IsRow.at hr 0 (by simp)
  exact ⟨g, o, c, rfl, hg, hc 0 (by omega), hc 1 (by omega)⟩
theorem OwnPr.two {B : Nat} {w : World} {v : Value} {x y : Prt} (h : OwnPr B w v [x, y]) : ∃ g o c, v = .slice (some ⟨g, o, none⟩) 2 c ∧ g < w.heap.size ∧ w.cell? ⟨g, o, none⟩ = some (.int .i64 x.e) ∧ w.cell? ⟨g, o + 1, none⟩ = some (.int .i64 x.x) ∧ w.cell? ⟨g, o + 2, none⟩ = some (.int .i64 y.e) ∧ w.cell? ⟨g, o + 2 + 1, none⟩ = some (.int .i64 y.x) := by
  have hr := OwnPr.row h (by unfold maxLen; simp)
  obtain ⟨a, c, rfl, -, hx⟩ := id hr
  rcases hx with hx | ⟨g, o, rfl, hg, hc⟩
  · simp at hx
  · exact ⟨g, o, c, rfl, hg, hc 0 0 (by simp) (by omega), hc 0 1 (by simp) (by omega), hc 1 0 (by simp) (by omega), hc 1 1 (by simp) (by omega)⟩
theorem portsR_err {P : Pln} {L : List ByteArray} {n : Int} (h : portsR P L = .inl n) : n ≠ 0 := by
  unfold portsR at h
  split at h
  · cases h; decide
  split at h
  · cases h; decide
  · cases h
theorem join_ports (P : Pln) (v a b : ByteArray) : joinW P [v, a, b] = match portsR P [a, b] with | .inl n => .inl n | .inr _ => .inr { P with js := P.js ++ [⟨portD P a, portD P b⟩] } := by
  unfold joinW portsR portD portO
  simp only [List.any_cons, List.any_nil, Bool.or_false]
  cases portB a <;> cases portB b <;> simp
  cases portP P a <;> cases portP P b <;> simp
theorem sig3_ports (P : Pln) (n p : ByteArray) (au : Bool) (hn : nmB n = true) : sig3 P n p au = match portsR P [p] with | .inl n => .inl n | .inr _ => .inr { P with ss := P.ss ++ [⟨n, portD P p, au⟩] } := by
  unfold sig3 portsR portD portO
  simp only [List.any_cons, List.any_nil, Bool.or_false]
  cases portB p <;> simp [hn]
  cases portP P p <;> simp
theorem joinW_len {P : Pln} {L : List ByteArray} (h : L.length ≠ 3) : joinW P L = .inl 2 := by
  match L, h with
  | [], _ => rfl
  | [_], _ => rfl
  | [_, _], _ => rfl
  | [_, _, _], h => exact absurd rfl h
  | _ :: _ :: _ :: _ :: _, _ => rfl
theorem portsR_inr {P : Pln} {L : List ByteArray} {Q : List Prt} (h : portsR P L = .inr Q) : Q = L.map (portD P) := by
  unfold portsR at h
  split at h
  · cases h
  split at h
  · cases h
  · cases h; rfl
set_option maxRecDepth 100000 in
set_option maxHeartbeats 4000000 in
theorem rdJoin_any (b B k : Nat) (h0 : Option Obj) (v : Value) (L : List ByteArray) (P : Pln) (w0 w : World) (hb : w0.heap.size ≤ b) (g : Gr w0 w) (hK : KL k h0 w) (hkB : k < B) (hkb : k ≠ b) (hR : RdP 72 b B w P (some true)) (hv : IsVals w v (L.map Value.string)) (hc : CapOk v) (hne : L ≠ []) (hs : ∀ y ∈ L, y.size ≤ 1048576) (hz : SzP 1000000 P) :
    Calls Tryz.prog 75 #[.pointer (some ⟨b, 0, none⟩), v] w ((RetR 72 w0 b B (KL k h0) (some true)) (joinW P L)) := by
  obtain ⟨bb, o, c, rfl, hbb, hlm, HC⟩ := vals_form hv hne
  unfold maxLen at hlm
  by_cases h3 : L.length = 3
  rotate_left
  · have HR := Lib.hid (joinW_len (P := P) h3)
    generalize joinW P L = R at HR ⊢
    have t3 : ((L.length : Int) != 3) = true := bneT (by omega)
    clear hv HC hc h3 hR hK
    generalize L.length = n at *
    go_enter Tryz.func75, Tryz.ntmps75
    go_wp2_with fail
    go_ret
    exact RetR.no HR.out g
  obtain ⟨x0, xa, xb, rfl⟩ : ∃ x y z, L = [x, y, z] := by
    match L, h3 with
    | [x, y, z], _ => exact ⟨x, y, z, rfl⟩
  simp only [List.length_cons, List.length_nil] at *
  have hcap : 3 ≤ c := hc _ _ _ rfl
  have y1 := HC.out 1 (by omega)
  have y2 := HC.out 2 (by omega)
  have hv2 : IsVals w (.slice (some ⟨bb, o + 1, none⟩) 2 (c - 1)) ([xa, xb].map Value.string) := ⟨_, c - 1, rfl, by unfold maxLen; simp, .inr ⟨bb, o + 1, rfl, hbb, fun i x hi => by
    match i, hi with
    | 0, hi => cases hi; exact y1
    | 1, hi => cases hi; exact y2⟩⟩
  have HSL := slice_one bb o 3 c (by omega) hcap
  have hP := rdPorts_any b B _ [xa, xb] P w hR hv2 (fun y hy => hs y (by simp only [List.mem_cons, List.not_mem_nil, or_false] at hy ⊢; rcases hy with rfl | rfl <;> simp)) (by simp) (by have := hz.es; unfold maxLen; omega) (by have := hz.js; unfold maxLen; omega) (by have := hz.ss; unfold maxLen; omega) (by have := hz.ls; unfold maxLen; omega)
  rw [join_ports]
  have hze := hz.js
  clear hv HC hc hs h3 y1 y2 hv2 hz
  cases hq : portsR P [xa, xb] with
  | inl n =>
    rw [hq] at hP
    have HR : Hid ((.inl n : Int ⊕ Pln) = .inl n) := rfl
    have tn : (n == 0) = false := beqF (portsR_err hq)
    have HPS : Hid (Calls Tryz.prog 137 #[.pointer (some ⟨b, 0, none⟩), .slice (some ⟨bb, o + 1, none⟩) 2 (c - 1)] w fun e w'' => e = .returned (.tuple #[.slice none 0 0, .int .i64 n]) ∧ Gr w w'') := hP
    dsimp only
    clear hP hq hR hK
    go_enter Tryz.func75, Tryz.ntmps75
    go_wp2_with (first | (go_at_call 137; (with_reducible refine (HPS.out).mono ?_); rintro e w4 ⟨rfl, g4⟩) | fail)
    go_ret
    first | exact RetR.no rfl (g.trans g4) | exact RetR.no HR.out (g.trans g4)
  | inr Q =>
    rw [hq] at hP
    have hQ := portsR_inr hq
    subst hQ
    have HPS : Hid (Calls Tryz.prog 137 #[.pointer (some ⟨b, 0, none⟩), .slice (some ⟨bb, o + 1, none⟩) 2 (c - 1)] w fun e w'' => ∃ v, e = .returned (.tuple #[v, .int .i64 0]) ∧ OwnPr w.heap.size w'' v [portD P xa, portD P xb] ∧ Gr w w'') := hP
    dsimp only
    obtain ⟨R, hR9⟩ : ∃ R : Int ⊕ Pln, R = .inr { P with js := P.js ++ [⟨portD P xa, portD P xb⟩] } := ⟨_, rfl⟩
    rw [← hR9]
    have HR := Lib.hid hR9
    clear hR9
    clear hP hq
    generalize portD P xa = pa at *
    generalize portD P xb = pb at *
    have HRD := Lib.hid hR
    have HKK := Lib.hid hK
    clear hR hK
    go_enter Tryz.func75, Tryz.ntmps75
    go_upto_region 5 with (first | (go_at_call 137; (with_reducible refine (HPS.out).mono ?_); rintro e w4 ⟨pv, rfl, hpv, g4⟩; obtain ⟨gp, op, cp, rfl, zp, x0, x1, x2, x3⟩ := OwnPr.two hpv) | fail)
    obtain ⟨e, j, s, l, h1, h2⟩ := HRD.out.gr g4
    have zb := h1.lt
    obtain ⟨hbB, hBz, k1, k2, k3⟩ := id h2
    obtain ⟨ja, jc, rfl⟩ := own_form k2
    have c1 := h1.2.1.2.2.1
    have fz := h1.frozen 1
    have hfar := bp_far h1 k2 (by decide)
    have H1 := Lib.hid h1
    have H2 := Lib.hid h2
    have K2 := Lib.hid k2
    have HKQ := Lib.hid (HKK.out.gr g4)
    have GQ := g.trans g4
    clear h1 h2 k1 k2 k3 HRD HKK HSL hpv
    obtain ⟨i0, hi0, hi1, hi2, hi3⟩ := info_parts Tryz.infoJn
    obtain ⟨pe, px⟩ := pa
    obtain ⟨qe, qx⟩ := pb
    dsimp only at x0 x1 x2 x3
    go_region_law ((refine step_append_lies _ (by rfl) _ _ _ (by rfl) B 82 i0 _ 4 32 Tryz.underlying24 hi0 hi1 hi2 hi3 rfl (by decide) (.slice ja P.js.length jc) P.js.length (P.js.flatMap Jn.cs) (by rfl) ((own_gr K2.out ((Gr.refl _).alloc _)).drew) ⟨w4.heap.size, 0, none⟩ 1 1 [.int .i64 pe, .int .i64 px, .int .i64 qe, .int .i64 qx] (by rfl) (by rfl) (World.news_of_block (heap_alloc_new w4 _)) (by simp [Value.oneCell']) (by omega) (by unfold maxLen; omega) (by omega) (by simp; omega) (w4.heap.size + 1) (by simp) ?_; intro gg cap w9 hown hgrow hat hlt; have cu9 := (hgrow.cell_far ⟨b, 1, none⟩ (by simp; omega) (by simpa using Ne.symm hfar)); have fu9 := (hgrow.frozen_far ⟨b, 1, none⟩ (by simp; omega) (by simpa using Ne.symm hfar))))
    all_goals go_wp2_with fail
    all_goals go_ret
    all_goals exact join_end (x := ⟨⟨pe, px⟩, ⟨qe, qx⟩⟩) (by decide) hkB hkb H1.out H2.out HKQ.out GQ hb (((Gr.refl w4).alloc _).drew) HR.out hgrow hown
theorem signalW_len {P : Pln} {L : List ByteArray} (h3 : L.length ≠ 3) (h4 : L.length ≠ 4) : signalW P L = .inl 2 := by
  match L, h3, h4 with
  | [], _, _ => rfl
  | [_], _, _ => rfl
  | [_, _], _, _ => rfl
  | [_, _, _], h, _ => exact absurd rfl h
  | [_, _, _, _], _, h => exact absurd rfl h
  | _ :: _ :: _ :: _ :: _ :: _, _, _ => rfl
theorem autoL : bAuto.toList = [97, 117, 116, 111] := by rw [ByteArray.toList_eq]; rfl
set_option maxRecDepth 100000 in
set_option maxHeartbeats 4000000 in
/-- the part behind the tests: three words, or four -/
theorem rdSig_go (b B k : Nat) (h0 : Option Obj) (bb o c n : Nat) (xn xp : ByteArray) (au : Bool) (P : Pln) (w0 w : World) (hb : w0.heap.size ≤ b) (g : Gr w0 w) (hK : KL k h0 w) (hkB : k < B) (hkb : k ≠ b) (hR : RdP 72 b B w P (some true)) (hbb : bb < w.heap.size) (y1 : w.cell? ⟨bb, o + 1, none⟩ = some (.string xn)) (y2 : w.cell? ⟨bb, o + 2, none⟩ = some (.string xp))
    (hn : n = 3 ∧ au = false ∨ n = 4 ∧ au = true ∧ w.cell? ⟨bb, o + 3, none⟩ = some (.string bAuto)) (hs1 : xn.size ≤ maxLen) (hs2 : xp.size ≤ 1048576) (hz : SzP 1000000 P) :
    Calls Tryz.prog 76 #[.pointer (some ⟨b, 0, none⟩), .slice (some ⟨bb, o, none⟩) n c] w ((RetR 72 w0 b B (KL k h0) (some true)) (sig3 P xn xp au)) := by
  have HNM := Lib.hid (fun w' => name_any xn hs1 w')
  have hA := autoL
  have ta : (bAuto.toList == [97, 117, 116, 111]) = true := by rw [hA]; rfl
  have ta2 : (bAuto.toList != [97, 117, 116, 111]) = false := by rw [hA]; rfl
  clear hA
  cases hq : nmB xn
  · have HR : Hid (sig3 P xn xp au = .inl 2) := by show _ = _; unfold sig3; rw [if_neg (by rw [hq]; simp)]
    rw [hq] at HNM
    generalize sig3 P xn xp au = R at HR ⊢
    clear hR hK
    rcases hn with ⟨rfl, rfl⟩ | ⟨rfl, rfl, y3⟩
    all_goals
      go_enter Tryz.func76, Tryz.ntmps76
      go_wp2_with (first | (go_at_call 132; (with_reducible refine (HNM.out _).mono ?_); rintro e w5 ⟨rfl, hq⟩; obtain rfl := hq.symm) | fail)
      go_ret
      exact RetR.no HR.out g
  rw [hq] at HNM
  rw [sig3_ports P xn xp au hq]
  have hze := hz.ss
  have gA : Gr w (w.alloc (.cells #[.string xp] 9)) := (Gr.refl _).alloc _
  have hlit : IsVals (w.alloc (.cells #[.string xp] 9)) (.slice (some ⟨w.heap.size, 0, none⟩) 1 1) ([xp].map Value.string) := ⟨_, 1, rfl, by unfold maxLen; simp, .inr ⟨w.heap.size, 0, rfl, by simp, fun i x hi => by
    match i, hi with
    | 0, hi => cases hi; rw [World.cell?_alloc_mark]; rfl⟩⟩
  have hP := rdPorts_any b B _ [xp] P _ (hR.gr gA) hlit (fun y hy => by obtain rfl := List.mem_singleton.1 hy; exact hs2) (by simp) (by have := hz.es; unfold maxLen; omega) (by have := hz.js; unfold maxLen; omega) (by have := hz.ss; unfold maxLen; omega) (by have := hz.ls; unfold maxLen; omega)
  clear hs1 hs2 hz hq hlit
  cases hq : portsR P [xp] with
  | inl m =>
    rw [hq] at hP
    have HR : Hid ((.inl m : Int ⊕ Pln) = .inl m) := rfl
    have tn : (m == 0) = false := beqF (portsR_err hq)
    have HPS : Hid (Calls Tryz.prog 137 #[.pointer (some ⟨b, 0, none⟩), .slice (some ⟨w.heap.size, 0, none⟩) 1 1] (w.alloc (.cells #[.string xp] 9)) fun e w'' => e = .returned (.tuple #[.slice none 0 0, .int .i64 m]) ∧ Gr (w.alloc (.cells #[.string xp] 9)) w'') := hP
    dsimp only
    clear hP hq hR hK
    rcases hn with ⟨rfl, rfl⟩ | ⟨rfl, rfl, y3⟩
    all_goals
      go_enter Tryz.func76, Tryz.ntmps76
      go_wp2_with (first | (go_at_call 132; (with_reducible refine (HNM.out _).mono ?_); rintro e w5 ⟨rfl, hq⟩; obtain rfl := hq.symm) | (go_at_call 137; (with_reducible refine (HPS.out).mono ?_); rintro e w4 ⟨rfl, g4⟩) | fail)
      go_ret
      first | exact RetR.no rfl (g.trans (gA.trans g4)) | exact RetR.no HR.out (g.trans (gA.trans g4))
  | inr Q =>
    rw [hq] at hP
    have hQ := portsR_inr hq
    subst hQ
    have HPS : Hid (Calls Tryz.prog 137 #[.pointer (some ⟨b, 0, none⟩), .slice (some ⟨w.heap.size, 0, none⟩) 1 1] (w.alloc (.cells #[.string xp] 9)) fun e w'' => ∃ v, e = .returned (.tuple #[v, .int .i64 0]) ∧ OwnPr (w.alloc (.cells #[.string xp] 9)).heap.size w'' v [portD P xp] ∧ Gr (w.alloc (.cells #[.string xp] 9)) w'') := hP
    dsimp only
    obtain ⟨R, hR9⟩ : ∃ R : Int ⊕ Pln, R = .inr { P with ss := P.ss ++ [⟨xn, portD P xp, au⟩] } := ⟨_, rfl⟩
    rw [← hR9]
    have HR := Lib.hid hR9
    clear hR9
    clear hP hq
    generalize portD P xp = pa at *
    obtain ⟨pe, px⟩ := pa
    have HRD := Lib.hid hR
    have HKK := Lib.hid hK
    have YN := Lib.hid (fun (w' : World) (g : Gr w w') => (g.cell _ (o + 1) hbb).trans y1)
    clear hR hK
    rcases hn with ⟨rfl, rfl⟩ | ⟨rfl, rfl, y3⟩
    all_goals
      go_enter Tryz.func76, Tryz.ntmps76
      go_upto_region 5 with (first | (go_at_call 132; (with_reducible refine (HNM.out _).mono ?_); rintro e w5 ⟨rfl, hq⟩; obtain rfl := hq.symm) | (go_at_call 137; (with_reducible refine (HPS.out).mono ?_); rintro e w4 ⟨pv, rfl, hpv, g4⟩; obtain ⟨gp, op, cp, rfl, zp, x0, x1⟩ := OwnPr.one hpv) | fail)
      have G4 := gA.trans g4
      obtain ⟨e, j, s, l, h1, h2⟩ := HRD.out.gr G4
      have zb := h1.lt
      obtain ⟨hbB, hBz, k1, k2, k3, -⟩ := id h2
      obtain ⟨sa, sc, rfl⟩ := own_form k3
      have c2 := h1.2.1.2.2.2.1
      have fz := h1.frozen 2
      have hfar := bp_far h1 k3 (by decide)
      have H1 := Lib.hid h1
      have H2 := Lib.hid h2
      have K3 := Lib.hid k3
      have HKQ := Lib.hid (HKK.out.gr G4)
      have GQ := g.trans G4
      have yn := YN.out _ G4
      have zbb := Nat.lt_of_lt_of_le hbb G4.size
      clear h1 h2 k1 k2 k3 HRD HKK hpv y1 y2
      obtain ⟨i0, hi0, hi1, hi2, hi3⟩ := info_parts Tryz.infoSg
      try dsimp only at x0 x1
      go_region_law ((refine step_append_lies _ (by rfl) _ _ _ (by rfl) B 84 i0 _ 4 40 Tryz.underlying25 hi0 hi1 hi2 hi3 rfl (by decide) (.slice sa P.ss.length sc) P.ss.length (P.ss.flatMap Sg.cs) (by rfl) ((own_gr K3.out ((Gr.refl _).alloc _)).drew) ⟨w4.heap.size, 0, none⟩ 1 1 [.string xn, .int .i64 pe, .int .i64 px, .bool _] (by rfl) (by rfl) (World.news_of_block (heap_alloc_new w4 _)) (by simp [Value.oneCell']) (by omega) (by unfold maxLen; omega) (by omega) (by simp; omega) (w4.heap.size + 1) (by simp) ?_; intro gg cap w9 hown hgrow hat hlt; have cu9 := (hgrow.cell_far ⟨b, 2, none⟩ (by simp; omega) (by simpa using Ne.symm hfar)); have fu9 := (hgrow.frozen_far ⟨b, 2, none⟩ (by simp; omega) (by simpa using Ne.symm hfar))))
      all_goals go_wp2_with fail
      all_goals go_ret
      all_goals exact signal_end (x := ⟨xn, ⟨pe, px⟩, _⟩) (by decide) hkB hkb H1.out H2.out HKQ.out GQ hb (((Gr.refl w4).alloc _).drew) HR.out hgrow hown
end Go.Proofs.YtknmngejjoohdaaGreatDoor
