/- DgJ: diagram.told (printed by gen_dgj.py). -/
import Derived.Test.YtgjnlgcdpbilfaaGreatDoorRows
import Derived.Test.YtgjnlgcdpbilfaaGreatDoorB14
import Derived.Test.YtgjnlgcdpbilfaaGreatDoorB12
import Derived.Test.YtgjnlgcdpbilfaaGreatDoorB8
import Derived.Test.YtgjnlgcdpbilfaaGreatDoorB9
namespace Go.Proofs.YtgjnlgcdpbilfaaGreatDoor
open Go.ChangeShapes Go.WideShapes Go.ChangeAt Go.RowKit Go.Maps
set_option linter.unusedVariables false
set_option linter.unusedSimpArgs false
theorem news_at (w : World) {g : Nat} (hg : g = w.heap.size) (us : List Value) (T : TypeId) : ∀ j u, us[j]? = some u → (w.alloc (.cells us.toArray T)).cell? ((⟨g, 0, none⟩ : Addr).add j) = some u := by
  subst hg
  intro j u h
  rw [Go.WideShapes.add_plain, World.cell?_alloc_mark]
  simpa using h
theorem join_own {B : Nat} {w : World} {v : Value} {L : List ByteArray} (h : OwnS B w v L) (hne : L ≠ []) (hs : (jnW L).size ≤ 1000000) (hl : L.length ≤ 1000) :
    Calls Tryz.prog 80 #[v, .string ⟨#[32]⟩] w fun e w' => e = .returned (.string (jnW L)) ∧ Gr w w' := by
  have hv := h.vals (by unfold maxLen; omega)
  have hcp := h.cap
  obtain ⟨a, c, rfl, -, hx⟩ := hv
  have hc := hcp _ _ _ rfl
  rw [List.length_map] at hc ⊢
  rcases hx with hx | ⟨bb, o, rfl, hbb, hcell⟩
  · exact absurd (List.length_eq_zero_iff.1 (by simpa using hx)) hne
  · have e : (⟨(Lib.join (L.map (·.data.toList)) [32]).toArray⟩ : ByteArray) = jnW L := rfl
    have := Tryz.strings_Join bb o c L ⟨#[32]⟩ w (fun j x hj => hcell j _ (by rw [List.getElem?_map, hj]; rfl)) hbb (by omega) hc (by
      have h1 : (Lib.join (L.map (·.data.toList)) [32]).length = (jnW L).size := by rw [← e]; rfl
      show (Lib.join _ [32]).length ≤ _
      rw [h1]; omega)
    exact this
set_option maxRecDepth 100000 in
set_option maxHeartbeats 2000000 in
theorem toldGoT_any (pv : Value) (P : Pln) (beg : Int) (s1 s2 : Option Addr) (ns nr k1 k2 : Nat) (at_ : Int) (j : Nat) (w : World) (hP : IsPln w pv P) (hj : j < P.ss.length) (hs : (jnW (wordsL P beg ⟨true, at_, 1, j⟩)).size ≤ 1000) :
    Calls Tryz.prog 47 #[pv, .agg #[.int .i64 beg, .slice s1 ns k1, .slice s2 nr k2], .agg #[.bool true, .int .i64 at_, .int .i64 1, .int .i64 (j : Int)]] w fun e w' => e = .returned (.string (jnW (wordsL P beg ⟨true, at_, 1, j⟩) ++ ⟨#[10]⟩)) ∧ Gr w w' := by
  have HPI := Lib.hid hP
  obtain ⟨a1, c1, a2, c2, a3, c3, a4, c4, rfl, h1, -, h3, -⟩ := hP
  have hm1 := IsRow.len h1
  have hm3 := IsRow.len h3
  unfold maxLen at hm1 hm3
  obtain ⟨bb, o, hsl, hb0, hc0, -⟩ := h3.at j hj
  subst hsl
  have g0 : Gr w (((w.alloc (.cells #[.slice a1 P.es.length c1, .slice a2 P.js.length c2, .slice (some ⟨bb, o, none⟩) P.ss.length c3, .slice a4 P.ls.length c4, .int .i64 P.top, .int .i64 P.brake, .int .i64 P.margin, .int .i64 P.throw, .bool P.hard] 27)).alloc (.cells #[.int .i64 beg, .slice s1 ns k1, .slice s2 nr k2] 31)).alloc (.cells #[.bool true, .int .i64 at_, .int .i64 1, .int .i64 (j : Int)] 54)) := (((Gr.refl _).alloc _).alloc _).alloc _
  have HX : Hid (∀ w', Gr (((w.alloc (.cells #[.slice a1 P.es.length c1, .slice a2 P.js.length c2, .slice (some ⟨bb, o, none⟩) P.ss.length c3, .slice a4 P.ls.length c4, .int .i64 P.top, .int .i64 P.brake, .int .i64 P.margin, .int .i64 P.throw, .bool P.hard] 27)).alloc (.cells #[.int .i64 beg, .slice s1 ns k1, .slice s2 nr k2] 31)).alloc (.cells #[.bool true, .int .i64 at_, .int .i64 1, .int .i64 (j : Int)] 54)) w' → w.heap.size + 1 + 1 < w'.heap.size ∧ w.heap.size + 1 < w'.heap.size ∧ w.heap.size < w'.heap.size ∧ w'.cell? ⟨w.heap.size, 0, none⟩ = some (.slice a1 P.es.length c1) ∧ w'.cell? ⟨w.heap.size, 2, none⟩ = some (.slice (some ⟨bb, o, none⟩) P.ss.length c3) ∧ w'.cell? ⟨w.heap.size + 1, 0, none⟩ = some (.int .i64 beg) ∧ w'.cell? ⟨w.heap.size + 1 + 1, 0, none⟩ = some (.bool true) ∧ w'.cell? ⟨w.heap.size + 1 + 1, 1, none⟩ = some (.int .i64 at_) ∧ w'.cell? ⟨w.heap.size + 1 + 1, 2, none⟩ = some (.int .i64 1) ∧ w'.cell? ⟨w.heap.size + 1 + 1, 3, none⟩ = some (.int .i64 (j : Int))) := fun w' g => by
    have z2 : w.heap.size + 1 + 1 < ((((w.alloc (.cells #[.slice a1 P.es.length c1, .slice a2 P.js.length c2, .slice (some ⟨bb, o, none⟩) P.ss.length c3, .slice a4 P.ls.length c4, .int .i64 P.top, .int .i64 P.brake, .int .i64 P.margin, .int .i64 P.throw, .bool P.hard] 27)).alloc (.cells #[.int .i64 beg, .slice s1 ns k1, .slice s2 nr k2] 31)).alloc (.cells #[.bool true, .int .i64 at_, .int .i64 1, .int .i64 (j : Int)] 54))).heap.size := by simp
    have z1 : w.heap.size + 1 < ((((w.alloc (.cells #[.slice a1 P.es.length c1, .slice a2 P.js.length c2, .slice (some ⟨bb, o, none⟩) P.ss.length c3, .slice a4 P.ls.length c4, .int .i64 P.top, .int .i64 P.brake, .int .i64 P.margin, .int .i64 P.throw, .bool P.hard] 27)).alloc (.cells #[.int .i64 beg, .slice s1 ns k1, .slice s2 nr k2] 31)).alloc (.cells #[.bool true, .int .i64 at_, .int .i64 1, .int .i64 (j : Int)] 54))).heap.size := by omega
    have z0 : w.heap.size < ((((w.alloc (.cells #[.slice a1 P.es.length c1, .slice a2 P.js.length c2, .slice (some ⟨bb, o, none⟩) P.ss.length c3, .slice a4 P.ls.length c4, .int .i64 P.top, .int .i64 P.brake, .int .i64 P.margin, .int .i64 P.throw, .bool P.hard] 27)).alloc (.cells #[.int .i64 beg, .slice s1 ns k1, .slice s2 nr k2] 31)).alloc (.cells #[.bool true, .int .i64 at_, .int .i64 1, .int .i64 (j : Int)] 54))).heap.size := by omega
    have := g.size
    exact ⟨by omega, by omega, by omega, (g.cell _ _ z0).trans (by go_simp), (g.cell _ _ z0).trans (by go_simp), (g.cell _ _ z1).trans (by go_simp), (g.cell _ _ z2).trans (by go_simp), (g.cell _ _ z2).trans (by go_simp), (g.cell _ _ z2).trans (by go_simp), (g.cell _ _ z2).trans (by go_simp)⟩
  have HAD := Lib.hid (fun w' => add_any beg at_ w')
  have HPR : Hid (∀ w', Calls Tryz.prog 45 #[.int .i64 ((beg + at_) % 86400)] w' fun e w'' => e = .returned (.string (clkT ((beg + at_) % 86400))) ∧ Gr w' w'') := fun w' => by
    have := print_any ((beg + at_) % 86400) w'
    rw [Int.emod_emod] at this
    exact this
  have HN : Hid (∀ w', Gr w w' → bb < w'.heap.size ∧ w'.cell? ⟨bb, o + j * 4, none⟩ = some (.string P.ss[j].n)) := fun w' g => ⟨Nat.lt_of_lt_of_le hb0 g.size, (g.cell _ _ hb0).trans hc0⟩
  have hw : wordsL P beg ⟨true, at_, 1, j⟩ = [bTurn, bGo, clkT ((beg + at_) % 86400), P.ss[j].n] := by
    have e2 : nameTo P ⟨true, at_, 1, j⟩ = P.ss[j].n := by
      show (P.ss.getD ((j : Int)).toNat default).n = _
      rw [Int.toNat_natCast, getD_at _ _ hj]
    unfold wordsL
    rw [e2]
    rfl
  have HS := Lib.hid hs
  rw [hw] at HS ⊢
  have hz3 : ((((w.alloc (.cells #[.slice a1 P.es.length c1, .slice a2 P.js.length c2, .slice (some ⟨bb, o, none⟩) P.ss.length c3, .slice a4 P.ls.length c4, .int .i64 P.top, .int .i64 P.brake, .int .i64 P.margin, .int .i64 P.throw, .bool P.hard] 27)).alloc (.cells #[.int .i64 beg, .slice s1 ns k1, .slice s2 nr k2] 31)).alloc (.cells #[.bool true, .int .i64 at_, .int .i64 1, .int .i64 (j : Int)] 54))).heap.size = w.heap.size + 1 + 1 + 1 := by simp
  have HZ3 := Lib.hid hz3
  clear hz3
  have HO0 : Hid (((((w.alloc (.cells #[.slice a1 P.es.length c1, .slice a2 P.js.length c2, .slice (some ⟨bb, o, none⟩) P.ss.length c3, .slice a4 P.ls.length c4, .int .i64 P.top, .int .i64 P.brake, .int .i64 P.margin, .int .i64 P.throw, .bool P.hard] 27)).alloc (.cells #[.int .i64 beg, .slice s1 ns k1, .slice s2 nr k2] 31)).alloc (.cells #[.bool true, .int .i64 at_, .int .i64 1, .int .i64 (j : Int)] 54))).ownsRow ((((w.alloc (.cells #[.slice a1 P.es.length c1, .slice a2 P.js.length c2, .slice (some ⟨bb, o, none⟩) P.ss.length c3, .slice a4 P.ls.length c4, .int .i64 P.top, .int .i64 P.brake, .int .i64 P.margin, .int .i64 P.throw, .bool P.hard] 27)).alloc (.cells #[.int .i64 beg, .slice s1 ns k1, .slice s2 nr k2] 31)).alloc (.cells #[.bool true, .int .i64 at_, .int .i64 1, .int .i64 (j : Int)] 54))).heap.size 9 1 (.slice none 0 0) 0 []) := ⟨rfl, .inl ⟨rfl, rfl⟩⟩
  generalize (beg + at_) % 86400 = T at HAD HPR HS ⊢
  generalize clkT T = ck at HPR HS ⊢
  generalize P.ss[j].n = nn at HN HS ⊢
  obtain ⟨R, hR⟩ : ∃ R, R = jnW [bTurn, bGo, ck, nn] := ⟨_, rfl⟩
  rw [← hR] at HS ⊢
  have HRE := Lib.hid hR
  clear hR
  obtain ⟨i0, hi0, hi1, hi2, hi3⟩ := info_parts Tryz.infoS
  have j0 : (0 : Int) ≤ (j : Int) := by omega
  have j1 : (j : Int) < (P.ss.length : Int) := by omega
  unfold plnV
  clear h1 h3 hs hw hb0 hc0
  go_enter Tryz.func47, Tryz.ntmps47
  go_wp2_with (first | (at_builtin; refine wpList_append_own _ rfl _ _ 55 rfl ((((w.alloc (.cells #[.slice a1 P.es.length c1, .slice a2 P.js.length c2, .slice (some ⟨bb, o, none⟩) P.ss.length c3, .slice a4 P.ls.length c4, .int .i64 P.top, .int .i64 P.brake, .int .i64 P.margin, .int .i64 P.throw, .bool P.hard] 27)).alloc (.cells #[.int .i64 beg, .slice s1 ns k1, .slice s2 nr k2] 31)).alloc (.cells #[.bool true, .int .i64 at_, .int .i64 1, .int .i64 (j : Int)] 54))).heap.size 9 i0 (.string ByteArray.empty) 1 16 Tryz.underlying55 hi0 hi1 hi2 hi3 rfl (by decide) _ _ _ rfl (HO0.out.alloc _) ⟨w.heap.size + 1 + 1 + 1, 0, none⟩ 1 1 [.string ⟨#[116, 117, 114, 110]⟩] rfl rfl ?c1 ?c2 ?c3 ?c4 ?c5 ?_) | fail)
  case c1 => exact news_at _ (by simp) [_] _
  case c2 => simp [Value.oneCell']
  case c3 => unfold maxLen; omega
  case c4 => omega
  case c5 => simp
  intro v4 w4 hown4 hgrow4 _
  have G4 : Gr (((w.alloc (.cells #[.slice a1 P.es.length c1, .slice a2 P.js.length c2, .slice (some ⟨bb, o, none⟩) P.ss.length c3, .slice a4 P.ls.length c4, .int .i64 P.top, .int .i64 P.brake, .int .i64 P.margin, .int .i64 P.throw, .bool P.hard] 27)).alloc (.cells #[.int .i64 beg, .slice s1 ns k1, .slice s2 nr k2] 31)).alloc (.cells #[.bool true, .int .i64 at_, .int .i64 1, .int .i64 (j : Int)] 54)) w4 := Gr.grown ((Gr.refl _).alloc _) hgrow4 HO0.out
  have HO4 : Hid (w4.ownsRow ((((w.alloc (.cells #[.slice a1 P.es.length c1, .slice a2 P.js.length c2, .slice (some ⟨bb, o, none⟩) P.ss.length c3, .slice a4 P.ls.length c4, .int .i64 P.top, .int .i64 P.brake, .int .i64 P.margin, .int .i64 P.throw, .bool P.hard] 27)).alloc (.cells #[.int .i64 beg, .slice s1 ns k1, .slice s2 nr k2] 31)).alloc (.cells #[.bool true, .int .i64 at_, .int .i64 1, .int .i64 (j : Int)] 54))).heap.size 9 1 v4 1 [.string ⟨#[116, 117, 114, 110]⟩]) := by show World.ownsRow _ _ _ _ _ _ _; rw [HZ3.out]; exact hown4
  obtain ⟨va, vc, rfl⟩ := own_form hown4
  (obtain ⟨zx, zy, zz, b0, b2, d0, l0, l1, l2, l3⟩ := HX.out _ G4)
  clear hown4 hgrow4
  go_wp2_with (first | (go_at_call 79; (with_reducible refine (HAD.out _).mono ?_); rintro e w' ⟨rfl, rfl⟩) | (go_at_call 45; (with_reducible refine (HPR.out _).mono ?_); rintro e w5 ⟨rfl, g5⟩; have G5 := (G4).trans g5; (obtain ⟨zx, zy, zz, b0, b2, d0, l0, l1, l2, l3⟩ := HX.out _ G5); have HO5 := Lib.hid (own_gr HO4.out g5); obtain ⟨z, y0⟩ := HN.out _ (g0.trans G5)) | (at_builtin; (refine wpList_append_own _ rfl _ _ 55 rfl ((((w.alloc (.cells #[.slice a1 P.es.length c1, .slice a2 P.js.length c2, .slice (some ⟨bb, o, none⟩) P.ss.length c3, .slice a4 P.ls.length c4, .int .i64 P.top, .int .i64 P.brake, .int .i64 P.margin, .int .i64 P.throw, .bool P.hard] 27)).alloc (.cells #[.int .i64 beg, .slice s1 ns k1, .slice s2 nr k2] 31)).alloc (.cells #[.bool true, .int .i64 at_, .int .i64 1, .int .i64 (j : Int)] 54))).heap.size 9 i0 (.string ByteArray.empty) 1 16 Tryz.underlying55 hi0 hi1 hi2 hi3 rfl (by decide) _ _ _ rfl (HO5.out.alloc _) ⟨w5.heap.size, 0, none⟩ 3 3 [.string ⟨#[103, 111]⟩, .string ck, .string nn] rfl rfl ?d1 ?d2 ?d3 ?d4 ?d5 ?_)) | fail)
  case d1 => exact news_at _ rfl [_, _, _] _
  case d2 => simp [Value.oneCell']
  case d3 => unfold maxLen; omega
  case d4 => omega
  case d5 => have := G5.size; simp at this ⊢; omega
  intro v6 w6 hown6 hgrow6 _
  have G6 : Gr (((w.alloc (.cells #[.slice a1 P.es.length c1, .slice a2 P.js.length c2, .slice (some ⟨bb, o, none⟩) P.ss.length c3, .slice a4 P.ls.length c4, .int .i64 P.top, .int .i64 P.brake, .int .i64 P.margin, .int .i64 P.throw, .bool P.hard] 27)).alloc (.cells #[.int .i64 beg, .slice s1 ns k1, .slice s2 nr k2] 31)).alloc (.cells #[.bool true, .int .i64 at_, .int .i64 1, .int .i64 (j : Int)] 54)) w6 := Gr.grown (G5.alloc _) hgrow6 HO5.out
  have HO6 : Hid (OwnS ((((w.alloc (.cells #[.slice a1 P.es.length c1, .slice a2 P.js.length c2, .slice (some ⟨bb, o, none⟩) P.ss.length c3, .slice a4 P.ls.length c4, .int .i64 P.top, .int .i64 P.brake, .int .i64 P.margin, .int .i64 P.throw, .bool P.hard] 27)).alloc (.cells #[.int .i64 beg, .slice s1 ns k1, .slice s2 nr k2] 31)).alloc (.cells #[.bool true, .int .i64 at_, .int .i64 1, .int .i64 (j : Int)] 54))).heap.size w6 v6 ([bTurn, bGo, ck, nn])) := by show World.ownsRow _ _ _ _ _ _ _; rw [HZ3.out]; exact hown6
  obtain ⟨va6, vc6, rfl⟩ := own_form hown6
  have HJ : Hid (Calls Tryz.prog 80 #[.slice va6 4 vc6, .string ⟨#[32]⟩] w6 fun e w' => e = .returned (.string R) ∧ Gr w6 w') := by
    have := join_own HO6.out (by simp) (by rw [← HRE.out]; have := HS.out; omega) (by simp)
    rw [← HRE.out] at this
    exact this
  have hR : R.size ≤ 1000 := HS.out
  have q1 : ¬ 9223372036854775807 < R.size + 1 := by omega
  clear hown6 hgrow6 HN HX HO6
  go_wp2_with (first | (go_at_call 80; (with_reducible refine (HJ.out).mono ?_); rintro e w7 ⟨rfl, g7⟩) | fail)
  go_ret
  exact ⟨rfl, g0.trans (G6.trans g7)⟩
set_option maxRecDepth 100000 in
set_option maxHeartbeats 2000000 in
theorem toldGo_any (pv : Value) (P : Pln) (beg : Int) (s1 s2 : Option Addr) (ns nr k1 k2 : Nat) (at_ : Int) (j : Nat) (w : World) (hP : IsPln w pv P) (hj : j < P.ss.length) (hs : (jnW (wordsL P beg ⟨false, at_, 1, j⟩)).size ≤ 1000) :
    Calls Tryz.prog 47 #[pv, .agg #[.int .i64 beg, .slice s1 ns k1, .slice s2 nr k2], .agg #[.bool false, .int .i64 at_, .int .i64 1, .int .i64 (j : Int)]] w fun e w' => e = .returned (.string (jnW (wordsL P beg ⟨false, at_, 1, j⟩) ++ ⟨#[10]⟩)) ∧ Gr w w' := by
  have HPI := Lib.hid hP
  obtain ⟨a1, c1, a2, c2, a3, c3, a4, c4, rfl, h1, -, h3, -⟩ := hP
  have hm1 := IsRow.len h1
  have hm3 := IsRow.len h3
  unfold maxLen at hm1 hm3
  obtain ⟨bb, o, hsl, hb0, hc0, -⟩ := h3.at j hj
  subst hsl
  have g0 : Gr w (((w.alloc (.cells #[.slice a1 P.es.length c1, .slice a2 P.js.length c2, .slice (some ⟨bb, o, none⟩) P.ss.length c3, .slice a4 P.ls.length c4, .int .i64 P.top, .int .i64 P.brake, .int .i64 P.margin, .int .i64 P.throw, .bool P.hard] 27)).alloc (.cells #[.int .i64 beg, .slice s1 ns k1, .slice s2 nr k2] 31)).alloc (.cells #[.bool false, .int .i64 at_, .int .i64 1, .int .i64 (j : Int)] 54)) := (((Gr.refl _).alloc _).alloc _).alloc _
  have HX : Hid (∀ w', Gr (((w.alloc (.cells #[.slice a1 P.es.length c1, .slice a2 P.js.length c2, .slice (some ⟨bb, o, none⟩) P.ss.length c3, .slice a4 P.ls.length c4, .int .i64 P.top, .int .i64 P.brake, .int .i64 P.margin, .int .i64 P.throw, .bool P.hard] 27)).alloc (.cells #[.int .i64 beg, .slice s1 ns k1, .slice s2 nr k2] 31)).alloc (.cells #[.bool false, .int .i64 at_, .int .i64 1, .int .i64 (j : Int)] 54)) w' → w.heap.size + 1 + 1 < w'.heap.size ∧ w.heap.size + 1 < w'.heap.size ∧ w.heap.size < w'.heap.size ∧ w'.cell? ⟨w.heap.size, 0, none⟩ = some (.slice a1 P.es.length c1) ∧ w'.cell? ⟨w.heap.size, 2, none⟩ = some (.slice (some ⟨bb, o, none⟩) P.ss.length c3) ∧ w'.cell? ⟨w.heap.size + 1, 0, none⟩ = some (.int .i64 beg) ∧ w'.cell? ⟨w.heap.size + 1 + 1, 0, none⟩ = some (.bool false) ∧ w'.cell? ⟨w.heap.size + 1 + 1, 1, none⟩ = some (.int .i64 at_) ∧ w'.cell? ⟨w.heap.size + 1 + 1, 2, none⟩ = some (.int .i64 1) ∧ w'.cell? ⟨w.heap.size + 1 + 1, 3, none⟩ = some (.int .i64 (j : Int))) := fun w' g => by
    have z2 : w.heap.size + 1 + 1 < ((((w.alloc (.cells #[.slice a1 P.es.length c1, .slice a2 P.js.length c2, .slice (some ⟨bb, o, none⟩) P.ss.length c3, .slice a4 P.ls.length c4, .int .i64 P.top, .int .i64 P.brake, .int .i64 P.margin, .int .i64 P.throw, .bool P.hard] 27)).alloc (.cells #[.int .i64 beg, .slice s1 ns k1, .slice s2 nr k2] 31)).alloc (.cells #[.bool false, .int .i64 at_, .int .i64 1, .int .i64 (j : Int)] 54))).heap.size := by simp
    have z1 : w.heap.size + 1 < ((((w.alloc (.cells #[.slice a1 P.es.length c1, .slice a2 P.js.length c2, .slice (some ⟨bb, o, none⟩) P.ss.length c3, .slice a4 P.ls.length c4, .int .i64 P.top, .int .i64 P.brake, .int .i64 P.margin, .int .i64 P.throw, .bool P.hard] 27)).alloc (.cells #[.int .i64 beg, .slice s1 ns k1, .slice s2 nr k2] 31)).alloc (.cells #[.bool false, .int .i64 at_, .int .i64 1, .int .i64 (j : Int)] 54))).heap.size := by omega
    have z0 : w.heap.size < ((((w.alloc (.cells #[.slice a1 P.es.length c1, .slice a2 P.js.length c2, .slice (some ⟨bb, o, none⟩) P.ss.length c3, .slice a4 P.ls.length c4, .int .i64 P.top, .int .i64 P.brake, .int .i64 P.margin, .int .i64 P.throw, .bool P.hard] 27)).alloc (.cells #[.int .i64 beg, .slice s1 ns k1, .slice s2 nr k2] 31)).alloc (.cells #[.bool false, .int .i64 at_, .int .i64 1, .int .i64 (j : Int)] 54))).heap.size := by omega
    have := g.size
    exact ⟨by omega, by omega, by omega, (g.cell _ _ z0).trans (by go_simp), (g.cell _ _ z0).trans (by go_simp), (g.cell _ _ z1).trans (by go_simp), (g.cell _ _ z2).trans (by go_simp), (g.cell _ _ z2).trans (by go_simp), (g.cell _ _ z2).trans (by go_simp), (g.cell _ _ z2).trans (by go_simp)⟩
  have HAD := Lib.hid (fun w' => add_any beg at_ w')
  have HPR : Hid (∀ w', Calls Tryz.prog 45 #[.int .i64 ((beg + at_) % 86400)] w' fun e w'' => e = .returned (.string (clkT ((beg + at_) % 86400))) ∧ Gr w' w'') := fun w' => by
    have := print_any ((beg + at_) % 86400) w'
    rw [Int.emod_emod] at this
    exact this
  have HN : Hid (∀ w', Gr w w' → bb < w'.heap.size ∧ w'.cell? ⟨bb, o + j * 4, none⟩ = some (.string P.ss[j].n)) := fun w' g => ⟨Nat.lt_of_lt_of_le hb0 g.size, (g.cell _ _ hb0).trans hc0⟩
  have hw : wordsL P beg ⟨false, at_, 1, j⟩ = [bGo, clkT ((beg + at_) % 86400), P.ss[j].n] := by
    have e2 : nameTo P ⟨false, at_, 1, j⟩ = P.ss[j].n := by
      show (P.ss.getD ((j : Int)).toNat default).n = _
      rw [Int.toNat_natCast, getD_at _ _ hj]
    unfold wordsL
    rw [e2]
    rfl
  have HS := Lib.hid hs
  rw [hw] at HS ⊢
  have hz3 : ((((w.alloc (.cells #[.slice a1 P.es.length c1, .slice a2 P.js.length c2, .slice (some ⟨bb, o, none⟩) P.ss.length c3, .slice a4 P.ls.length c4, .int .i64 P.top, .int .i64 P.brake, .int .i64 P.margin, .int .i64 P.throw, .bool P.hard] 27)).alloc (.cells #[.int .i64 beg, .slice s1 ns k1, .slice s2 nr k2] 31)).alloc (.cells #[.bool false, .int .i64 at_, .int .i64 1, .int .i64 (j : Int)] 54))).heap.size = w.heap.size + 1 + 1 + 1 := by simp
  have HZ3 := Lib.hid hz3
  clear hz3
  have HO0 : Hid (((((w.alloc (.cells #[.slice a1 P.es.length c1, .slice a2 P.js.length c2, .slice (some ⟨bb, o, none⟩) P.ss.length c3, .slice a4 P.ls.length c4, .int .i64 P.top, .int .i64 P.brake, .int .i64 P.margin, .int .i64 P.throw, .bool P.hard] 27)).alloc (.cells #[.int .i64 beg, .slice s1 ns k1, .slice s2 nr k2] 31)).alloc (.cells #[.bool false, .int .i64 at_, .int .i64 1, .int .i64 (j : Int)] 54))).ownsRow ((((w.alloc (.cells #[.slice a1 P.es.length c1, .slice a2 P.js.length c2, .slice (some ⟨bb, o, none⟩) P.ss.length c3, .slice a4 P.ls.length c4, .int .i64 P.top, .int .i64 P.brake, .int .i64 P.margin, .int .i64 P.throw, .bool P.hard] 27)).alloc (.cells #[.int .i64 beg, .slice s1 ns k1, .slice s2 nr k2] 31)).alloc (.cells #[.bool false, .int .i64 at_, .int .i64 1, .int .i64 (j : Int)] 54))).heap.size 9 1 (.slice none 0 0) 0 []) := ⟨rfl, .inl ⟨rfl, rfl⟩⟩
  generalize (beg + at_) % 86400 = T at HAD HPR HS ⊢
  generalize clkT T = ck at HPR HS ⊢
  generalize P.ss[j].n = nn at HN HS ⊢
  obtain ⟨R, hR⟩ : ∃ R, R = jnW [bGo, ck, nn] := ⟨_, rfl⟩
  rw [← hR] at HS ⊢
  have HRE := Lib.hid hR
  clear hR
  obtain ⟨i0, hi0, hi1, hi2, hi3⟩ := info_parts Tryz.infoS
  have j0 : (0 : Int) ≤ (j : Int) := by omega
  have j1 : (j : Int) < (P.ss.length : Int) := by omega
  unfold plnV
  clear h1 h3 hs hw hb0 hc0
  have HO4 : Hid (((((w.alloc (.cells #[.slice a1 P.es.length c1, .slice a2 P.js.length c2, .slice (some ⟨bb, o, none⟩) P.ss.length c3, .slice a4 P.ls.length c4, .int .i64 P.top, .int .i64 P.brake, .int .i64 P.margin, .int .i64 P.throw, .bool P.hard] 27)).alloc (.cells #[.int .i64 beg, .slice s1 ns k1, .slice s2 nr k2] 31)).alloc (.cells #[.bool false, .int .i64 at_, .int .i64 1, .int .i64 (j : Int)] 54))).ownsRow ((((w.alloc (.cells #[.slice a1 P.es.length c1, .slice a2 P.js.length c2, .slice (some ⟨bb, o, none⟩) P.ss.length c3, .slice a4 P.ls.length c4, .int .i64 P.top, .int .i64 P.brake, .int .i64 P.margin, .int .i64 P.throw, .bool P.hard] 27)).alloc (.cells #[.int .i64 beg, .slice s1 ns k1, .slice s2 nr k2] 31)).alloc (.cells #[.bool false, .int .i64 at_, .int .i64 1, .int .i64 (j : Int)] 54))).heap.size 9 1 (.slice none 0 0) 0 []) := HO0.out
  have G4 : Gr (((w.alloc (.cells #[.slice a1 P.es.length c1, .slice a2 P.js.length c2, .slice (some ⟨bb, o, none⟩) P.ss.length c3, .slice a4 P.ls.length c4, .int .i64 P.top, .int .i64 P.brake, .int .i64 P.margin, .int .i64 P.throw, .bool P.hard] 27)).alloc (.cells #[.int .i64 beg, .slice s1 ns k1, .slice s2 nr k2] 31)).alloc (.cells #[.bool false, .int .i64 at_, .int .i64 1, .int .i64 (j : Int)] 54)) (((w.alloc (.cells #[.slice a1 P.es.length c1, .slice a2 P.js.length c2, .slice (some ⟨bb, o, none⟩) P.ss.length c3, .slice a4 P.ls.length c4, .int .i64 P.top, .int .i64 P.brake, .int .i64 P.margin, .int .i64 P.throw, .bool P.hard] 27)).alloc (.cells #[.int .i64 beg, .slice s1 ns k1, .slice s2 nr k2] 31)).alloc (.cells #[.bool false, .int .i64 at_, .int .i64 1, .int .i64 (j : Int)] 54)) := Gr.refl _
  go_enter Tryz.func47, Tryz.ntmps47
  go_wp2_with (first | (go_at_call 79; (with_reducible refine (HAD.out _).mono ?_); rintro e w' ⟨rfl, rfl⟩) | (go_at_call 45; (with_reducible refine (HPR.out _).mono ?_); rintro e w5 ⟨rfl, g5⟩; have G5 := (G4).trans g5; (obtain ⟨zx, zy, zz, b0, b2, d0, l0, l1, l2, l3⟩ := HX.out _ G5); have HO5 := Lib.hid (own_gr HO4.out g5); obtain ⟨z, y0⟩ := HN.out _ (g0.trans G5)) | (at_builtin; (refine wpList_append_own _ rfl _ _ 55 rfl ((((w.alloc (.cells #[.slice a1 P.es.length c1, .slice a2 P.js.length c2, .slice (some ⟨bb, o, none⟩) P.ss.length c3, .slice a4 P.ls.length c4, .int .i64 P.top, .int .i64 P.brake, .int .i64 P.margin, .int .i64 P.throw, .bool P.hard] 27)).alloc (.cells #[.int .i64 beg, .slice s1 ns k1, .slice s2 nr k2] 31)).alloc (.cells #[.bool false, .int .i64 at_, .int .i64 1, .int .i64 (j : Int)] 54))).heap.size 9 i0 (.string ByteArray.empty) 1 16 Tryz.underlying55 hi0 hi1 hi2 hi3 rfl (by decide) _ _ _ rfl (HO5.out.alloc _) ⟨w5.heap.size, 0, none⟩ 3 3 [.string ⟨#[103, 111]⟩, .string ck, .string nn] rfl rfl ?d1 ?d2 ?d3 ?d4 ?d5 ?_)) | fail)
  case d1 => exact news_at _ rfl [_, _, _] _
  case d2 => simp [Value.oneCell']
  case d3 => unfold maxLen; omega
  case d4 => omega
  case d5 => have := G5.size; simp at this ⊢; omega
  intro v6 w6 hown6 hgrow6 _
  have G6 : Gr (((w.alloc (.cells #[.slice a1 P.es.length c1, .slice a2 P.js.length c2, .slice (some ⟨bb, o, none⟩) P.ss.length c3, .slice a4 P.ls.length c4, .int .i64 P.top, .int .i64 P.brake, .int .i64 P.margin, .int .i64 P.throw, .bool P.hard] 27)).alloc (.cells #[.int .i64 beg, .slice s1 ns k1, .slice s2 nr k2] 31)).alloc (.cells #[.bool false, .int .i64 at_, .int .i64 1, .int .i64 (j : Int)] 54)) w6 := Gr.grown (G5.alloc _) hgrow6 HO5.out
  have HO6 : Hid (OwnS ((((w.alloc (.cells #[.slice a1 P.es.length c1, .slice a2 P.js.length c2, .slice (some ⟨bb, o, none⟩) P.ss.length c3, .slice a4 P.ls.length c4, .int .i64 P.top, .int .i64 P.brake, .int .i64 P.margin, .int .i64 P.throw, .bool P.hard] 27)).alloc (.cells #[.int .i64 beg, .slice s1 ns k1, .slice s2 nr k2] 31)).alloc (.cells #[.bool false, .int .i64 at_, .int .i64 1, .int .i64 (j : Int)] 54))).heap.size w6 v6 ([bGo, ck, nn])) := by show World.ownsRow _ _ _ _ _ _ _; rw [HZ3.out]; exact hown6
  obtain ⟨va6, vc6, rfl⟩ := own_form hown6
  have HJ : Hid (Calls Tryz.prog 80 #[.slice va6 3 vc6, .string ⟨#[32]⟩] w6 fun e w' => e = .returned (.string R) ∧ Gr w6 w') := by
    have := join_own HO6.out (by simp) (by rw [← HRE.out]; have := HS.out; omega) (by simp)
    rw [← HRE.out] at this
    exact this
  have hR : R.size ≤ 1000 := HS.out
  have q1 : ¬ 9223372036854775807 < R.size + 1 := by omega
  clear hown6 hgrow6 HN HX HO6
  go_wp2_with (first | (go_at_call 80; (with_reducible refine (HJ.out).mono ?_); rintro e w7 ⟨rfl, g7⟩) | fail)
  go_ret
  exact ⟨rfl, g0.trans (G6.trans g7)⟩
set_option maxRecDepth 100000 in
set_option maxHeartbeats 2000000 in
theorem toldGateT_any (pv : Value) (P : Pln) (beg : Int) (s1 s2 : Option Addr) (ns nr k1 k2 : Nat) (at_ : Int) (j : Nat) (w : World) (hP : IsPln w pv P) (hj : j < P.es.length) (hs : (jnW (wordsL P beg ⟨true, at_, 2, j⟩)).size ≤ 1000) :
    Calls Tryz.prog 47 #[pv, .agg #[.int .i64 beg, .slice s1 ns k1, .slice s2 nr k2], .agg #[.bool true, .int .i64 at_, .int .i64 2, .int .i64 (j : Int)]] w fun e w' => e = .returned (.string (jnW (wordsL P beg ⟨true, at_, 2, j⟩) ++ ⟨#[10]⟩)) ∧ Gr w w' := by
  have HPI := Lib.hid hP
  obtain ⟨a1, c1, a2, c2, a3, c3, a4, c4, rfl, h1, -, h3, -⟩ := hP
  have hm1 := IsRow.len h1
  have hm3 := IsRow.len h3
  unfold maxLen at hm1 hm3
  obtain ⟨bb, o, hsl, hb0, hc0, -⟩ := h1.at j hj
  subst hsl
  have g0 : Gr w (((w.alloc (.cells #[.slice (some ⟨bb, o, none⟩) P.es.length c1, .slice a2 P.js.length c2, .slice a3 P.ss.length c3, .slice a4 P.ls.length c4, .int .i64 P.top, .int .i64 P.brake, .int .i64 P.margin, .int .i64 P.throw, .bool P.hard] 27)).alloc (.cells #[.int .i64 beg, .slice s1 ns k1, .slice s2 nr k2] 31)).alloc (.cells #[.bool true, .int .i64 at_, .int .i64 2, .int .i64 (j : Int)] 54)) := (((Gr.refl _).alloc _).alloc _).alloc _
  have HX : Hid (∀ w', Gr (((w.alloc (.cells #[.slice (some ⟨bb, o, none⟩) P.es.length c1, .slice a2 P.js.length c2, .slice a3 P.ss.length c3, .slice a4 P.ls.length c4, .int .i64 P.top, .int .i64 P.brake, .int .i64 P.margin, .int .i64 P.throw, .bool P.hard] 27)).alloc (.cells #[.int .i64 beg, .slice s1 ns k1, .slice s2 nr k2] 31)).alloc (.cells #[.bool true, .int .i64 at_, .int .i64 2, .int .i64 (j : Int)] 54)) w' → w.heap.size + 1 + 1 < w'.heap.size ∧ w.heap.size + 1 < w'.heap.size ∧ w.heap.size < w'.heap.size ∧ w'.cell? ⟨w.heap.size, 0, none⟩ = some (.slice (some ⟨bb, o, none⟩) P.es.length c1) ∧ w'.cell? ⟨w.heap.size, 2, none⟩ = some (.slice a3 P.ss.length c3) ∧ w'.cell? ⟨w.heap.size + 1, 0, none⟩ = some (.int .i64 beg) ∧ w'.cell? ⟨w.heap.size + 1 + 1, 0, none⟩ = some (.bool true) ∧ w'.cell? ⟨w.heap.size + 1 + 1, 1, none⟩ = some (.int .i64 at_) ∧ w'.cell? ⟨w.heap.size + 1 + 1, 2, none⟩ = some (.int .i64 2) ∧ w'.cell? ⟨w.heap.size + 1 + 1, 3, none⟩ = some (.int .i64 (j : Int))) := fun w' g => by
    have z2 : w.heap.size + 1 + 1 < ((((w.alloc (.cells #[.slice (some ⟨bb, o, none⟩) P.es.length c1, .slice a2 P.js.length c2, .slice a3 P.ss.length c3, .slice a4 P.ls.length c4, .int .i64 P.top, .int .i64 P.brake, .int .i64 P.margin, .int .i64 P.throw, .bool P.hard] 27)).alloc (.cells #[.int .i64 beg, .slice s1 ns k1, .slice s2 nr k2] 31)).alloc (.cells #[.bool true, .int .i64 at_, .int .i64 2, .int .i64 (j : Int)] 54))).heap.size := by simp
    have z1 : w.heap.size + 1 < ((((w.alloc (.cells #[.slice (some ⟨bb, o, none⟩) P.es.length c1, .slice a2 P.js.length c2, .slice a3 P.ss.length c3, .slice a4 P.ls.length c4, .int .i64 P.top, .int .i64 P.brake, .int .i64 P.margin, .int .i64 P.throw, .bool P.hard] 27)).alloc (.cells #[.int .i64 beg, .slice s1 ns k1, .slice s2 nr k2] 31)).alloc (.cells #[.bool true, .int .i64 at_, .int .i64 2, .int .i64 (j : Int)] 54))).heap.size := by omega
    have z0 : w.heap.size < ((((w.alloc (.cells #[.slice (some ⟨bb, o, none⟩) P.es.length c1, .slice a2 P.js.length c2, .slice a3 P.ss.length c3, .slice a4 P.ls.length c4, .int .i64 P.top, .int .i64 P.brake, .int .i64 P.margin, .int .i64 P.throw, .bool P.hard] 27)).alloc (.cells #[.int .i64 beg, .slice s1 ns k1, .slice s2 nr k2] 31)).alloc (.cells #[.bool true, .int .i64 at_, .int .i64 2, .int .i64 (j : Int)] 54))).heap.size := by omega
    have := g.size
    exact ⟨by omega, by omega, by omega, (g.cell _ _ z0).trans (by go_simp), (g.cell _ _ z0).trans (by go_simp), (g.cell _ _ z1).trans (by go_simp), (g.cell _ _ z2).trans (by go_simp), (g.cell _ _ z2).trans (by go_simp), (g.cell _ _ z2).trans (by go_simp), (g.cell _ _ z2).trans (by go_simp)⟩
  have HAD := Lib.hid (fun w' => add_any beg at_ w')
  have HPR : Hid (∀ w', Calls Tryz.prog 45 #[.int .i64 ((beg + at_) % 86400)] w' fun e w'' => e = .returned (.string (clkT ((beg + at_) % 86400))) ∧ Gr w' w'') := fun w' => by
    have := print_any ((beg + at_) % 86400) w'
    rw [Int.emod_emod] at this
    exact this
  have HN : Hid (∀ w', Gr w w' → bb < w'.heap.size ∧ w'.cell? ⟨bb, o + j * 3, none⟩ = some (.string P.es[j].n)) := fun w' g => ⟨Nat.lt_of_lt_of_le hb0 g.size, (g.cell _ _ hb0).trans hc0⟩
  have hw : wordsL P beg ⟨true, at_, 2, j⟩ = [bTurn, bGate, clkT ((beg + at_) % 86400), P.es[j].n] := by
    have e2 : nameTo P ⟨true, at_, 2, j⟩ = P.es[j].n := by
      show (P.es.getD ((j : Int)).toNat default).n = _
      rw [Int.toNat_natCast, getD_at _ _ hj]
    unfold wordsL
    rw [e2]
    rfl
  have HS := Lib.hid hs
  rw [hw] at HS ⊢
  have hz3 : ((((w.alloc (.cells #[.slice (some ⟨bb, o, none⟩) P.es.length c1, .slice a2 P.js.length c2, .slice a3 P.ss.length c3, .slice a4 P.ls.length c4, .int .i64 P.top, .int .i64 P.brake, .int .i64 P.margin, .int .i64 P.throw, .bool P.hard] 27)).alloc (.cells #[.int .i64 beg, .slice s1 ns k1, .slice s2 nr k2] 31)).alloc (.cells #[.bool true, .int .i64 at_, .int .i64 2, .int .i64 (j : Int)] 54))).heap.size = w.heap.size + 1 + 1 + 1 := by simp
  have HZ3 := Lib.hid hz3
  clear hz3
  have HO0 : Hid (((((w.alloc (.cells #[.slice (some ⟨bb, o, none⟩) P.es.length c1, .slice a2 P.js.length c2, .slice a3 P.ss.length c3, .slice a4 P.ls.length c4, .int .i64 P.top, .int .i64 P.brake, .int .i64 P.margin, .int .i64 P.throw, .bool P.hard] 27)).alloc (.cells #[.int .i64 beg, .slice s1 ns k1, .slice s2 nr k2] 31)).alloc (.cells #[.bool true, .int .i64 at_, .int .i64 2, .int .i64 (j : Int)] 54))).ownsRow ((((w.alloc (.cells #[.slice (some ⟨bb, o, none⟩) P.es.length c1, .slice a2 P.js.length c2, .slice a3 P.ss.length c3, .slice a4 P.ls.length c4, .int .i64 P.top, .int .i64 P.brake, .int .i64 P.margin, .int .i64 P.throw, .bool P.hard] 27)).alloc (.cells #[.int .i64 beg, .slice s1 ns k1, .slice s2 nr k2] 31)).alloc (.cells #[.bool true, .int .i64 at_, .int .i64 2, .int .i64 (j : Int)] 54))).heap.size 9 1 (.slice none 0 0) 0 []) := ⟨rfl, .inl ⟨rfl, rfl⟩⟩
  generalize (beg + at_) % 86400 = T at HAD HPR HS ⊢
  generalize clkT T = ck at HPR HS ⊢
  generalize P.es[j].n = nn at HN HS ⊢
  obtain ⟨R, hR⟩ : ∃ R, R = jnW [bTurn, bGate, ck, nn] := ⟨_, rfl⟩
  rw [← hR] at HS ⊢
  have HRE := Lib.hid hR
  clear hR
  obtain ⟨i0, hi0, hi1, hi2, hi3⟩ := info_parts Tryz.infoS
  have j0 : (0 : Int) ≤ (j : Int) := by omega
  have j1 : (j : Int) < (P.es.length : Int) := by omega
  unfold plnV
  clear h1 h3 hs hw hb0 hc0
  go_enter Tryz.func47, Tryz.ntmps47
  go_wp2_with (first | (at_builtin; refine wpList_append_own _ rfl _ _ 55 rfl ((((w.alloc (.cells #[.slice (some ⟨bb, o, none⟩) P.es.length c1, .slice a2 P.js.length c2, .slice a3 P.ss.length c3, .slice a4 P.ls.length c4, .int .i64 P.top, .int .i64 P.brake, .int .i64 P.margin, .int .i64 P.throw, .bool P.hard] 27)).alloc (.cells #[.int .i64 beg, .slice s1 ns k1, .slice s2 nr k2] 31)).alloc (.cells #[.bool true, .int .i64 at_, .int .i64 2, .int .i64 (j : Int)] 54))).heap.size 9 i0 (.string ByteArray.empty) 1 16 Tryz.underlying55 hi0 hi1 hi2 hi3 rfl (by decide) _ _ _ rfl (HO0.out.alloc _) ⟨w.heap.size + 1 + 1 + 1, 0, none⟩ 1 1 [.string ⟨#[116, 117, 114, 110]⟩] rfl rfl ?c1 ?c2 ?c3 ?c4 ?c5 ?_) | fail)
  case c1 => exact news_at _ (by simp) [_] _
  case c2 => simp [Value.oneCell']
  case c3 => unfold maxLen; omega
  case c4 => omega
  case c5 => simp
  intro v4 w4 hown4 hgrow4 _
  have G4 : Gr (((w.alloc (.cells #[.slice (some ⟨bb, o, none⟩) P.es.length c1, .slice a2 P.js.length c2, .slice a3 P.ss.length c3, .slice a4 P.ls.length c4, .int .i64 P.top, .int .i64 P.brake, .int .i64 P.margin, .int .i64 P.throw, .bool P.hard] 27)).alloc (.cells #[.int .i64 beg, .slice s1 ns k1, .slice s2 nr k2] 31)).alloc (.cells #[.bool true, .int .i64 at_, .int .i64 2, .int .i64 (j : Int)] 54)) w4 := Gr.grown ((Gr.refl _).alloc _) hgrow4 HO0.out
  have HO4 : Hid (w4.ownsRow ((((w.alloc (.cells #[.slice (some ⟨bb, o, none⟩) P.es.length c1, .slice a2 P.js.length c2, .slice a3 P.ss.length c3, .slice a4 P.ls.length c4, .int .i64 P.top, .int .i64 P.brake, .int .i64 P.margin, .int .i64 P.throw, .bool P.hard] 27)).alloc (.cells #[.int .i64 beg, .slice s1 ns k1, .slice s2 nr k2] 31)).alloc (.cells #[.bool true, .int .i64 at_, .int .i64 2, .int .i64 (j : Int)] 54))).heap.size 9 1 v4 1 [.string ⟨#[116, 117, 114, 110]⟩]) := by show World.ownsRow _ _ _ _ _ _ _; rw [HZ3.out]; exact hown4
  obtain ⟨va, vc, rfl⟩ := own_form hown4
  (obtain ⟨zx, zy, zz, b0, b2, d0, l0, l1, l2, l3⟩ := HX.out _ G4)
  clear hown4 hgrow4
  go_wp2_with (first | (go_at_call 79; (with_reducible refine (HAD.out _).mono ?_); rintro e w' ⟨rfl, rfl⟩) | (go_at_call 45; (with_reducible refine (HPR.out _).mono ?_); rintro e w5 ⟨rfl, g5⟩; have G5 := (G4).trans g5; (obtain ⟨zx, zy, zz, b0, b2, d0, l0, l1, l2, l3⟩ := HX.out _ G5); have HO5 := Lib.hid (own_gr HO4.out g5); obtain ⟨z, y0⟩ := HN.out _ (g0.trans G5)) | (at_builtin; (refine wpList_append_own _ rfl _ _ 55 rfl ((((w.alloc (.cells #[.slice (some ⟨bb, o, none⟩) P.es.length c1, .slice a2 P.js.length c2, .slice a3 P.ss.length c3, .slice a4 P.ls.length c4, .int .i64 P.top, .int .i64 P.brake, .int .i64 P.margin, .int .i64 P.throw, .bool P.hard] 27)).alloc (.cells #[.int .i64 beg, .slice s1 ns k1, .slice s2 nr k2] 31)).alloc (.cells #[.bool true, .int .i64 at_, .int .i64 2, .int .i64 (j : Int)] 54))).heap.size 9 i0 (.string ByteArray.empty) 1 16 Tryz.underlying55 hi0 hi1 hi2 hi3 rfl (by decide) _ _ _ rfl (HO5.out.alloc _) ⟨w5.heap.size, 0, none⟩ 3 3 [.string ⟨#[103, 97, 116, 101]⟩, .string ck, .string nn] rfl rfl ?d1 ?d2 ?d3 ?d4 ?d5 ?_)) | fail)
  case d1 => exact news_at _ rfl [_, _, _] _
  case d2 => simp [Value.oneCell']
  case d3 => unfold maxLen; omega
  case d4 => omega
  case d5 => have := G5.size; simp at this ⊢; omega
  intro v6 w6 hown6 hgrow6 _
  have G6 : Gr (((w.alloc (.cells #[.slice (some ⟨bb, o, none⟩) P.es.length c1, .slice a2 P.js.length c2, .slice a3 P.ss.length c3, .slice a4 P.ls.length c4, .int .i64 P.top, .int .i64 P.brake, .int .i64 P.margin, .int .i64 P.throw, .bool P.hard] 27)).alloc (.cells #[.int .i64 beg, .slice s1 ns k1, .slice s2 nr k2] 31)).alloc (.cells #[.bool true, .int .i64 at_, .int .i64 2, .int .i64 (j : Int)] 54)) w6 := Gr.grown (G5.alloc _) hgrow6 HO5.out
  have HO6 : Hid (OwnS ((((w.alloc (.cells #[.slice (some ⟨bb, o, none⟩) P.es.length c1, .slice a2 P.js.length c2, .slice a3 P.ss.length c3, .slice a4 P.ls.length c4, .int .i64 P.top, .int .i64 P.brake, .int .i64 P.margin, .int .i64 P.throw, .bool P.hard] 27)).alloc (.cells #[.int .i64 beg, .slice s1 ns k1, .slice s2 nr k2] 31)).alloc (.cells #[.bool true, .int .i64 at_, .int .i64 2, .int .i64 (j : Int)] 54))).heap.size w6 v6 ([bTurn, bGate, ck, nn])) := by show World.ownsRow _ _ _ _ _ _ _; rw [HZ3.out]; exact hown6
  obtain ⟨va6, vc6, rfl⟩ := own_form hown6
  have HJ : Hid (Calls Tryz.prog 80 #[.slice va6 4 vc6, .string ⟨#[32]⟩] w6 fun e w' => e = .returned (.string R) ∧ Gr w6 w') := by
    have := join_own HO6.out (by simp) (by rw [← HRE.out]; have := HS.out; omega) (by simp)
    rw [← HRE.out] at this
    exact this
  have hR : R.size ≤ 1000 := HS.out
  have q1 : ¬ 9223372036854775807 < R.size + 1 := by omega
  clear hown6 hgrow6 HN HX HO6
  go_wp2_with (first | (go_at_call 80; (with_reducible refine (HJ.out).mono ?_); rintro e w7 ⟨rfl, g7⟩) | fail)
  go_ret
  exact ⟨rfl, g0.trans (G6.trans g7)⟩
set_option maxRecDepth 100000 in
set_option maxHeartbeats 2000000 in
theorem toldGate_any (pv : Value) (P : Pln) (beg : Int) (s1 s2 : Option Addr) (ns nr k1 k2 : Nat) (at_ : Int) (j : Nat) (w : World) (hP : IsPln w pv P) (hj : j < P.es.length) (hs : (jnW (wordsL P beg ⟨false, at_, 2, j⟩)).size ≤ 1000) :
    Calls Tryz.prog 47 #[pv, .agg #[.int .i64 beg, .slice s1 ns k1, .slice s2 nr k2], .agg #[.bool false, .int .i64 at_, .int .i64 2, .int .i64 (j : Int)]] w fun e w' => e = .returned (.string (jnW (wordsL P beg ⟨false, at_, 2, j⟩) ++ ⟨#[10]⟩)) ∧ Gr w w' := by
  have HPI := Lib.hid hP
  obtain ⟨a1, c1, a2, c2, a3, c3, a4, c4, rfl, h1, -, h3, -⟩ := hP
  have hm1 := IsRow.len h1
  have hm3 := IsRow.len h3
  unfold maxLen at hm1 hm3
  obtain ⟨bb, o, hsl, hb0, hc0, -⟩ := h1.at j hj
  subst hsl
  have g0 : Gr w (((w.alloc (.cells #[.slice (some ⟨bb, o, none⟩) P.es.length c1, .slice a2 P.js.length c2, .slice a3 P.ss.length c3, .slice a4 P.ls.length c4, .int .i64 P.top, .int .i64 P.brake, .int .i64 P.margin, .int .i64 P.throw, .bool P.hard] 27)).alloc (.cells #[.int .i64 beg, .slice s1 ns k1, .slice s2 nr k2] 31)).alloc (.cells #[.bool false, .int .i64 at_, .int .i64 2, .int .i64 (j : Int)] 54)) := (((Gr.refl _).alloc _).alloc _).alloc _
  have HX : Hid (∀ w', Gr (((w.alloc (.cells #[.slice (some ⟨bb, o, none⟩) P.es.length c1, .slice a2 P.js.length c2, .slice a3 P.ss.length c3, .slice a4 P.ls.length c4, .int .i64 P.top, .int .i64 P.brake, .int .i64 P.margin, .int .i64 P.throw, .bool P.hard] 27)).alloc (.cells #[.int .i64 beg, .slice s1 ns k1, .slice s2 nr k2] 31)).alloc (.cells #[.bool false, .int .i64 at_, .int .i64 2, .int .i64 (j : Int)] 54)) w' → w.heap.size + 1 + 1 < w'.heap.size ∧ w.heap.size + 1 < w'.heap.size ∧ w.heap.size < w'.heap.size ∧ w'.cell? ⟨w.heap.size, 0, none⟩ = some (.slice (some ⟨bb, o, none⟩) P.es.length c1) ∧ w'.cell? ⟨w.heap.size, 2, none⟩ = some (.slice a3 P.ss.length c3) ∧ w'.cell? ⟨w.heap.size + 1, 0, none⟩ = some (.int .i64 beg) ∧ w'.cell? ⟨w.heap.size + 1 + 1, 0, none⟩ = some (.bool false) ∧ w'.cell? ⟨w.heap.size + 1 + 1, 1, none⟩ = some (.int .i64 at_) ∧ w'.cell? ⟨w.heap.size + 1 + 1, 2, none⟩ = some (.int .i64 2) ∧ w'.cell? ⟨w.heap.size + 1 + 1, 3, none⟩ = some (.int .i64 (j : Int))) := fun w' g => by
    have z2 : w.heap.size + 1 + 1 < ((((w.alloc (.cells #[.slice (some ⟨bb, o, none⟩) P.es.length c1, .slice a2 P.js.length c2, .slice a3 P.ss.length c3, .slice a4 P.ls.length c4, .int .i64 P.top, .int .i64 P.brake, .int .i64 P.margin, .int .i64 P.throw, .bool P.hard] 27)).alloc (.cells #[.int .i64 beg, .slice s1 ns k1, .slice s2 nr k2] 31)).alloc (.cells #[.bool false, .int .i64 at_, .int .i64 2, .int .i64 (j : Int)] 54))).heap.size := by simp
    have z1 : w.heap.size + 1 < ((((w.alloc (.cells #[.slice (some ⟨bb, o, none⟩) P.es.length c1, .slice a2 P.js.length c2, .slice a3 P.ss.length c3, .slice a4 P.ls.length c4, .int .i64 P.top, .int .i64 P.brake, .int .i64 P.margin, .int .i64 P.throw, .bool P.hard] 27)).alloc (.cells #[.int .i64 beg, .slice s1 ns k1, .slice s2 nr k2] 31)).alloc (.cells #[.bool false, .int .i64 at_, .int .i64 2, .int .i64 (j : Int)] 54))).heap.size := by omega
    have z0 : w.heap.size < ((((w.alloc (.cells #[.slice (some ⟨bb, o, none⟩) P.es.length c1, .slice a2 P.js.length c2, .slice a3 P.ss.length c3, .slice a4 P.ls.length c4, .int .i64 P.top, .int .i64 P.brake, .int .i64 P.margin, .int .i64 P.throw, .bool P.hard] 27)).alloc (.cells #[.int .i64 beg, .slice s1 ns k1, .slice s2 nr k2] 31)).alloc (.cells #[.bool false, .int .i64 at_, .int .i64 2, .int .i64 (j : Int)] 54))).heap.size := by omega
    have := g.size
    exact ⟨by omega, by omega, by omega, (g.cell _ _ z0).trans (by go_simp), (g.cell _ _ z0).trans (by go_simp), (g.cell _ _ z1).trans (by go_simp), (g.cell _ _ z2).trans (by go_simp), (g.cell _ _ z2).trans (by go_simp), (g.cell _ _ z2).trans (by go_simp), (g.cell _ _ z2).trans (by go_simp)⟩
  have HAD := Lib.hid (fun w' => add_any beg at_ w')
  have HPR : Hid (∀ w', Calls Tryz.prog 45 #[.int .i64 ((beg + at_) % 86400)] w' fun e w'' => e = .returned (.string (clkT ((beg + at_) % 86400))) ∧ Gr w' w'') := fun w' => by
    have := print_any ((beg + at_) % 86400) w'
    rw [Int.emod_emod] at this
    exact this
  have HN : Hid (∀ w', Gr w w' → bb < w'.heap.size ∧ w'.cell? ⟨bb, o + j * 3, none⟩ = some (.string P.es[j].n)) := fun w' g => ⟨Nat.lt_of_lt_of_le hb0 g.size, (g.cell _ _ hb0).trans hc0⟩
  have hw : wordsL P beg ⟨false, at_, 2, j⟩ = [bGate, clkT ((beg + at_) % 86400), P.es[j].n] := by
    have e2 : nameTo P ⟨false, at_, 2, j⟩ = P.es[j].n := by
      show (P.es.getD ((j : Int)).toNat default).n = _
      rw [Int.toNat_natCast, getD_at _ _ hj]
    unfold wordsL
    rw [e2]
    rfl
  have HS := Lib.hid hs
  rw [hw] at HS ⊢
  have hz3 : ((((w.alloc (.cells #[.slice (some ⟨bb, o, none⟩) P.es.length c1, .slice a2 P.js.length c2, .slice a3 P.ss.length c3, .slice a4 P.ls.length c4, .int .i64 P.top, .int .i64 P.brake, .int .i64 P.margin, .int .i64 P.throw, .bool P.hard] 27)).alloc (.cells #[.int .i64 beg, .slice s1 ns k1, .slice s2 nr k2] 31)).alloc (.cells #[.bool false, .int .i64 at_, .int .i64 2, .int .i64 (j : Int)] 54))).heap.size = w.heap.size + 1 + 1 + 1 := by simp
  have HZ3 := Lib.hid hz3
  clear hz3
  have HO0 : Hid (((((w.alloc (.cells #[.slice (some ⟨bb, o, none⟩) P.es.length c1, .slice a2 P.js.length c2, .slice a3 P.ss.length c3, .slice a4 P.ls.length c4, .int .i64 P.top, .int .i64 P.brake, .int .i64 P.margin, .int .i64 P.throw, .bool P.hard] 27)).alloc (.cells #[.int .i64 beg, .slice s1 ns k1, .slice s2 nr k2] 31)).alloc (.cells #[.bool false, .int .i64 at_, .int .i64 2, .int .i64 (j : Int)] 54))).ownsRow ((((w.alloc (.cells #[.slice (some ⟨bb, o, none⟩) P.es.length c1, .slice a2 P.js.length c2, .slice a3 P.ss.length c3, .slice a4 P.ls.length c4, .int .i64 P.top, .int .i64 P.brake, .int .i64 P.margin, .int .i64 P.throw, .bool P.hard] 27)).alloc (.cells #[.int .i64 beg, .slice s1 ns k1, .slice s2 nr k2] 31)).alloc (.cells #[.bool false, .int .i64 at_, .int .i64 2, .int .i64 (j : Int)] 54))).heap.size 9 1 (.slice none 0 0) 0 []) := ⟨rfl, .inl ⟨rfl, rfl⟩⟩
  generalize (beg + at_) % 86400 = T at HAD HPR HS ⊢
  generalize clkT T = ck at HPR HS ⊢
  generalize P.es[j].n = nn at HN HS ⊢
  obtain ⟨R, hR⟩ : ∃ R, R = jnW [bGate, ck, nn] := ⟨_, rfl⟩
  rw [← hR] at HS ⊢
  have HRE := Lib.hid hR
  clear hR
  obtain ⟨i0, hi0, hi1, hi2, hi3⟩ := info_parts Tryz.infoS
  have j0 : (0 : Int) ≤ (j : Int) := by omega
  have j1 : (j : Int) < (P.es.length : Int) := by omega
  unfold plnV
  clear h1 h3 hs hw hb0 hc0
  have HO4 : Hid (((((w.alloc (.cells #[.slice (some ⟨bb, o, none⟩) P.es.length c1, .slice a2 P.js.length c2, .slice a3 P.ss.length c3, .slice a4 P.ls.length c4, .int .i64 P.top, .int .i64 P.brake, .int .i64 P.margin, .int .i64 P.throw, .bool P.hard] 27)).alloc (.cells #[.int .i64 beg, .slice s1 ns k1, .slice s2 nr k2] 31)).alloc (.cells #[.bool false, .int .i64 at_, .int .i64 2, .int .i64 (j : Int)] 54))).ownsRow ((((w.alloc (.cells #[.slice (some ⟨bb, o, none⟩) P.es.length c1, .slice a2 P.js.length c2, .slice a3 P.ss.length c3, .slice a4 P.ls.length c4, .int .i64 P.top, .int .i64 P.brake, .int .i64 P.margin, .int .i64 P.throw, .bool P.hard] 27)).alloc (.cells #[.int .i64 beg, .slice s1 ns k1, .slice s2 nr k2] 31)).alloc (.cells #[.bool false, .int .i64 at_, .int .i64 2, .int .i64 (j : Int)] 54))).heap.size 9 1 (.slice none 0 0) 0 []) := HO0.out
  have G4 : Gr (((w.alloc (.cells #[.slice (some ⟨bb, o, none⟩) P.es.length c1, .slice a2 P.js.length c2, .slice a3 P.ss.length c3, .slice a4 P.ls.length c4, .int .i64 P.top, .int .i64 P.brake, .int .i64 P.margin, .int .i64 P.throw, .bool P.hard] 27)).alloc (.cells #[.int .i64 beg, .slice s1 ns k1, .slice s2 nr k2] 31)).alloc (.cells #[.bool false, .int .i64 at_, .int .i64 2, .int .i64 (j : Int)] 54)) (((w.alloc (.cells #[.slice (some ⟨bb, o, none⟩) P.es.length c1, .slice a2 P.js.length c2, .slice a3 P.ss.length c3, .slice a4 P.ls.length c4, .int .i64 P.top, .int .i64 P.brake, .int .i64 P.margin, .int .i64 P.throw, .bool P.hard] 27)).alloc (.cells #[.int .i64 beg, .slice s1 ns k1, .slice s2 nr k2] 31)).alloc (.cells #[.bool false, .int .i64 at_, .int .i64 2, .int .i64 (j : Int)] 54)) := Gr.refl _
  go_enter Tryz.func47, Tryz.ntmps47
  go_wp2_with (first | (go_at_call 79; (with_reducible refine (HAD.out _).mono ?_); rintro e w' ⟨rfl, rfl⟩) | (go_at_call 45; (with_reducible refine (HPR.out _).mono ?_); rintro e w5 ⟨rfl, g5⟩; have G5 := (G4).trans g5; (obtain ⟨zx, zy, zz, b0, b2, d0, l0, l1, l2, l3⟩ := HX.out _ G5); have HO5 := Lib.hid (own_gr HO4.out g5); obtain ⟨z, y0⟩ := HN.out _ (g0.trans G5)) | (at_builtin; (refine wpList_append_own _ rfl _ _ 55 rfl ((((w.alloc (.cells #[.slice (some ⟨bb, o, none⟩) P.es.length c1, .slice a2 P.js.length c2, .slice a3 P.ss.length c3, .slice a4 P.ls.length c4, .int .i64 P.top, .int .i64 P.brake, .int .i64 P.margin, .int .i64 P.throw, .bool P.hard] 27)).alloc (.cells #[.int .i64 beg, .slice s1 ns k1, .slice s2 nr k2] 31)).alloc (.cells #[.bool false, .int .i64 at_, .int .i64 2, .int .i64 (j : Int)] 54))).heap.size 9 i0 (.string ByteArray.empty) 1 16 Tryz.underlying55 hi0 hi1 hi2 hi3 rfl (by decide) _ _ _ rfl (HO5.out.alloc _) ⟨w5.heap.size, 0, none⟩ 3 3 [.string ⟨#[103, 97, 116, 101]⟩, .string ck, .string nn] rfl rfl ?d1 ?d2 ?d3 ?d4 ?d5 ?_)) | fail)
  case d1 => exact news_at _ rfl [_, _, _] _
  case d2 => simp [Value.oneCell']
  case d3 => unfold maxLen; omega
  case d4 => omega
  case d5 => have := G5.size; simp at this ⊢; omega
  intro v6 w6 hown6 hgrow6 _
  have G6 : Gr (((w.alloc (.cells #[.slice (some ⟨bb, o, none⟩) P.es.length c1, .slice a2 P.js.length c2, .slice a3 P.ss.length c3, .slice a4 P.ls.length c4, .int .i64 P.top, .int .i64 P.brake, .int .i64 P.margin, .int .i64 P.throw, .bool P.hard] 27)).alloc (.cells #[.int .i64 beg, .slice s1 ns k1, .slice s2 nr k2] 31)).alloc (.cells #[.bool false, .int .i64 at_, .int .i64 2, .int .i64 (j : Int)] 54)) w6 := Gr.grown (G5.alloc _) hgrow6 HO5.out
  have HO6 : Hid (OwnS ((((w.alloc (.cells #[.slice (some ⟨bb, o, none⟩) P.es.length c1, .slice a2 P.js.length c2, .slice a3 P.ss.length c3, .slice a4 P.ls.length c4, .int .i64 P.top, .int .i64 P.brake, .int .i64 P.margin, .int .i64 P.throw, .bool P.hard] 27)).alloc (.cells #[.int .i64 beg, .slice s1 ns k1, .slice s2 nr k2] 31)).alloc (.cells #[.bool false, .int .i64 at_, .int .i64 2, .int .i64 (j : Int)] 54))).heap.size w6 v6 ([bGate, ck, nn])) := by show World.ownsRow _ _ _ _ _ _ _; rw [HZ3.out]; exact hown6
  obtain ⟨va6, vc6, rfl⟩ := own_form hown6
  have HJ : Hid (Calls Tryz.prog 80 #[.slice va6 3 vc6, .string ⟨#[32]⟩] w6 fun e w' => e = .returned (.string R) ∧ Gr w6 w') := by
    have := join_own HO6.out (by simp) (by rw [← HRE.out]; have := HS.out; omega) (by simp)
    rw [← HRE.out] at this
    exact this
  have hR : R.size ≤ 1000 := HS.out
  have q1 : ¬ 9223372036854775807 < R.size + 1 := by omega
  clear hown6 hgrow6 HN HX HO6
  go_wp2_with (first | (go_at_call 80; (with_reducible refine (HJ.out).mono ?_); rintro e w7 ⟨rfl, g7⟩) | fail)
  go_ret
  exact ⟨rfl, g0.trans (G6.trans g7)⟩
set_option maxRecDepth 100000 in
set_option maxHeartbeats 2000000 in
theorem toldBufT_any (pv : Value) (P : Pln) (beg : Int) (s1 s2 : Option Addr) (ns nr k1 k2 : Nat) (at_ : Int) (j : Nat) (w : World) (hP : IsPln w pv P) (hj : j < P.es.length) (hs : (jnW (wordsL P beg ⟨true, at_, 3, j⟩)).size ≤ 1000) :
    Calls Tryz.prog 47 #[pv, .agg #[.int .i64 beg, .slice s1 ns k1, .slice s2 nr k2], .agg #[.bool true, .int .i64 at_, .int .i64 3, .int .i64 (j : Int)]] w fun e w' => e = .returned (.string (jnW (wordsL P beg ⟨true, at_, 3, j⟩) ++ ⟨#[10]⟩)) ∧ Gr w w' := by
  have HPI := Lib.hid hP
  obtain ⟨a1, c1, a2, c2, a3, c3, a4, c4, rfl, h1, -, h3, -⟩ := hP
  have hm1 := IsRow.len h1
  have hm3 := IsRow.len h3
  unfold maxLen at hm1 hm3
  obtain ⟨bb, o, hsl, hb0, hc0, -⟩ := h1.at j hj
  subst hsl
  have g0 : Gr w (((w.alloc (.cells #[.slice (some ⟨bb, o, none⟩) P.es.length c1, .slice a2 P.js.length c2, .slice a3 P.ss.length c3, .slice a4 P.ls.length c4, .int .i64 P.top, .int .i64 P.brake, .int .i64 P.margin, .int .i64 P.throw, .bool P.hard] 27)).alloc (.cells #[.int .i64 beg, .slice s1 ns k1, .slice s2 nr k2] 31)).alloc (.cells #[.bool true, .int .i64 at_, .int .i64 3, .int .i64 (j : Int)] 54)) := (((Gr.refl _).alloc _).alloc _).alloc _
  have HX : Hid (∀ w', Gr (((w.alloc (.cells #[.slice (some ⟨bb, o, none⟩) P.es.length c1, .slice a2 P.js.length c2, .slice a3 P.ss.length c3, .slice a4 P.ls.length c4, .int .i64 P.top, .int .i64 P.brake, .int .i64 P.margin, .int .i64 P.throw, .bool P.hard] 27)).alloc (.cells #[.int .i64 beg, .slice s1 ns k1, .slice s2 nr k2] 31)).alloc (.cells #[.bool true, .int .i64 at_, .int .i64 3, .int .i64 (j : Int)] 54)) w' → w.heap.size + 1 + 1 < w'.heap.size ∧ w.heap.size + 1 < w'.heap.size ∧ w.heap.size < w'.heap.size ∧ w'.cell? ⟨w.heap.size, 0, none⟩ = some (.slice (some ⟨bb, o, none⟩) P.es.length c1) ∧ w'.cell? ⟨w.heap.size, 2, none⟩ = some (.slice a3 P.ss.length c3) ∧ w'.cell? ⟨w.heap.size + 1, 0, none⟩ = some (.int .i64 beg) ∧ w'.cell? ⟨w.heap.size + 1 + 1, 0, none⟩ = some (.bool true) ∧ w'.cell? ⟨w.heap.size + 1 + 1, 1, none⟩ = some (.int .i64 at_) ∧ w'.cell? ⟨w.heap.size + 1 + 1, 2, none⟩ = some (.int .i64 3) ∧ w'.cell? ⟨w.heap.size + 1 + 1, 3, none⟩ = some (.int .i64 (j : Int))) := fun w' g => by
    have z2 : w.heap.size + 1 + 1 < ((((w.alloc (.cells #[.slice (some ⟨bb, o, none⟩) P.es.length c1, .slice a2 P.js.length c2, .slice a3 P.ss.length c3, .slice a4 P.ls.length c4, .int .i64 P.top, .int .i64 P.brake, .int .i64 P.margin, .int .i64 P.throw, .bool P.hard] 27)).alloc (.cells #[.int .i64 beg, .slice s1 ns k1, .slice s2 nr k2] 31)).alloc (.cells #[.bool true, .int .i64 at_, .int .i64 3, .int .i64 (j : Int)] 54))).heap.size := by simp
    have z1 : w.heap.size + 1 < ((((w.alloc (.cells #[.slice (some ⟨bb, o, none⟩) P.es.length c1, .slice a2 P.js.length c2, .slice a3 P.ss.length c3, .slice a4 P.ls.length c4, .int .i64 P.top, .int .i64 P.brake, .int .i64 P.margin, .int .i64 P.throw, .bool P.hard] 27)).alloc (.cells #[.int .i64 beg, .slice s1 ns k1, .slice s2 nr k2] 31)).alloc (.cells #[.bool true, .int .i64 at_, .int .i64 3, .int .i64 (j : Int)] 54))).heap.size := by omega
    have z0 : w.heap.size < ((((w.alloc (.cells #[.slice (some ⟨bb, o, none⟩) P.es.length c1, .slice a2 P.js.length c2, .slice a3 P.ss.length c3, .slice a4 P.ls.length c4, .int .i64 P.top, .int .i64 P.brake, .int .i64 P.margin, .int .i64 P.throw, .bool P.hard] 27)).alloc (.cells #[.int .i64 beg, .slice s1 ns k1, .slice s2 nr k2] 31)).alloc (.cells #[.bool true, .int .i64 at_, .int .i64 3, .int .i64 (j : Int)] 54))).heap.size := by omega
    have := g.size
    exact ⟨by omega, by omega, by omega, (g.cell _ _ z0).trans (by go_simp), (g.cell _ _ z0).trans (by go_simp), (g.cell _ _ z1).trans (by go_simp), (g.cell _ _ z2).trans (by go_simp), (g.cell _ _ z2).trans (by go_simp), (g.cell _ _ z2).trans (by go_simp), (g.cell _ _ z2).trans (by go_simp)⟩
  have HAD := Lib.hid (fun w' => add_any beg at_ w')
  have HPR : Hid (∀ w', Calls Tryz.prog 45 #[.int .i64 ((beg + at_) % 86400)] w' fun e w'' => e = .returned (.string (clkT ((beg + at_) % 86400))) ∧ Gr w' w'') := fun w' => by
    have := print_any ((beg + at_) % 86400) w'
    rw [Int.emod_emod] at this
    exact this
  have HN : Hid (∀ w', Gr w w' → bb < w'.heap.size ∧ w'.cell? ⟨bb, o + j * 3, none⟩ = some (.string P.es[j].n)) := fun w' g => ⟨Nat.lt_of_lt_of_le hb0 g.size, (g.cell _ _ hb0).trans hc0⟩
  have hw : wordsL P beg ⟨true, at_, 3, j⟩ = [bTurn, bBuffer, clkT ((beg + at_) % 86400), P.es[j].n] := by
    have e2 : nameTo P ⟨true, at_, 3, j⟩ = P.es[j].n := by
      show (P.es.getD ((j : Int)).toNat default).n = _
      rw [Int.toNat_natCast, getD_at _ _ hj]
    unfold wordsL
    rw [e2]
    rfl
  have HS := Lib.hid hs
  rw [hw] at HS ⊢
  have hz3 : ((((w.alloc (.cells #[.slice (some ⟨bb, o, none⟩) P.es.length c1, .slice a2 P.js.length c2, .slice a3 P.ss.length c3, .slice a4 P.ls.length c4, .int .i64 P.top, .int .i64 P.brake, .int .i64 P.margin, .int .i64 P.throw, .bool P.hard] 27)).alloc (.cells #[.int .i64 beg, .slice s1 ns k1, .slice s2 nr k2] 31)).alloc (.cells #[.bool true, .int .i64 at_, .int .i64 3, .int .i64 (j : Int)] 54))).heap.size = w.heap.size + 1 + 1 + 1 := by simp
  have HZ3 := Lib.hid hz3
  clear hz3
  have HO0 : Hid (((((w.alloc (.cells #[.slice (some ⟨bb, o, none⟩) P.es.length c1, .slice a2 P.js.length c2, .slice a3 P.ss.length c3, .slice a4 P.ls.length c4, .int .i64 P.top, .int .i64 P.brake, .int .i64 P.margin, .int .i64 P.throw, .bool P.hard] 27)).alloc (.cells #[.int .i64 beg, .slice s1 ns k1, .slice s2 nr k2] 31)).alloc (.cells #[.bool true, .int .i64 at_, .int .i64 3, .int .i64 (j : Int)] 54))).ownsRow ((((w.alloc (.cells #[.slice (some ⟨bb, o, none⟩) P.es.length c1, .slice a2 P.js.length c2, .slice a3 P.ss.length c3, .slice a4 P.ls.length c4, .int .i64 P.top, .int .i64 P.brake, .int .i64 P.margin, .int .i64 P.throw, .bool P.hard] 27)).alloc (.cells #[.int .i64 beg, .slice s1 ns k1, .slice s2 nr k2] 31)).alloc (.cells #[.bool true, .int .i64 at_, .int .i64 3, .int .i64 (j : Int)] 54))).heap.size 9 1 (.slice none 0 0) 0 []) := ⟨rfl, .inl ⟨rfl, rfl⟩⟩
  generalize (beg + at_) % 86400 = T at HAD HPR HS ⊢
  generalize clkT T = ck at HPR HS ⊢
  generalize P.es[j].n = nn at HN HS ⊢
  obtain ⟨R, hR⟩ : ∃ R, R = jnW [bTurn, bBuffer, ck, nn] := ⟨_, rfl⟩
  rw [← hR] at HS ⊢
  have HRE := Lib.hid hR
  clear hR
  obtain ⟨i0, hi0, hi1, hi2, hi3⟩ := info_parts Tryz.infoS
  have j0 : (0 : Int) ≤ (j : Int) := by omega
  have j1 : (j : Int) < (P.es.length : Int) := by omega
  unfold plnV
  clear h1 h3 hs hw hb0 hc0
  go_enter Tryz.func47, Tryz.ntmps47
  go_wp2_with (first | (at_builtin; refine wpList_append_own _ rfl _ _ 55 rfl ((((w.alloc (.cells #[.slice (some ⟨bb, o, none⟩) P.es.length c1, .slice a2 P.js.length c2, .slice a3 P.ss.length c3, .slice a4 P.ls.length c4, .int .i64 P.top, .int .i64 P.brake, .int .i64 P.margin, .int .i64 P.throw, .bool P.hard] 27)).alloc (.cells #[.int .i64 beg, .slice s1 ns k1, .slice s2 nr k2] 31)).alloc (.cells #[.bool true, .int .i64 at_, .int .i64 3, .int .i64 (j : Int)] 54))).heap.size 9 i0 (.string ByteArray.empty) 1 16 Tryz.underlying55 hi0 hi1 hi2 hi3 rfl (by decide) _ _ _ rfl (HO0.out.alloc _) ⟨w.heap.size + 1 + 1 + 1, 0, none⟩ 1 1 [.string ⟨#[116, 117, 114, 110]⟩] rfl rfl ?c1 ?c2 ?c3 ?c4 ?c5 ?_) | fail)
  case c1 => exact news_at _ (by simp) [_] _
  case c2 => simp [Value.oneCell']
  case c3 => unfold maxLen; omega
  case c4 => omega
  case c5 => simp
  intro v4 w4 hown4 hgrow4 _
  have G4 : Gr (((w.alloc (.cells #[.slice (some ⟨bb, o, none⟩) P.es.length c1, .slice a2 P.js.length c2, .slice a3 P.ss.length c3, .slice a4 P.ls.length c4, .int .i64 P.top, .int .i64 P.brake, .int .i64 P.margin, .int .i64 P.throw, .bool P.hard] 27)).alloc (.cells #[.int .i64 beg, .slice s1 ns k1, .slice s2 nr k2] 31)).alloc (.cells #[.bool true, .int .i64 at_, .int .i64 3, .int .i64 (j : Int)] 54)) w4 := Gr.grown ((Gr.refl _).alloc _) hgrow4 HO0.out
  have HO4 : Hid (w4.ownsRow ((((w.alloc (.cells #[.slice (some ⟨bb, o, none⟩) P.es.length c1, .slice a2 P.js.length c2, .slice a3 P.ss.length c3, .slice a4 P.ls.length c4, .int .i64 P.top, .int .i64 P.brake, .int .i64 P.margin, .int .i64 P.throw, .bool P.hard] 27)).alloc (.cells #[.int .i64 beg, .slice s1 ns k1, .slice s2 nr k2] 31)).alloc (.cells #[.bool true, .int .i64 at_, .int .i64 3, .int .i64 (j : Int)] 54))).heap.size 9 1 v4 1 [.string ⟨#[116, 117, 114, 110]⟩]) := by show World.ownsRow _ _ _ _ _ _ _; rw [HZ3.out]; exact hown4
  obtain ⟨va, vc, rfl⟩ := own_form hown4
  (obtain ⟨zx, zy, zz, b0, b2, d0, l0, l1, l2, l3⟩ := HX.out _ G4)
  clear hown4 hgrow4
  go_wp2_with (first | (go_at_call 79; (with_reducible refine (HAD.out _).mono ?_); rintro e w' ⟨rfl, rfl⟩) | (go_at_call 45; (with_reducible refine (HPR.out _).mono ?_); rintro e w5 ⟨rfl, g5⟩; have G5 := (G4).trans g5; (obtain ⟨zx, zy, zz, b0, b2, d0, l0, l1, l2, l3⟩ := HX.out _ G5); have HO5 := Lib.hid (own_gr HO4.out g5); obtain ⟨z, y0⟩ := HN.out _ (g0.trans G5)) | (at_builtin; (refine wpList_append_own _ rfl _ _ 55 rfl ((((w.alloc (.cells #[.slice (some ⟨bb, o, none⟩) P.es.length c1, .slice a2 P.js.length c2, .slice a3 P.ss.length c3, .slice a4 P.ls.length c4, .int .i64 P.top, .int .i64 P.brake, .int .i64 P.margin, .int .i64 P.throw, .bool P.hard] 27)).alloc (.cells #[.int .i64 beg, .slice s1 ns k1, .slice s2 nr k2] 31)).alloc (.cells #[.bool true, .int .i64 at_, .int .i64 3, .int .i64 (j : Int)] 54))).heap.size 9 i0 (.string ByteArray.empty) 1 16 Tryz.underlying55 hi0 hi1 hi2 hi3 rfl (by decide) _ _ _ rfl (HO5.out.alloc _) ⟨w5.heap.size, 0, none⟩ 3 3 [.string ⟨#[98, 117, 102, 102, 101, 114]⟩, .string ck, .string nn] rfl rfl ?d1 ?d2 ?d3 ?d4 ?d5 ?_)) | fail)
  case d1 => exact news_at _ rfl [_, _, _] _
  case d2 => simp [Value.oneCell']
  case d3 => unfold maxLen; omega
  case d4 => omega
  case d5 => have := G5.size; simp at this ⊢; omega
  intro v6 w6 hown6 hgrow6 _
  have G6 : Gr (((w.alloc (.cells #[.slice (some ⟨bb, o, none⟩) P.es.length c1, .slice a2 P.js.length c2, .slice a3 P.ss.length c3, .slice a4 P.ls.length c4, .int .i64 P.top, .int .i64 P.brake, .int .i64 P.margin, .int .i64 P.throw, .bool P.hard] 27)).alloc (.cells #[.int .i64 beg, .slice s1 ns k1, .slice s2 nr k2] 31)).alloc (.cells #[.bool true, .int .i64 at_, .int .i64 3, .int .i64 (j : Int)] 54)) w6 := Gr.grown (G5.alloc _) hgrow6 HO5.out
  have HO6 : Hid (OwnS ((((w.alloc (.cells #[.slice (some ⟨bb, o, none⟩) P.es.length c1, .slice a2 P.js.length c2, .slice a3 P.ss.length c3, .slice a4 P.ls.length c4, .int .i64 P.top, .int .i64 P.brake, .int .i64 P.margin, .int .i64 P.throw, .bool P.hard] 27)).alloc (.cells #[.int .i64 beg, .slice s1 ns k1, .slice s2 nr k2] 31)).alloc (.cells #[.bool true, .int .i64 at_, .int .i64 3, .int .i64 (j : Int)] 54))).heap.size w6 v6 ([bTurn, bBuffer, ck, nn])) := by show World.ownsRow _ _ _ _ _ _ _; rw [HZ3.out]; exact hown6
  obtain ⟨va6, vc6, rfl⟩ := own_form hown6
  have HJ : Hid (Calls Tryz.prog 80 #[.slice va6 4 vc6, .string ⟨#[32]⟩] w6 fun e w' => e = .returned (.string R) ∧ Gr w6 w') := by
    have := join_own HO6.out (by simp) (by rw [← HRE.out]; have := HS.out; omega) (by simp)
    rw [← HRE.out] at this
    exact this
  have hR : R.size ≤ 1000 := HS.out
  have q1 : ¬ 9223372036854775807 < R.size + 1 := by omega
  clear hown6 hgrow6 HN HX HO6
  go_wp2_with (first | (go_at_call 80; (with_reducible refine (HJ.out).mono ?_); rintro e w7 ⟨rfl, g7⟩) | fail)
  go_ret
  exact ⟨rfl, g0.trans (G6.trans g7)⟩
set_option maxRecDepth 100000 in
set_option maxHeartbeats 2000000 in
theorem toldBuf_any (pv : Value) (P : Pln) (beg : Int) (s1 s2 : Option Addr) (ns nr k1 k2 : Nat) (at_ : Int) (j : Nat) (w : World) (hP : IsPln w pv P) (hj : j < P.es.length) (hs : (jnW (wordsL P beg ⟨false, at_, 3, j⟩)).size ≤ 1000) :
    Calls Tryz.prog 47 #[pv, .agg #[.int .i64 beg, .slice s1 ns k1, .slice s2 nr k2], .agg #[.bool false, .int .i64 at_, .int .i64 3, .int .i64 (j : Int)]] w fun e w' => e = .returned (.string (jnW (wordsL P beg ⟨false, at_, 3, j⟩) ++ ⟨#[10]⟩)) ∧ Gr w w' := by
  have HPI := Lib.hid hP
  obtain ⟨a1, c1, a2, c2, a3, c3, a4, c4, rfl, h1, -, h3, -⟩ := hP
  have hm1 := IsRow.len h1
  have hm3 := IsRow.len h3
  unfold maxLen at hm1 hm3
  obtain ⟨bb, o, hsl, hb0, hc0, -⟩ := h1.at j hj
  subst hsl
  have g0 : Gr w (((w.alloc (.cells #[.slice (some ⟨bb, o, none⟩) P.es.length c1, .slice a2 P.js.length c2, .slice a3 P.ss.length c3, .slice a4 P.ls.length c4, .int .i64 P.top, .int .i64 P.brake, .int .i64 P.margin, .int .i64 P.throw, .bool P.hard] 27)).alloc (.cells #[.int .i64 beg, .slice s1 ns k1, .slice s2 nr k2] 31)).alloc (.cells #[.bool false, .int .i64 at_, .int .i64 3, .int .i64 (j : Int)] 54)) := (((Gr.refl _).alloc _).alloc _).alloc _
  have HX : Hid (∀ w', Gr (((w.alloc (.cells #[.slice (some ⟨bb, o, none⟩) P.es.length c1, .slice a2 P.js.length c2, .slice a3 P.ss.length c3, .slice a4 P.ls.length c4, .int .i64 P.top, .int .i64 P.brake, .int .i64 P.margin, .int .i64 P.throw, .bool P.hard] 27)).alloc (.cells #[.int .i64 beg, .slice s1 ns k1, .slice s2 nr k2] 31)).alloc (.cells #[.bool false, .int .i64 at_, .int .i64 3, .int .i64 (j : Int)] 54)) w' → w.heap.size + 1 + 1 < w'.heap.size ∧ w.heap.size + 1 < w'.heap.size ∧ w.heap.size < w'.heap.size ∧ w'.cell? ⟨w.heap.size, 0, none⟩ = some (.slice (some ⟨bb, o, none⟩) P.es.length c1) ∧ w'.cell? ⟨w.heap.size, 2, none⟩ = some (.slice a3 P.ss.length c3) ∧ w'.cell? ⟨w.heap.size + 1, 0, none⟩ = some (.int .i64 beg) ∧ w'.cell? ⟨w.heap.size + 1 + 1, 0, none⟩ = some (.bool false) ∧ w'.cell? ⟨w.heap.size + 1 + 1, 1, none⟩ = some (.int .i64 at_) ∧ w'.cell? ⟨w.heap.size + 1 + 1, 2, none⟩ = some (.int .i64 3) ∧ w'.cell? ⟨w.heap.size + 1 + 1, 3, none⟩ = some (.int .i64 (j : Int))) := fun w' g => by
    have z2 : w.heap.size + 1 + 1 < ((((w.alloc (.cells #[.slice (some ⟨bb, o, none⟩) P.es.length c1, .slice a2 P.js.length c2, .slice a3 P.ss.length c3, .slice a4 P.ls.length c4, .int .i64 P.top, .int .i64 P.brake, .int .i64 P.margin, .int .i64 P.throw, .bool P.hard] 27)).alloc (.cells #[.int .i64 beg, .slice s1 ns k1, .slice s2 nr k2] 31)).alloc (.cells #[.bool false, .int .i64 at_, .int .i64 3, .int .i64 (j : Int)] 54))).heap.size := by simp
    have z1 : w.heap.size + 1 < ((((w.alloc (.cells #[.slice (some ⟨bb, o, none⟩) P.es.length c1, .slice a2 P.js.length c2, .slice a3 P.ss.length c3, .slice a4 P.ls.length c4, .int .i64 P.top, .int .i64 P.brake, .int .i64 P.margin, .int .i64 P.throw, .bool P.hard] 27)).alloc (.cells #[.int .i64 beg, .slice s1 ns k1, .slice s2 nr k2] 31)).alloc (.cells #[.bool false, .int .i64 at_, .int .i64 3, .int .i64 (j : Int)] 54))).heap.size := by omega
    have z0 : w.heap.size < ((((w.alloc (.cells #[.slice (some ⟨bb, o, none⟩) P.es.length c1, .slice a2 P.js.length c2, .slice a3 P.ss.length c3, .slice a4 P.ls.length c4, .int .i64 P.top, .int .i64 P.brake, .int .i64 P.margin, .int .i64 P.throw, .bool P.hard] 27)).alloc (.cells #[.int .i64 beg, .slice s1 ns k1, .slice s2 nr k2] 31)).alloc (.cells #[.bool false, .int .i64 at_, .int .i64 3, .int .i64 (j : Int)] 54))).heap.size := by omega
    have := g.size
    exact ⟨by omega, by omega, by omega, (g.cell _ _ z0).trans (by go_simp), (g.cell _ _ z0).trans (by go_simp), (g.cell _ _ z1).trans (by go_simp), (g.cell _ _ z2).trans (by go_simp), (g.cell _ _ z2).trans (by go_simp), (g.cell _ _ z2).trans (by go_simp), (g.cell _ _ z2).trans (by go_simp)⟩
  have HAD := Lib.hid (fun w' => add_any beg at_ w')
  have HPR : Hid (∀ w', Calls Tryz.prog 45 #[.int .i64 ((beg + at_) % 86400)] w' fun e w'' => e = .returned (.string (clkT ((beg + at_) % 86400))) ∧ Gr w' w'') := fun w' => by
    have := print_any ((beg + at_) % 86400) w'
    rw [Int.emod_emod] at this
    exact this
  have HN : Hid (∀ w', Gr w w' → bb < w'.heap.size ∧ w'.cell? ⟨bb, o + j * 3, none⟩ = some (.string P.es[j].n)) := fun w' g => ⟨Nat.lt_of_lt_of_le hb0 g.size, (g.cell _ _ hb0).trans hc0⟩
  have hw : wordsL P beg ⟨false, at_, 3, j⟩ = [bBuffer, clkT ((beg + at_) % 86400), P.es[j].n] := by
    have e2 : nameTo P ⟨false, at_, 3, j⟩ = P.es[j].n := by
      show (P.es.getD ((j : Int)).toNat default).n = _
      rw [Int.toNat_natCast, getD_at _ _ hj]
    unfold wordsL
    rw [e2]
    rfl
  have HS := Lib.hid hs
  rw [hw] at HS ⊢
  have hz3 : ((((w.alloc (.cells #[.slice (some ⟨bb, o, none⟩) P.es.length c1, .slice a2 P.js.length c2, .slice a3 P.ss.length c3, .slice a4 P.ls.length c4, .int .i64 P.top, .int .i64 P.brake, .int .i64 P.margin, .int .i64 P.throw, .bool P.hard] 27)).alloc (.cells #[.int .i64 beg, .slice s1 ns k1, .slice s2 nr k2] 31)).alloc (.cells #[.bool false, .int .i64 at_, .int .i64 3, .int .i64 (j : Int)] 54))).heap.size = w.heap.size + 1 + 1 + 1 := by simp
  have HZ3 := Lib.hid hz3
  clear hz3
  have HO0 : Hid (((((w.alloc (.cells #[.slice (some ⟨bb, o, none⟩) P.es.length c1, .slice a2 P.js.length c2, .slice a3 P.ss.length c3, .slice a4 P.ls.length c4, .int .i64 P.top, .int .i64 P.brake, .int .i64 P.margin, .int .i64 P.throw, .bool P.hard] 27)).alloc (.cells #[.int .i64 beg, .slice s1 ns k1, .slice s2 nr k2] 31)).alloc (.cells #[.bool false, .int .i64 at_, .int .i64 3, .int .i64 (j : Int)] 54))).ownsRow ((((w.alloc (.cells #[.slice (some ⟨bb, o, none⟩) P.es.length c1, .slice a2 P.js.length c2, .slice a3 P.ss.length c3, .slice a4 P.ls.length c4, .int .i64 P.top, .int .i64 P.brake, .int .i64 P.margin, .int .i64 P.throw, .bool P.hard] 27)).alloc (.cells #[.int .i64 beg, .slice s1 ns k1, .slice s2 nr k2] 31)).alloc (.cells #[.bool false, .int .i64 at_, .int .i64 3, .int .i64 (j : Int)] 54))).heap.size 9 1 (.slice none 0 0) 0 []) := ⟨rfl, .inl ⟨rfl, rfl⟩⟩
  generalize (beg + at_) % 86400 = T at HAD HPR HS ⊢
  generalize clkT T = ck at HPR HS ⊢
  generalize P.es[j].n = nn at HN HS ⊢
  obtain ⟨R, hR⟩ : ∃ R, R = jnW [bBuffer, ck, nn] := ⟨_, rfl⟩
  rw [← hR] at HS ⊢
  have HRE := Lib.hid hR
  clear hR
  obtain ⟨i0, hi0, hi1, hi2, hi3⟩ := info_parts Tryz.infoS
  have j0 : (0 : Int) ≤ (j : Int) := by omega
  have j1 : (j : Int) < (P.es.length : Int) := by omega
  unfold plnV
  clear h1 h3 hs hw hb0 hc0
  have HO4 : Hid (((((w.alloc (.cells #[.slice (some ⟨bb, o, none⟩) P.es.length c1, .slice a2 P.js.length c2, .slice a3 P.ss.length c3, .slice a4 P.ls.length c4, .int .i64 P.top, .int .i64 P.brake, .int .i64 P.margin, .int .i64 P.throw, .bool P.hard] 27)).alloc (.cells #[.int .i64 beg, .slice s1 ns k1, .slice s2 nr k2] 31)).alloc (.cells #[.bool false, .int .i64 at_, .int .i64 3, .int .i64 (j : Int)] 54))).ownsRow ((((w.alloc (.cells #[.slice (some ⟨bb, o, none⟩) P.es.length c1, .slice a2 P.js.length c2, .slice a3 P.ss.length c3, .slice a4 P.ls.length c4, .int .i64 P.top, .int .i64 P.brake, .int .i64 P.margin, .int .i64 P.throw, .bool P.hard] 27)).alloc (.cells #[.int .i64 beg, .slice s1 ns k1, .slice s2 nr k2] 31)).alloc (.cells #[.bool false, .int .i64 at_, .int .i64 3, .int .i64 (j : Int)] 54))).heap.size 9 1 (.slice none 0 0) 0 []) := HO0.out
  have G4 : Gr (((w.alloc (.cells #[.slice (some ⟨bb, o, none⟩) P.es.length c1, .slice a2 P.js.length c2, .slice a3 P.ss.length c3, .slice a4 P.ls.length c4, .int .i64 P.top, .int .i64 P.brake, .int .i64 P.margin, .int .i64 P.throw, .bool P.hard] 27)).alloc (.cells #[.int .i64 beg, .slice s1 ns k1, .slice s2 nr k2] 31)).alloc (.cells #[.bool false, .int .i64 at_, .int .i64 3, .int .i64 (j : Int)] 54)) (((w.alloc (.cells #[.slice (some ⟨bb, o, none⟩) P.es.length c1, .slice a2 P.js.length c2, .slice a3 P.ss.length c3, .slice a4 P.ls.length c4, .int .i64 P.top, .int .i64 P.brake, .int .i64 P.margin, .int .i64 P.throw, .bool P.hard] 27)).alloc (.cells #[.int .i64 beg, .slice s1 ns k1, .slice s2 nr k2] 31)).alloc (.cells #[.bool false, .int .i64 at_, .int .i64 3, .int .i64 (j : Int)] 54)) := Gr.refl _
  go_enter Tryz.func47, Tryz.ntmps47
  go_wp2_with (first | (go_at_call 79; (with_reducible refine (HAD.out _).mono ?_); rintro e w' ⟨rfl, rfl⟩) | (go_at_call 45; (with_reducible refine (HPR.out _).mono ?_); rintro e w5 ⟨rfl, g5⟩; have G5 := (G4).trans g5; (obtain ⟨zx, zy, zz, b0, b2, d0, l0, l1, l2, l3⟩ := HX.out _ G5); have HO5 := Lib.hid (own_gr HO4.out g5); obtain ⟨z, y0⟩ := HN.out _ (g0.trans G5)) | (at_builtin; (refine wpList_append_own _ rfl _ _ 55 rfl ((((w.alloc (.cells #[.slice (some ⟨bb, o, none⟩) P.es.length c1, .slice a2 P.js.length c2, .slice a3 P.ss.length c3, .slice a4 P.ls.length c4, .int .i64 P.top, .int .i64 P.brake, .int .i64 P.margin, .int .i64 P.throw, .bool P.hard] 27)).alloc (.cells #[.int .i64 beg, .slice s1 ns k1, .slice s2 nr k2] 31)).alloc (.cells #[.bool false, .int .i64 at_, .int .i64 3, .int .i64 (j : Int)] 54))).heap.size 9 i0 (.string ByteArray.empty) 1 16 Tryz.underlying55 hi0 hi1 hi2 hi3 rfl (by decide) _ _ _ rfl (HO5.out.alloc _) ⟨w5.heap.size, 0, none⟩ 3 3 [.string ⟨#[98, 117, 102, 102, 101, 114]⟩, .string ck, .string nn] rfl rfl ?d1 ?d2 ?d3 ?d4 ?d5 ?_)) | fail)
  case d1 => exact news_at _ rfl [_, _, _] _
  case d2 => simp [Value.oneCell']
  case d3 => unfold maxLen; omega
  case d4 => omega
  case d5 => have := G5.size; simp at this ⊢; omega
  intro v6 w6 hown6 hgrow6 _
  have G6 : Gr (((w.alloc (.cells #[.slice (some ⟨bb, o, none⟩) P.es.length c1, .slice a2 P.js.length c2, .slice a3 P.ss.length c3, .slice a4 P.ls.length c4, .int .i64 P.top, .int .i64 P.brake, .int .i64 P.margin, .int .i64 P.throw, .bool P.hard] 27)).alloc (.cells #[.int .i64 beg, .slice s1 ns k1, .slice s2 nr k2] 31)).alloc (.cells #[.bool false, .int .i64 at_, .int .i64 3, .int .i64 (j : Int)] 54)) w6 := Gr.grown (G5.alloc _) hgrow6 HO5.out
  have HO6 : Hid (OwnS ((((w.alloc (.cells #[.slice (some ⟨bb, o, none⟩) P.es.length c1, .slice a2 P.js.length c2, .slice a3 P.ss.length c3, .slice a4 P.ls.length c4, .int .i64 P.top, .int .i64 P.brake, .int .i64 P.margin, .int .i64 P.throw, .bool P.hard] 27)).alloc (.cells #[.int .i64 beg, .slice s1 ns k1, .slice s2 nr k2] 31)).alloc (.cells #[.bool false, .int .i64 at_, .int .i64 3, .int .i64 (j : Int)] 54))).heap.size w6 v6 ([bBuffer, ck, nn])) := by show World.ownsRow _ _ _ _ _ _ _; rw [HZ3.out]; exact hown6
  obtain ⟨va6, vc6, rfl⟩ := own_form hown6
  have HJ : Hid (Calls Tryz.prog 80 #[.slice va6 3 vc6, .string ⟨#[32]⟩] w6 fun e w' => e = .returned (.string R) ∧ Gr w6 w') := by
    have := join_own HO6.out (by simp) (by rw [← HRE.out]; have := HS.out; omega) (by simp)
    rw [← HRE.out] at this
    exact this
  have hR : R.size ≤ 1000 := HS.out
  have q1 : ¬ 9223372036854775807 < R.size + 1 := by omega
  clear hown6 hgrow6 HN HX HO6
  go_wp2_with (first | (go_at_call 80; (with_reducible refine (HJ.out).mono ?_); rintro e w7 ⟨rfl, g7⟩) | fail)
  go_ret
  exact ⟨rfl, g0.trans (G6.trans g7)⟩
theorem dgTold_any (pv : Value) (P : Pln) (beg : Int) (s1 s2 : Option Addr) (ns nr k1 k2 : Nat) (l : Leg) (w : World) (hP : IsPln w pv P) (hk : chk P = 0) (hl : legTo P l = true) :
    Calls Tryz.prog 47 #[pv, .agg #[.int .i64 beg, .slice s1 ns k1, .slice s2 nr k2], l.v] w fun e w' => e = .returned (.string (jnW (wordsL P beg l) ++ ⟨#[10]⟩)) ∧ Gr w w' := by
  have hs := wordsL_size (beg := beg) hk hl
  obtain ⟨h1, h2, h3, h4, h5⟩ := leg_to hk hl
  obtain ⟨tn, at_, en, tt⟩ := l
  dsimp only at h1 h4 h5
  obtain ⟨j, rfl⟩ := Int.eq_ofNat_of_zero_le h4
  unfold Leg.v
  dsimp only
  rcases h1 with rfl | rfl | rfl
  · rw [if_pos rfl] at h5
    cases tn
    · exact toldGo_any pv P beg s1 s2 ns nr k1 k2 at_ j w hP (by omega) (by omega)
    · exact toldGoT_any pv P beg s1 s2 ns nr k1 k2 at_ j w hP (by omega) (by omega)
  · rw [if_neg (by decide)] at h5
    cases tn
    · exact toldGate_any pv P beg s1 s2 ns nr k1 k2 at_ j w hP (by omega) (by omega)
    · exact toldGateT_any pv P beg s1 s2 ns nr k1 k2 at_ j w hP (by omega) (by omega)
  · rw [if_neg (by decide)] at h5
    cases tn
    · exact toldBuf_any pv P beg s1 s2 ns nr k1 k2 at_ j w hP (by omega) (by omega)
    · exact toldBufT_any pv P beg s1 s2 ns nr k1 k2 at_ j w hP (by omega) (by omega)
end Go.Proofs.YtgjnlgcdpbilfaaGreatDoor
