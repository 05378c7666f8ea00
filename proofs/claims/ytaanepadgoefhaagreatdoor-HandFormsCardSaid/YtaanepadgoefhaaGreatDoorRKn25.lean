/- Hand's known. -/
import Derived.Test.YtaanepadgoefhaaGreatDoorRows
import Derived.Test.YtaanepadgoefhaaGreatDoorRFinP
import Derived.Test.YtaanepadgoefhaaGreatDoorRSee
import Derived.Test.YtaanepadgoefhaaGreatDoorRAct
import Derived.Test.YtaanepadgoefhaaGreatDoorRDrv2
import Derived.Test.YtaanepadgoefhaaGreatDoorB1
namespace Go.Proofs.YtaanepadgoefhaaGreatDoor
open Go.ChangeShapes Go.WideShapes Go.ChangeAt Go.RowKit Go.Maps
set_option linter.unusedVariables false
set_option linter.unusedSimpArgs false
theorem act_eqg : Tryz.prog.eqGuardType Tryz.prog.depth 46 = false := by kernel_rfl
theorem act_stood : Tryz.prog.stoodInHeld 46 = false := by kernel_rfl
theorem act_fields : Tryz.prog.underlying 46 = some (.struct (Tryz.prog.fieldsOf 46)) := by kernel_rfl
set_option maxRecDepth 100000 in
theorem act_eql (a c : Int) (b d : Bool) (w : World) : (binOp .eql 46 (.agg #[.int .i64 a, .bool b]) (.agg #[.int .i64 c, .bool d])).run Tryz.prog w = .ok (.bool ((a == c) && (b == d))) w := by
  have hu := Tryz.underlying46
  have hf := act_fields
  rw [hu] at hf
  simp only [Option.some.injEq, TypeDesc.struct.injEq] at hf
  rw [run_eql_struct, run_equalIn_agg w 9999 _ _ _ act_fields act_stood, ← hf]
  simp [Op.eqFields, go_sem, Tryz.underlying3, Tryz.underlying4]
  by_cases h1 : a = c <;> by_cases h2 : b = d <;> simp [h1, h2]
theorem act_guard (op : BinOp) (x y : Operand) (xs ys : Array Value) (w : World) : (eqGuard op 46 x y (.agg xs) (.agg ys)).run Tryz.prog w = .ok () w := run_eqGuard_agg w op _ x y xs ys act_eqg
theorem one25_any (w : World) :
    Calls Tryz.prog 37 #[] w fun e w' => e = .returned (.agg #[.string ⟨#[120]⟩, .int .i64 5, .int .i64 10, .int .i64 2, .int .i64 5]) ∧ Gr w w' := by
  go_enter Tryz.func37, Tryz.ntmps37
  go_wp2
  refine bodyPost_ret (v := .agg #[.string ⟨#[120]⟩, .int .i64 5, .int .i64 10, .int .i64 2, .int .i64 5]) (by simp [results, Tryz.results37, go_sem]) rfl ⟨rfl, ?_⟩
  exact (Gr.refl _).alloc _
theorem vals3 {w : World} {b c : Nat} {x y z : Int} (hb : b < w.heap.size) (h0 : w.cell? ⟨b, 0, none⟩ = some (.int .i64 x)) (h1 : w.cell? ⟨b, 1, none⟩ = some (.int .i64 y)) (h2 : w.cell? ⟨b, 2, none⟩ = some (.int .i64 z)) : IsVals w (.slice (some ⟨b, 0, none⟩) 3 c) (([x, y, z] : List Int).map (Value.int .i64)) :=
  ⟨_, c, rfl, by unfold maxLen; simp, .inr ⟨b, 0, rfl, hb, fun i u hi => by
    match i, hi with
    | 0, hi => cases hi; exact h0
    | 1, hi => cases hi; exact h1
    | 2, hi => cases hi; exact h2⟩⟩
theorem vals5 {w : World} {b c : Nat} {x y z p q : Int} (hb : b < w.heap.size) (h0 : w.cell? ⟨b, 0, none⟩ = some (.int .i64 x)) (h1 : w.cell? ⟨b, 1, none⟩ = some (.int .i64 y)) (h2 : w.cell? ⟨b, 2, none⟩ = some (.int .i64 z)) (h3 : w.cell? ⟨b, 3, none⟩ = some (.int .i64 p)) (h4 : w.cell? ⟨b, 4, none⟩ = some (.int .i64 q)) : IsVals w (.slice (some ⟨b, 0, none⟩) 5 c) (([x, y, z, p, q] : List Int).map (Value.int .i64)) :=
  ⟨_, c, rfl, by unfold maxLen; simp, .inr ⟨b, 0, rfl, hb, fun i u hi => by
    match i, hi with
    | 0, hi => cases hi; exact h0
    | 1, hi => cases hi; exact h1
    | 2, hi => cases hi; exact h2
    | 3, hi => cases hi; exact h3
    | 4, hi => cases hi; exact h4⟩⟩
def bdyK : Bdy := ⟨2, [⟨1, 1⟩], 9, 0, 4⟩
theorem bdyK_is {w : World} {b c : Nat} (hb : b < w.heap.size) (h0 : w.cell? ⟨b, 0, none⟩ = some (.int .i64 1)) (h1 : w.cell? ⟨b, 1, none⟩ = some (.int .i64 1)) : IsBdy w (.agg #[.int .i64 2, .slice (some ⟨b, 0, none⟩) 1 c, .int .i64 9, .int .i64 0, .int .i64 4]) bdyK :=
  ⟨_, c, rfl, ⟨_, c, rfl, by unfold maxLen; simp [bdyK], .inr ⟨b, 0, rfl, hb, fun i j hi hj => by
    have e : i = 0 := by have : i < 1 := hi; omega
    subst e
    match j, hj with
    | 0, _ => exact h0
    | 1, _ => exact h1⟩⟩⟩
theorem bdyK_ok : ∀ x ∈ bdyK.trail, PrtOk x := by
  intro x hx
  have : x = ⟨1, 1⟩ := by simpa [bdyK] using hx
  subst this
  exact ⟨I64_of (by decide) (by decide), I64_of (by decide) (by decide)⟩
theorem sees1 : seesP smallP [0, 0, 1] [0, 0, 0, 0, 0] bdyK = 9 := by kernel_rfl
theorem sees2 : seesP smallP [0, 0, 2] [0, 1, 0, 0, 0] bdyK = 49 := by kernel_rfl
theorem parK1 : parseD ⟨#[116, 97, 112, 101, 32, 51, 32, 45, 52, 32, 49, 48, 48, 48]⟩ = some ⟨3, [3, -4, 1000]⟩ := by kernel_rfl
set_option maxRecDepth 100000 in
set_option maxHeartbeats 2000000 in
theorem known25_any (w : World) (ht : w.ShapedOpen Tryz.prog) : Calls Tryz.prog 11 #[] w fun e w' => e = .returned (.bool true) ∧ Gr w w' := by
  have HPA : Hid (∀ w', w'.ShapedOpen Tryz.prog → Calls Tryz.prog 36 #[.string ⟨#[116, 97, 112, 101, 32, 51, 32, 45, 52, 32, 49, 48, 48, 48]⟩] w' fun e w'' => ∃ da dc, e = .returned (.tuple #[.agg #[.int .i64 3, .slice da 3 dc], .bool true]) ∧ IsVals w'' (.slice da 3 dc) (([3, -4, 1000] : List Int).map (Value.int .i64)) ∧ Gr w' w'') := fun w' ht => (parse_any _ (by decide) w' ht).mono fun e w'' ⟨v, he, hd, g⟩ => by
    rw [parK1] at he hd
    obtain ⟨da, dc, rfl, hv⟩ := hd
    exact ⟨da, dc, he, hv, g⟩
  have s1 := Lib.hid sees1
  have s2 := Lib.hid sees2
  go_enter Tryz.func11, Tryz.ntmps11
  go_wp2_with fail
  refine (small_any _).mono ?_
  rintro e w1 ⟨v, rfl, hP, g1⟩
  go_wp2_with fail
  refine (made_fine v smallP w1 hP small_ok small_fine).mono ?_
  rintro e w2 ⟨b, rfl, hnet, g2⟩
  have HB : Hid (∀ w', Gr ((w2.alloc (.cells #[.int .i64 1, .int .i64 1] 68)).alloc (.cells #[.int .i64 2, .slice (some ⟨w2.heap.size, 0, none⟩) 1 1, .int .i64 9, .int .i64 0, .int .i64 4] 33)) w' → w2.heap.size < w'.heap.size ∧ w2.heap.size + 1 < w'.heap.size ∧ w'.cell? ⟨w2.heap.size, 0, none⟩ = some (.int .i64 1) ∧ w'.cell? ⟨w2.heap.size, 1, none⟩ = some (.int .i64 1) ∧ w'.cell? ⟨w2.heap.size + 1, 0, none⟩ = some (.int .i64 2) ∧ w'.cell? ⟨w2.heap.size + 1, 1, none⟩ = some (.slice (some ⟨w2.heap.size, 0, none⟩) 1 1) ∧ w'.cell? ⟨w2.heap.size + 1, 2, none⟩ = some (.int .i64 9) ∧ w'.cell? ⟨w2.heap.size + 1, 3, none⟩ = some (.int .i64 0) ∧ w'.cell? ⟨w2.heap.size + 1, 4, none⟩ = some (.int .i64 4)) := by
    intro w' g
    have z1 : w2.heap.size + 1 < (((w2.alloc (.cells #[.int .i64 1, .int .i64 1] 68)).alloc (.cells #[.int .i64 2, .slice (some ⟨w2.heap.size, 0, none⟩) 1 1, .int .i64 9, .int .i64 0, .int .i64 4] 33))).heap.size := by simp
    have z0 : w2.heap.size < (((w2.alloc (.cells #[.int .i64 1, .int .i64 1] 68)).alloc (.cells #[.int .i64 2, .slice (some ⟨w2.heap.size, 0, none⟩) 1 1, .int .i64 9, .int .i64 0, .int .i64 4] 33))).heap.size := by omega
    exact ⟨Nat.lt_of_lt_of_le z0 g.size, Nat.lt_of_lt_of_le z1 g.size, (g.cell _ _ z0).trans (by go_simp), (g.cell _ _ z0).trans (by go_simp), (g.cell _ _ z1).trans (by go_simp), (g.cell _ _ z1).trans (by go_simp), (g.cell _ _ z1).trans (by go_simp), (g.cell _ _ z1).trans (by go_simp), (g.cell _ _ z1).trans (by go_simp)⟩
  have hW2 : Gr w2 ((w2.alloc (.cells #[.int .i64 1, .int .i64 1] 68)).alloc (.cells #[.int .i64 2, .slice (some ⟨w2.heap.size, 0, none⟩) 1 1, .int .i64 9, .int .i64 0, .int .i64 4] 33)) := ((Gr.refl _).alloc _).alloc _
  have gw2 := g1.trans g2
  go_wp2_with fail
  refine (sees_any b smallP _ _ _ [0, 0, 1] [0, 0, 0, 0, 0] bdyK _ (hnet.gr ?_) ?_ ?_ ?_ small_ok bdyK_ok (fun m => (fine_len (fine_chk small_fine) m).1)).mono ?_
  · exact (hW2.alloc _).alloc _
  · exact vals3 (by first | (simp; done) | (simp; omega)) (by go_simp) (by go_simp) (by go_simp)
  · exact vals5 (by simp) (by go_simp) (by go_simp) (by go_simp) (by go_simp) (by go_simp)
  · exact bdyK_is (by first | (simp; done) | (simp; omega)) (by go_simp) (by go_simp)
  rintro e w3 ⟨rfl, g3⟩
  have G3 : Gr ((w2.alloc (.cells #[.int .i64 1, .int .i64 1] 68)).alloc (.cells #[.int .i64 2, .slice (some ⟨w2.heap.size, 0, none⟩) 1 1, .int .i64 9, .int .i64 0, .int .i64 4] 33)) w3 := (((Gr.refl _).alloc _).alloc _).trans g3
  obtain ⟨zq, zb, t0, t1, b0, b1, b2, b3, b4⟩ := HB.out _ G3
  rw [s1.out]
  go_wp2_with fail
  refine (sees_any b smallP _ _ _ [0, 0, 2] [0, 1, 0, 0, 0] bdyK _ (hnet.gr ?_) ?_ ?_ ?_ small_ok bdyK_ok (fun m => (fine_len (fine_chk small_fine) m).1)).mono ?_
  · exact ((hW2.trans G3).alloc _).alloc _
  · exact vals3 (by first | (simp; done) | (simp; omega)) (by go_simp) (by go_simp) (by go_simp)
  · exact vals5 (by simp) (by go_simp) (by go_simp) (by go_simp) (by go_simp) (by go_simp)
  · exact bdyK_is (by first | (simp; done) | (simp; omega)) (by go_simp) (by go_simp)
  rintro e w4 ⟨rfl, g4⟩
  have G4 : Gr ((w2.alloc (.cells #[.int .i64 1, .int .i64 1] 68)).alloc (.cells #[.int .i64 2, .slice (some ⟨w2.heap.size, 0, none⟩) 1 1, .int .i64 9, .int .i64 0, .int .i64 4] 33)) w4 := ((G3.alloc _).alloc _).trans g4
  clear t0 t1 b0 b1 b2 b3 b4 zq zb
  obtain ⟨zq, zb, t0, t1, b0, b1, b2, b3, b4⟩ := HB.out _ G4
  rw [s2.out]
  go_wp2_with fail
  refine (HPA.out w4 (shp_gr ht (gw2.trans (hW2.trans G4)))).mono ?_
  rintro e w5 ⟨da, dc, rfl, hv5, g5⟩
  have G5 := G4.trans g5
  clear t0 t1 b0 b1 b2 b3 b4 zq zb
  go_upto_region 8 with (fail)
  have GN : Gr w5 (w5.alloc (.cells #[.int .i64 3, .slice da 3 dc] 35)) := (Gr.refl _).alloc _
  have hvn := hv5.gr GN
  have n0 : (w5.alloc (.cells #[.int .i64 3, .slice da 3 dc] 35)).cell? ⟨w5.heap.size, 0, none⟩ = some (.int .i64 3) := by rw [World.cell?_alloc_mark]; rfl
  have n1 : (w5.alloc (.cells #[.int .i64 3, .slice da 3 dc] 35)).cell? ⟨w5.heap.size, 1, none⟩ = some (.slice da 3 dc) := by rw [World.cell?_alloc_mark]; rfl
  have zd : w5.heap.size < (w5.alloc (.cells #[.int .i64 3, .slice da 3 dc] 35)).heap.size := by simp
  obtain ⟨zq, zb, t0, t1, b0, b1, b2, b3, b4⟩ := HB.out _ (G5.trans GN)
  have gfin := gw2.trans (hW2.trans (G5.trans GN))
  generalize w5.alloc (.cells #[.int .i64 3, .slice da 3 dc] 35) = wr at *
  have HBD := Lib.hid (fun (w' : World) (g : Gr wr w') => bdyK_is (c := 1) (Nat.lt_of_lt_of_le zq g.size) ((g.cell _ _ zq).trans t0) ((g.cell _ _ zq).trans t1))
  have hst : ((1 : Int) ≤ 10 ∧ (10 : Int) ≤ 60) ∧ ((1 : Int) ≤ 2 ∧ (2 : Int) ≤ 10) ∧ ((1 : Int) ≤ 5 ∧ (5 : Int) ≤ 10) := by decide
  have HST := Lib.hid hst
  clear hst
  have A1 : Hid (∀ w', Gr wr w' → Calls Tryz.prog 19 #[.agg #[.int .i64 1, .slice none 0 0], .int .i64 0, .agg #[.string ⟨#[120]⟩, .int .i64 5, .int .i64 10, .int .i64 2, .int .i64 5], .agg #[.int .i64 2, .slice (some ⟨w2.heap.size, 0, none⟩) 1 1, .int .i64 9, .int .i64 0, .int .i64 4], .int .i64 9, .bool true] w' fun e w'' => e = .returned (.agg #[.int .i64 10, .bool false]) ∧ Gr w' w'') :=
    fun w' g => act_any ⟨1, []⟩ _ _ bdyK _ 5 10 2 5 0 9 true HST.out.1 HST.out.2.1 HST.out.2.2 w' ⟨none, 0, rfl, ⟨none, 0, rfl, by simp, .inl rfl⟩⟩ (HBD.out w' g)
  have A2 : Hid (∀ w', Gr wr w' → Calls Tryz.prog 19 #[.agg #[.int .i64 2, .slice none 0 0], .int .i64 0, .agg #[.string ⟨#[120]⟩, .int .i64 5, .int .i64 10, .int .i64 2, .int .i64 5], .agg #[.int .i64 2, .slice (some ⟨w2.heap.size, 0, none⟩) 1 1, .int .i64 9, .int .i64 0, .int .i64 4], .int .i64 9, .bool false] w' fun e w'' => e = .returned (.agg #[.int .i64 2, .bool false]) ∧ Gr w' w'') :=
    fun w' g => act_any ⟨2, []⟩ _ _ bdyK _ 5 10 2 5 0 9 false HST.out.1 HST.out.2.1 HST.out.2.2 w' ⟨none, 0, rfl, ⟨none, 0, rfl, by simp, .inl rfl⟩⟩ (HBD.out w' g)
  have A3 : Hid (∀ w', Gr wr w' → Calls Tryz.prog 19 #[.agg #[.int .i64 3, .slice da 3 dc], .int .i64 2, .agg #[.string ⟨#[120]⟩, .int .i64 5, .int .i64 10, .int .i64 2, .int .i64 5], .agg #[.int .i64 2, .slice (some ⟨w2.heap.size, 0, none⟩) 1 1, .int .i64 9, .int .i64 0, .int .i64 4], .int .i64 9, .bool false] w' fun e w'' => e = .returned (.agg #[.int .i64 0, .bool true]) ∧ Gr w' w'') :=
    fun w' g => act_any ⟨3, [3, -4, 1000]⟩ _ _ bdyK _ 5 10 2 5 2 9 false HST.out.1 HST.out.2.1 HST.out.2.2 w' ⟨da, dc, rfl, hvn.gr g⟩ (HBD.out w' g)
  have A4 : Hid (∀ w', Gr wr w' → Calls Tryz.prog 19 #[.agg #[.int .i64 3, .slice da 3 dc], .int .i64 1, .agg #[.string ⟨#[120]⟩, .int .i64 5, .int .i64 10, .int .i64 2, .int .i64 5], .agg #[.int .i64 2, .slice (some ⟨w2.heap.size, 0, none⟩) 1 1, .int .i64 9, .int .i64 0, .int .i64 4], .int .i64 9, .bool false] w' fun e w'' => e = .returned (.agg #[.int .i64 (-4), .bool false]) ∧ Gr w' w'') :=
    fun w' g => act_any ⟨3, [3, -4, 1000]⟩ _ _ bdyK _ 5 10 2 5 1 9 false HST.out.1 HST.out.2.1 HST.out.2.2 w' ⟨da, dc, rfl, hvn.gr g⟩ (HBD.out w' g)
  have E1 : ∀ w, (binOp .eql 46 (.agg #[.int .i64 10, .bool false]) (.agg #[.int .i64 10, .bool false])).run Tryz.prog w = .ok (.bool true) w := fun w => act_eql 10 10 false false w
  have E2 : ∀ w, (binOp .eql 46 (.agg #[.int .i64 2, .bool false]) (.agg #[.int .i64 2, .bool false])).run Tryz.prog w = .ok (.bool true) w := fun w => act_eql 2 2 false false w
  have E3 : ∀ w, (binOp .eql 46 (.agg #[.int .i64 0, .bool true]) (.agg #[.int .i64 0, .bool true])).run Tryz.prog w = .ok (.bool true) w := fun w => act_eql 0 0 true true w
  have E4 : ∀ w, (binOp .eql 46 (.agg #[.int .i64 (-4), .bool false]) (.agg #[.int .i64 (-4), .bool false])).run Tryz.prog w = .ok (.bool true) w := fun w => act_eql (-4) (-4) false false w
  have GG := act_guard .eql
  have hcb := fun (i : GrW wr) (o : Nat) => GrW.cell zb i o
  have hcd := fun (i : GrW wr) (o : Nat) => GrW.cell zd i o
  clear HB HBD HST s1 s2 HPA hP g1 g2 g3 g4 G3 G4 hW2 gw2 t0 t1 hnet hv5 hvn
  (refine wp_region_gr (by kernel_rfl) (by kernel_rfl) ?_; (repeat (go_big_quiet_step ((first | (go_at_call 37; exact Calls.gr_of (one25_any _)) | (go_at_call 19; first | (with_reducible exact Calls.gr_of (A1.out _ (GrW.gr _))) | (with_reducible exact Calls.gr_of (A2.out _ (GrW.gr _))) | (with_reducible exact Calls.gr_of (A3.out _ (GrW.gr _))) | (with_reducible exact Calls.gr_of (A4.out _ (GrW.gr _)))))))); refine wpQuiet_nil ?_; intro wz hz; obtain ⟨iz, hz⟩ := hz; obtain ⟨wn, gn⟩ := iz; dsimp only at hz; obtain rfl := hz.symm)
  go_wp2_with fail
  go_ret
  exact ⟨rfl, gfin.trans gn⟩
end Go.Proofs.YtaanepadgoefhaaGreatDoor
