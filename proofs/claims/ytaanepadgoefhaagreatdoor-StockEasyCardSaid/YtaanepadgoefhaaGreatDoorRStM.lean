/- The reference's Line; stock.Print and the reference's. -/
import Derived.Test.YtaanepadgoefhaaGreatDoorRows
import Derived.Test.YtaanepadgoefhaaGreatDoorRStL
namespace Go.Proofs.YtaanepadgoefhaaGreatDoor
open Go.ChangeShapes Go.WideShapes Go.ChangeAt Go.RowKit Go.Maps
set_option linter.unusedVariables false
set_option linter.unusedSimpArgs false
theorem jnW_six (a b c d e f : ByteArray) : ⟨#[115, 116, 111, 99, 107, 32]⟩ ++ b ++ ⟨#[32]⟩ ++ c ++ ⟨#[32]⟩ ++ d ++ ⟨#[32]⟩ ++ e ++ ⟨#[32]⟩ ++ f ++ ⟨#[10]⟩ = jnW [bStock, b, c, d, e, f] ++ ⟨#[10]⟩ := by
  apply ByteArray.ext
  apply Array.toList_inj.1
  have e1 : (jnW [bStock, b, c, d, e, f]).data.toList = Lib.join [bStock.data.toList, b.data.toList, c.data.toList, d.data.toList, e.data.toList, f.data.toList] [32] := by simp [jnW]
  rw [app_data (jnW _), e1, join_cons _ _ _ (by simp), join_cons _ _ _ (by simp), join_cons _ _ _ (by simp), join_cons _ _ _ (by simp), join_cons _ _ _ (by simp), Lib.join_one]
  simp [ByteArray.data_append, bStock]
set_option maxRecDepth 100000 in
set_option maxHeartbeats 1000000 in
theorem refLine_any (nm : ByteArray) (l t a b : Int) (w : World) (hm : mayS ⟨nm, l, t, a, b⟩ = true) :
    Calls Tryz.prog 63 #[.agg #[.string nm, .int .i64 l, .int .i64 t, .int .i64 a, .int .i64 b]] w fun e w' => e = .returned (.string (lineS ⟨nm, l, t, a, b⟩ ++ ⟨#[10]⟩)) ∧ Gr w w' := by
  obtain ⟨h0, h1, h2, h3, h4⟩ := mayS_parts hm
  dsimp only at h0 h1 h2 h3 h4
  have n0 := nm_size h0
  have s1 := dgs4_size (n := l) (by omega) (by omega)
  have s2 := dgs4_size (n := t) (by omega) (by omega)
  have s3 := dgs4_size (n := a) (by omega) (by omega)
  have s4 := dgs4_size (n := b) (by omega) (by omega)
  have D1 := Lib.hid (fun w' => refDigits_any l.natAbs l w' (Nat.le_refl _) (by omega) (by omega))
  have D2 := Lib.hid (fun w' => refDigits_any t.natAbs t w' (Nat.le_refl _) (by omega) (by omega))
  have D3 := Lib.hid (fun w' => refDigits_any a.natAbs a w' (Nat.le_refl _) (by omega) (by omega))
  have D4 := Lib.hid (fun w' => refDigits_any b.natAbs b w' (Nat.le_refl _) (by omega) (by omega))
  have HR : Hid (⟨#[115, 116, 111, 99, 107, 32]⟩ ++ nm ++ ⟨#[32]⟩ ++ dgs l ++ ⟨#[32]⟩ ++ dgs t ++ ⟨#[32]⟩ ++ dgs a ++ ⟨#[32]⟩ ++ dgs b ++ ⟨#[10]⟩ = lineS ⟨nm, l, t, a, b⟩ ++ ⟨#[10]⟩) := jnW_six bStock nm (dgs l) (dgs t) (dgs a) (dgs b)
  generalize lineS ⟨nm, l, t, a, b⟩ ++ ⟨#[10]⟩ = R at HR ⊢
  generalize dgs l = d1 at D1 s1 HR
  generalize dgs t = d2 at D2 s2 HR
  generalize dgs a = d3 at D3 s3 HR
  generalize dgs b = d4 at D4 s4 HR
  have g0 : Gr w (w.alloc (.cells #[.string nm, .int .i64 l, .int .i64 t, .int .i64 a, .int .i64 b] 30)) := (Gr.refl _).alloc _
  clear hm h0 h1 h2 h3 h4
  go_enter Tryz.func63, Tryz.ntmps63
  go_upto_region 1 with (fail)
  have zb : w.heap.size < ((w.alloc (.cells #[.string nm, .int .i64 l, .int .i64 t, .int .i64 a, .int .i64 b] 30))).heap.size := by simp
  have c0 : ((w.alloc (.cells #[.string nm, .int .i64 l, .int .i64 t, .int .i64 a, .int .i64 b] 30))).cell? ⟨w.heap.size, 0, none⟩ = some (.string nm) := by rw [World.cell?_alloc_mark]; rfl
  have c1 : ((w.alloc (.cells #[.string nm, .int .i64 l, .int .i64 t, .int .i64 a, .int .i64 b] 30))).cell? ⟨w.heap.size, 1, none⟩ = some (.int .i64 l) := by rw [World.cell?_alloc_mark]; rfl
  have c2 : ((w.alloc (.cells #[.string nm, .int .i64 l, .int .i64 t, .int .i64 a, .int .i64 b] 30))).cell? ⟨w.heap.size, 2, none⟩ = some (.int .i64 t) := by rw [World.cell?_alloc_mark]; rfl
  have c3 : ((w.alloc (.cells #[.string nm, .int .i64 l, .int .i64 t, .int .i64 a, .int .i64 b] 30))).cell? ⟨w.heap.size, 3, none⟩ = some (.int .i64 a) := by rw [World.cell?_alloc_mark]; rfl
  have c4 : ((w.alloc (.cells #[.string nm, .int .i64 l, .int .i64 t, .int .i64 a, .int .i64 b] 30))).cell? ⟨w.heap.size, 4, none⟩ = some (.int .i64 b) := by rw [World.cell?_alloc_mark]; rfl
  generalize (w.alloc (.cells #[.string nm, .int .i64 l, .int .i64 t, .int .i64 a, .int .i64 b] 30)) = wr at *
  have hcb := fun (i : GrW wr) (o : Nat) => GrW.cell zb i o
  have q1 : ¬ 9223372036854775807 < 6 + nm.size := by omega
  have q2 : ¬ 9223372036854775807 < 6 + nm.size + 1 := by omega
  have q3 : ¬ 9223372036854775807 < 6 + nm.size + 1 + d1.size := by omega
  have q4 : ¬ 9223372036854775807 < 6 + nm.size + 1 + d1.size + 1 := by omega
  have q5 : ¬ 9223372036854775807 < 6 + nm.size + 1 + d1.size + 1 + d2.size := by omega
  have q6 : ¬ 9223372036854775807 < 6 + nm.size + 1 + d1.size + 1 + d2.size + 1 := by omega
  have q7 : ¬ 9223372036854775807 < 6 + nm.size + 1 + d1.size + 1 + d2.size + 1 + d3.size := by omega
  have q8 : ¬ 9223372036854775807 < 6 + nm.size + 1 + d1.size + 1 + d2.size + 1 + d3.size + 1 := by omega
  have q9 : ¬ 9223372036854775807 < 6 + nm.size + 1 + d1.size + 1 + d2.size + 1 + d3.size + 1 + d4.size := by omega
  have qa : ¬ 9223372036854775807 < 6 + nm.size + 1 + d1.size + 1 + d2.size + 1 + d3.size + 1 + d4.size + 1 := by omega
  (refine wp_region_gr (by kernel_rfl) (by kernel_rfl) ?_; (repeat (go_big_quiet_step ((go_at_call 104; first | (with_reducible exact Calls.gr_of (D1.out _)) | (with_reducible exact Calls.gr_of (D2.out _)) | (with_reducible exact Calls.gr_of (D3.out _)) | (with_reducible exact Calls.gr_of (D4.out _)))))); refine wpQuiet_nil ?_; intro wz hz; obtain ⟨iz, hz⟩ := hz; obtain ⟨wn, gn⟩ := iz; dsimp only at hz; obtain rfl := hz.symm)
  go_wp2_with fail
  go_ret
  exact ⟨ret_str HR.out, g0.trans gn⟩
end Go.Proofs.YtaanepadgoefhaaGreatDoor
