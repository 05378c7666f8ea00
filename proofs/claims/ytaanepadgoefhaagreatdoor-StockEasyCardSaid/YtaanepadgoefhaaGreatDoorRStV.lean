/- stock.read, Parse; the reference's Parse. -/
import Derived.Test.YtaanepadgoefhaaGreatDoorRows
import Derived.Test.YtaanepadgoefhaaGreatDoorRStU
import Derived.Test.YtaanepadgoefhaaGreatDoorRStT
import Derived.Test.YtaanepadgoefhaaGreatDoorRWrd1
import Derived.Test.YtaanepadgoefhaaGreatDoorRWrd2
namespace Go.Proofs.YtaanepadgoefhaaGreatDoor
open Go.ChangeShapes Go.WideShapes Go.ChangeAt Go.RowKit Go.Maps
set_option linter.unusedVariables false
set_option linter.unusedSimpArgs false
/-- a slice of its own, of kinds -/
def OwnK (B : Nat) (w : World) (v : Value) (L : List Stk) : Prop := w.ownsRow B 30 5 v L.length (L.flatMap Stk.cs)
theorem OwnK.nil (B : Nat) (w : World) : OwnK B w (.slice none 0 0) [] := ⟨rfl, .inl ⟨rfl, rfl⟩⟩
theorem OwnK.snoc {B : Nat} {w : World} {v : Value} {L : List Stk} {s : Stk} (h : w.ownsRow B 30 5 v (L.length + 1) (L.flatMap Stk.cs ++ s.cs)) : OwnK B w v (L ++ [s]) := by
  unfold OwnK
  simpa using h
theorem OwnK.stks {B : Nat} {w : World} {v : Value} {L : List Stk} (h : OwnK B w v L) (hl : L.length ≤ maxLen) : IsStks w v L := by
  refine ⟨row_of_own h hl fun i j hi hj => ?_, ?_⟩
  · rw [flat_get Stk.cs 5 (fun _ => rfl) L i j hi hj]
    rw [getD_at _ _ hi]
    match j, hj with
    | 0, _ => rfl
    | 1, _ => rfl
    | 2, _ => rfl
    | 3, _ => rfl
    | 4, _ => rfl
  · intro a n c e
    rcases h.2 with ⟨rfl, h0⟩ | ⟨g, cap, cur, rfl, _, _, hc, _⟩
    · cases e; omega
    · cases e; exact hc
theorem Tryz.infoK : (Tryz.prog.info? 30).map (fun i => (i.zero, i.size, i.bytes)) = some (some (.agg #[.string ByteArray.empty, .int .i64 0, .int .i64 0, .int .i64 0, .int .i64 0]), 5, 48) := by kernel_rfl
theorem unl_len : ∀ (L : List ByteArray), L.length ≤ (unl L).size ∧ ∀ x ∈ L, x.size ≤ (unl L).size
  | [] => ⟨by simp, fun x hx => by cases hx⟩
  | x :: t => by
    have ih := unl_len t
    have h1 : (⟨#[10]⟩ : ByteArray).size = 1 := rfl
    unfold unl
    simp only [size_app, h1, List.length_cons]
    refine ⟨by omega, fun y hy => ?_⟩
    rcases List.mem_cons.1 hy with rfl | hy
    · omega
    · have := ih.2 y hy; omega
theorem lnB_bd (s : ByteArray) : (lnB s).length ≤ s.size + 1 ∧ ∀ x ∈ lnB s, x.size ≤ s.size + 1 := by
  have h := unl_len (lnB s)
  have h1 : (⟨#[10]⟩ : ByteArray).size = 1 := rfl
  rcases unl_lnB s with e | e
  · rw [e] at h
    exact ⟨by omega, fun x hx => by have := h.2 x hx; omega⟩
  · rw [e, size_app, h1] at h
    exact ⟨h.1, h.2⟩
theorem wdS_ne {s : ByteArray} {L : List ByteArray} (h : wdB s = some L) : L ≠ [] ∧ L.length ≤ s.size + 1 ∧ ∀ x ∈ L, x.size ≤ s.size := by
  rw [wdB_pcs] at h
  split at h
  · cases h
    refine ⟨?_, ?_, fun x hx => pcs_size hx⟩
    · intro e
      have h1 := pcs_len s
      rw [e] at h1
      simp at h1
    · rw [pcs_len]
      have := Lib.countB_le blank (by rw [blank_size]; omega) s.size s (Nat.le_refl _)
      omega
  · cases h
theorem readS_nm {x : ByteArray} {s : Stk} (h : readS x = some s) : s.nm.size ≤ x.size := by
  unfold readS at h
  cases hw : wdB x with
  | none => rw [hw] at h; cases h
  | some l =>
    rw [hw] at h
    dsimp only at h
    have := rowS_inv h
    exact (wdS_ne hw).2.2 s.nm (by rw [this]; unfold wordsS; simp)
theorem reads_nm : ∀ {l : List ByteArray} {L : List Stk} {n : Nat}, l.map readS = L.map some → (∀ x ∈ l, x.size ≤ n) → ∀ s ∈ L, s.nm.size ≤ n
  | [], L, n, h, _ => by cases L with | nil => intro s hs; cases hs | cons a t => cases h
  | x :: t, L, n, h, hn => by
    cases L with
    | nil => cases h
    | cons a T =>
      simp only [List.map_cons, List.cons.injEq] at h
      intro s hs
      rcases List.mem_cons.1 hs with rfl | hs
      · exact Nat.le_trans (readS_nm h.1) (hn x (by simp))
      · exact reads_nm h.2 (fun y hy => hn y (List.mem_cons_of_mem _ hy)) s hs
theorem stkR_form (o : Option Stk) : ∃ kn kl kt ka kb, stkR o = .tuple #[.agg #[.string kn, .int .i64 kl, .int .i64 kt, .int .i64 ka, .int .i64 kb], .bool o.isSome] ∧ (∀ s, o = some s → s = ⟨kn, kl, kt, ka, kb⟩) := by
  cases o with
  | none => exact ⟨⟨#[]⟩, 0, 0, 0, 0, rfl, fun s h => by cases h⟩
  | some s => exact ⟨s.nm, s.l, s.t, s.a, s.b, rfl, fun s' h => by cases h; rfl⟩
set_option maxRecDepth 100000 in
set_option maxHeartbeats 1000000 in
theorem stRead_any (s : ByteArray) (hs : s.size ≤ 1048576) (w : World) (ht : w.ShapedOpen Tryz.prog) :
    Calls Tryz.prog 65 #[.string s] w fun e w' => e = .returned (stkR (readS s)) ∧ Gr w w' := by
  have g0 : Gr w (w.alloc (.cells #[.string ⟨#[]⟩, .int .i64 0, .int .i64 0, .int .i64 0, .int .i64 0] 30)) := (Gr.refl _).alloc _
  have hh : w.heap.size ≤ w.heap.size := Nat.le_refl _
  have HW := words_cap s hs _ (shp_gr ht g0)
  cases hw : wdB s with
  | none =>
    have HR : Hid (readS s = none) := by show _ = _; unfold readS; rw [hw]
    have HW1 : Hid (Calls Tryz.prog 76 #[.string s] (w.alloc (.cells #[.string ⟨#[]⟩, .int .i64 0, .int .i64 0, .int .i64 0, .int .i64 0] 30)) fun e w'' => ∃ v, e = .returned (.tuple #[v, .bool false]) ∧ Gr (w.alloc (.cells #[.string ⟨#[]⟩, .int .i64 0, .int .i64 0, .int .i64 0, .int .i64 0] 30)) w'') := by
      rw [hw] at HW
      exact HW.mono fun e w2 ⟨v, he, _, _, hg⟩ => ⟨v, he, hg⟩
    clear HW hw
    go_enter Tryz.func65, Tryz.ntmps65
    go_wp2_with (first | (go_at_call 76; (with_reducible refine (HW1.out).mono ?_); rintro e w4 ⟨v4, rfl, g4⟩; obtain ⟨z4, k0, k1, k2, k3, k4, f0, f1, f2, f3, f4⟩ := stk_box g4) | fail)
    refine bodyPost_ret (v := .tuple #[.agg #[.string ⟨#[]⟩, .int .i64 0, .int .i64 0, .int .i64 0, .int .i64 0], .bool false]) (by simp [results, Tryz.results65, go_sem, z4, k0, k1, k2, k3, k4, f0, f1, f2, f3, f4]) rfl ⟨by rw [HR.out]; rfl, ?_⟩
    first | exact g0.trans g4 | exact (((((g0.trans g4).setCell hh _).setCell hh _).setCell hh _).setCell hh _).setCell hh _
  | some L =>
    have HR : Hid (readS s = rowS L) := by show _ = _; unfold readS; rw [hw]
    have HW1 : Hid (Calls Tryz.prog 76 #[.string s] (w.alloc (.cells #[.string ⟨#[]⟩, .int .i64 0, .int .i64 0, .int .i64 0, .int .i64 0] 30)) fun e w'' => ∃ v, e = .returned (.tuple #[v, .bool true]) ∧ IsVals w'' v (L.map Value.string) ∧ CapOk v ∧ Gr (w.alloc (.cells #[.string ⟨#[]⟩, .int .i64 0, .int .i64 0, .int .i64 0, .int .i64 0] 30)) w'') := by
      rw [hw] at HW
      exact HW
    have hsz := (wdS_ne hw).2.2
    obtain ⟨kn, kl, kt, ka, kb, hf, -⟩ := stkR_form (rowS L)
    have HF := Lib.hid hf
    have HS : Hid (∀ v w', IsVals w' v (L.map Value.string) → CapOk v → Calls Tryz.prog 106 #[v] w' fun e w'' => e = .returned (.tuple #[.agg #[.string kn, .int .i64 kl, .int .i64 kt, .int .i64 ka, .int .i64 kb], .bool (rowS L).isSome]) ∧ Gr w' w'') := fun v w' h1 h2 => by
      have := halfStock_any v L w' h1 h2 (fun x hx => by have := hsz x hx; unfold maxLen; omega)
      rw [hf] at this
      exact this
    generalize (rowS L).isSome = q at HS HF
    clear HW hw hf hsz
    go_enter Tryz.func65, Tryz.ntmps65
    go_wp2_with (first | (go_at_call 76; (with_reducible refine (HW1.out).mono ?_); rintro e w4 ⟨v4, rfl, hv4, hc4, g4⟩; have HV4 := Lib.hid hv4; have HC4 := Lib.hid hc4; clear hv4 hc4) | (go_at_call 106; (with_reducible refine (HS.out _ _ HV4.out HC4.out).mono ?_); rintro e w5 ⟨rfl, g5⟩; obtain ⟨z4, k0, k1, k2, k3, k4, f0, f1, f2, f3, f4⟩ := stk_box (g4.trans g5)) | fail)
    refine bodyPost_ret (v := .tuple #[.agg #[.string kn, .int .i64 kl, .int .i64 kt, .int .i64 ka, .int .i64 kb], .bool q]) (by simp [results, Tryz.results65, go_sem, z4, k0, k1, k2, k3, k4, f0, f1, f2, f3, f4]) rfl ⟨by rw [HR.out, HF.out], ?_⟩
    exact (((((g0.trans (g4.trans g5)).setCell hh _).setCell hh _).setCell hh _).setCell hh _).setCell hh _
end Go.Proofs.YtaanepadgoefhaaGreatDoor
