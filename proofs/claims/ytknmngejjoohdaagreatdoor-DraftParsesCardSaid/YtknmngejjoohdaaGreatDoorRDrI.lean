/- draft.Parse. -/
import Derived.Test.YtknmngejjoohdaaGreatDoorRows
import Derived.Test.YtknmngejjoohdaaGreatDoorRDrH
import Derived.Test.YtknmngejjoohdaaGreatDoorB19
import Derived.Test.YtknmngejjoohdaaGreatDoorB15
import Derived.WalkMore
import Derived.Deep.LoopGhost
namespace Go.Proofs.YtknmngejjoohdaaGreatDoor
open Go.ChangeShapes Go.WideShapes Go.ChangeAt Go.RowKit Go.Maps
set_option linter.unusedVariables false
set_option linter.unusedSimpArgs false
def RetPp (w : World) (r : Pln × Int × Int) (e : Ending) (w' : World) : Prop := ∃ v, e = .returned (.tuple #[v, .int .i64 r.2.1, .int .i64 r.2.2]) ∧ IsPln w' v r.1 ∧ Gr w w'
theorem IsPln.nil (w : World) : IsPln w (.agg #[.slice none 0 0, .slice none 0 0, .slice none 0 0, .slice none 0 0, .int .i64 0, .int .i64 0, .int .i64 0, .int .i64 0, .bool false]) pln0 :=
  ⟨none, 0, none, 0, none, 0, none, 0, rfl, ⟨none, 0, rfl, Nat.zero_le _, .inl rfl⟩, ⟨none, 0, rfl, Nat.zero_le _, .inl rfl⟩, ⟨none, 0, rfl, Nat.zero_le _, .inl rfl⟩, ⟨fun _ => .int .i64 0, ⟨none, 0, rfl, Nat.zero_le _, .inl rfl⟩, fun i hi => by cases hi⟩⟩
theorem RetPp.no {w w' : World} {r : Pln × Int × Int} {n e : Int} (h : r = (pln0, n, e)) (g : Gr w w') : RetPp w r (.returned (.tuple #[.agg #[.slice none 0 0, .slice none 0 0, .slice none 0 0, .slice none 0 0, .int .i64 0, .int .i64 0, .int .i64 0, .int .i64 0, .bool false], .int .i64 n, .int .i64 e])) w' := by
  subst h; exact ⟨_, rfl, IsPln.nil _, g⟩
theorem RetPp.yes {w w' : World} {r : Pln × Int × Int} {P : Pln} {v : Value} {n : Int} (h : r = (P, n, 0)) (hv : IsPln w' v P) (g : Gr w w') : RetPp w r (.returned (.tuple #[v, .int .i64 n, .int .i64 0])) w' := by
  subst h; exact ⟨_, rfl, hv, g⟩
theorem DrS.setc {b B : Nat} {w : World} {P : Pln} {e j s l : Value} (h : DrS b B w P e j s l) (a : Addr) (ha : a.block < B) (u : Value) : DrS b B (w.setCell a u) P e j s l := by
  obtain ⟨h0, hz, h1, h2, h3, A, h4, h5, h6⟩ := h
  have q : ∀ {e : TypeId} {sz n : Nat} {v : Value} {xs : List Value}, w.ownsRow B e sz v n xs → (w.setCell a u).ownsRow B e sz v n xs := fun h => ownsRow_setCell_below h ha u
  exact ⟨h0, by simpa using hz, q h1, q h2, q h3, A, q h4, fun x hx => ⟨q (h5 x hx).1, (h5 x hx).2⟩, h6⟩
theorem dvals_blk {w : World} {b : Nat} {cs : Array Value} {T : TypeId} {a : Option Addr} {n c : Nat} {X : List ByteArray} (hb : w.heap[b]? = some (.cells cs T)) (hs : ∀ x, Value.string x ∉ cs.toList) (hb0 : b ≠ 0) (h0 : 0 < w.heap.size) (h : IsVals w (.slice a n c) (X.map Value.string)) :
    ∃ k, k < w.heap.size ∧ k ≠ b ∧ ∀ w', w'.heap[k]? = w.heap[k]? → k < w'.heap.size → IsVals w' (.slice a n c) (X.map Value.string) := by
  obtain ⟨a', c', e, hm, hx⟩ := h
  cases e
  by_cases hX : X = []
  · subst hX
    exact ⟨0, h0, Ne.symm hb0, fun w' _ _ => ⟨a, c, rfl, hm, .inl rfl⟩⟩
  rcases hx with hx | ⟨k, o, rfl, hk, hc⟩
  · exact absurd (List.length_eq_zero_iff.1 (by simpa using hx)) hX
  · refine ⟨k, hk, ?_, fun w' hw hk' => ⟨_, c, rfl, hm, .inr ⟨k, o, rfl, hk', fun i x hi => (World.cell?_of_block (a := ⟨k, o + i, none⟩) hw).trans (hc i x hi)⟩⟩⟩
    rintro rfl
    cases X with
    | nil => exact absurd rfl hX
    | cons x t =>
      have h1 := hc 0 _ rfl
      rw [cell_of_row w k _ cs T _ hb] at h1
      have h2 : Value.string x ∈ cs.toList := by
        rw [← Array.getElem?_toList] at h1
        exact List.mem_of_getElem? h1
      exact hs x h2
theorem takeR_err {S : Option Pln} {x : ByteArray} {e : Int} (h0 : skipB x = false) (h : takeR S x = .inl e) : e ≠ 0 := by
  refine takeT_err (S := S) (x := x) ?_
  rw [takeT_R, h0, if_neg (by simp), h]
theorem takeT_go {S : Option Pln} {x : ByteArray} {P : Pln} (h0 : skipB x = false) (h : takeR S x = .inr P) : takeT S x = .inr (some P) := by
  rw [takeT_R, h0, if_neg (by simp), h]
theorem takeT_no {S : Option Pln} {x : ByteArray} {e : Int} (h0 : skipB x = false) (h : takeR S x = .inl e) : takeT S x = .inl e := by
  rw [takeT_R, h0, if_neg (by simp), h]
theorem takeT_skip {S : Option Pln} {x : ByteArray} (h0 : skipB x = true) : takeT S x = .inr S := by
  rw [takeT_R, h0, if_pos rfl]
set_option maxRecDepth 100000 in
set_option maxHeartbeats 8000000 in
theorem drParse_any (s : ByteArray) (hs : s.size ≤ 1048576) (w : World) (ht : w.ShapedOpen Tryz.prog) :
    Calls Tryz.prog 11 #[.string s] w (RetPp w (parT s)) := by
  have G02 : Gr w (w.alloc (.cells #[.slice none 0 0, .slice none 0 0, .slice none 0 0, .slice none 0 0, .int .i64 0, .int .i64 0, .int .i64 0, .int .i64 0, .bool false] 28)) := (Gr.refl _).alloc _
  have zz2 : ((w.alloc (.cells #[.slice none 0 0, .slice none 0 0, .slice none 0 0, .slice none 0 0, .int .i64 0, .int .i64 0, .int .i64 0, .int .i64 0, .bool false] 28))).heap.size = w.heap.size + 1 := by simp
  have hz2 : w.heap.size < ((w.alloc (.cells #[.slice none 0 0, .slice none 0 0, .slice none 0 0, .slice none 0 0, .int .i64 0, .int .i64 0, .int .i64 0, .int .i64 0, .bool false] 28))).heap.size := by omega
  have hwz : w.heap.size ≤ w.heap.size := Nat.le_refl _
  have HDX : Hid (∀ w', Gr (w.alloc (.cells #[.slice none 0 0, .slice none 0 0, .slice none 0 0, .slice none 0 0, .int .i64 0, .int .i64 0, .int .i64 0, .int .i64 0, .bool false] 28)) w' → w.heap.size < w'.heap.size ∧ w'.cell? ⟨w.heap.size, 0, none⟩ = some (.slice none 0 0) ∧ w'.cell? ⟨w.heap.size, 1, none⟩ = some (.slice none 0 0) ∧ w'.cell? ⟨w.heap.size, 2, none⟩ = some (.slice none 0 0) ∧ w'.cell? ⟨w.heap.size, 3, none⟩ = some (.slice none 0 0) ∧ w'.cell? ⟨w.heap.size, 4, none⟩ = some (.int .i64 0) ∧ w'.cell? ⟨w.heap.size, 5, none⟩ = some (.int .i64 0) ∧ w'.cell? ⟨w.heap.size, 6, none⟩ = some (.int .i64 0) ∧ w'.cell? ⟨w.heap.size, 7, none⟩ = some (.int .i64 0) ∧ w'.cell? ⟨w.heap.size, 8, none⟩ = some (.bool false) ∧
      w'.frozen? ⟨w.heap.size, 0, none⟩ = false ∧ w'.frozen? ⟨w.heap.size, 1, none⟩ = false ∧ w'.frozen? ⟨w.heap.size, 2, none⟩ = false ∧ w'.frozen? ⟨w.heap.size, 3, none⟩ = false ∧ w'.frozen? ⟨w.heap.size, 4, none⟩ = false ∧ w'.frozen? ⟨w.heap.size, 5, none⟩ = false ∧ w'.frozen? ⟨w.heap.size, 6, none⟩ = false ∧ w'.frozen? ⟨w.heap.size, 7, none⟩ = false ∧ w'.frozen? ⟨w.heap.size, 8, none⟩ = false) := fun w' g => by
    refine ⟨Nat.lt_of_lt_of_le hz2 g.size, ?_, ?_, ?_, ?_, ?_, ?_, ?_, ?_, ?_, ?_, ?_, ?_, ?_, ?_, ?_, ?_, ?_, ?_⟩
    all_goals first | exact (g.cell _ _ hz2).trans (by go_simp) | exact (g.frozen _ _ hz2).trans (by go_simp)
  by_cases hl : 32768 < s.size
  · have hl1 : 32768 < (s.size : Int) := by omega
    have HR := Lib.hid (parT_long hl)
    obtain ⟨z4, k0, k1, k2, k3, k4, k5, k6, k7, k8, f0, f1, f2, f3, f4, f5, f6, f7, f8⟩ := HDX.out _ (Gr.refl _)
    go_enter Tryz.func11, Tryz.ntmps11
    go_wp2_with fail
    go_step3
    go_wp2_with fail
    rw [Exit.noGoto_ret]
    (refine bodyPost_ret (v := .tuple #[.agg #[.slice none 0 0, .slice none 0 0, .slice none 0 0, .slice none 0 0, .int .i64 0, .int .i64 0, .int .i64 0, .int .i64 0, .bool false], .int .i64 0, .int .i64 3]) (by simp [results, Tryz.results11, go_sem, z4, k0, k1, k2, k3, k4, k5, k6, k7, k8, f0, f1, f2, f3, f4, f5, f6, f7, f8]) rfl ?_)
    exact RetPp.no HR.out G02
  have hl1 : ¬ 32768 < (s.size : Int) := by omega
  have HLI := Lib.hid (lines_any s hs ((w.alloc (.cells #[.slice none 0 0, .slice none 0 0, .slice none 0 0, .slice none 0 0, .int .i64 0, .int .i64 0, .int .i64 0, .int .i64 0, .bool false] 28)).alloc (.cells #[.slice none 0 0, .slice none 0 0, .slice none 0 0, .slice none 0 0, .int .i64 0, .int .i64 0, .int .i64 0, .int .i64 0, .bool false, .bool false] 72)))
  have hbd := lnB_bd s
  have HBD := Lib.hid hbd.2
  have hlen := hbd.1
  have HPB := Lib.hid (fun (k : Nat) (S : Option Pln) (e : Int) => @parT_bad s hl k S e)
  have HPG := Lib.hid (fun (P : Pln) => @parT_good s hl P)
  have HPN := Lib.hid (@parT_none s hl)
  have hus := unl_lnB_size s
  have G23 : Gr (w.alloc (.cells #[.slice none 0 0, .slice none 0 0, .slice none 0 0, .slice none 0 0, .int .i64 0, .int .i64 0, .int .i64 0, .int .i64 0, .bool false] 28)) ((w.alloc (.cells #[.slice none 0 0, .slice none 0 0, .slice none 0 0, .slice none 0 0, .int .i64 0, .int .i64 0, .int .i64 0, .int .i64 0, .bool false] 28)).alloc (.cells #[.slice none 0 0, .slice none 0 0, .slice none 0 0, .slice none 0 0, .int .i64 0, .int .i64 0, .int .i64 0, .int .i64 0, .bool false, .bool false] 72)) := (Gr.refl _).alloc _
  have hb3 : (((w.alloc (.cells #[.slice none 0 0, .slice none 0 0, .slice none 0 0, .slice none 0 0, .int .i64 0, .int .i64 0, .int .i64 0, .int .i64 0, .bool false] 28)).alloc (.cells #[.slice none 0 0, .slice none 0 0, .slice none 0 0, .slice none 0 0, .int .i64 0, .int .i64 0, .int .i64 0, .int .i64 0, .bool false, .bool false] 72))).heap[w.heap.size + 1]? = some (.cells #[.slice none 0 0, .slice none 0 0, .slice none 0 0, .slice none 0 0, .int .i64 0, .int .i64 0, .int .i64 0, .int .i64 0, .bool false, .bool false] 72) := by
    have := heap_alloc_new (w.alloc (.cells #[.slice none 0 0, .slice none 0 0, .slice none 0 0, .slice none 0 0, .int .i64 0, .int .i64 0, .int .i64 0, .int .i64 0, .bool false] 28)) (.cells #[.slice none 0 0, .slice none 0 0, .slice none 0 0, .slice none 0 0, .int .i64 0, .int .i64 0, .int .i64 0, .int .i64 0, .bool false, .bool false] 72)
    rw [zz2] at this
    exact this
  have z3 : w.heap.size + 1 < (((w.alloc (.cells #[.slice none 0 0, .slice none 0 0, .slice none 0 0, .slice none 0 0, .int .i64 0, .int .i64 0, .int .i64 0, .int .i64 0, .bool false] 28)).alloc (.cells #[.slice none 0 0, .slice none 0 0, .slice none 0 0, .slice none 0 0, .int .i64 0, .int .i64 0, .int .i64 0, .int .i64 0, .bool false, .bool false] 72))).heap.size := by simp
  have HBX : Hid (Bp 72 (w.heap.size + 1) ((w.alloc (.cells #[.slice none 0 0, .slice none 0 0, .slice none 0 0, .slice none 0 0, .int .i64 0, .int .i64 0, .int .i64 0, .int .i64 0, .bool false] 28)).alloc (.cells #[.slice none 0 0, .slice none 0 0, .slice none 0 0, .slice none 0 0, .int .i64 0, .int .i64 0, .int .i64 0, .int .i64 0, .bool false, .bool false] 72)) pln0 (.slice none 0 0) (.slice none 0 0) (.slice none 0 0) (.slice none 0 0) (some false)) := by
    refine ⟨⟨_, hb3, by simp⟩, ⟨z3, ?_, ?_, ?_, ?_, ?_, ?_, ?_, ?_, ?_⟩, fun x hx => ?_⟩
    · rw [cell_of_row _ _ _ _ _ _ hb3]; rfl
    · rw [cell_of_row _ _ _ _ _ _ hb3]; rfl
    · rw [cell_of_row _ _ _ _ _ _ hb3]; rfl
    · rw [cell_of_row _ _ _ _ _ _ hb3]; rfl
    · rw [cell_of_row _ _ _ _ _ _ hb3]; rfl
    · rw [cell_of_row _ _ _ _ _ _ hb3]; rfl
    · rw [cell_of_row _ _ _ _ _ _ hb3]; rfl
    · rw [cell_of_row _ _ _ _ _ _ hb3]; rfl
    · rw [cell_of_row _ _ _ _ _ _ hb3]; rfl
    · cases hx; rw [cell_of_row _ _ _ _ _ _ hb3]; rfl
  have HVB := Lib.hid (fun (w1 : World) (g1 : Gr ((w.alloc (.cells #[.slice none 0 0, .slice none 0 0, .slice none 0 0, .slice none 0 0, .int .i64 0, .int .i64 0, .int .i64 0, .int .i64 0, .bool false] 28)).alloc (.cells #[.slice none 0 0, .slice none 0 0, .slice none 0 0, .slice none 0 0, .int .i64 0, .int .i64 0, .int .i64 0, .int .i64 0, .bool false, .bool false] 72)) w1) (a : Option Addr) (n c : Nat) (h : IsVals w1 (.slice a n c) ((lnB s).map Value.string)) => dvals_blk (b := w.heap.size + 1) ((g1.block _ z3).trans hb3) (by intro x hx; simp at hx) (by omega) (by have := g1.size; omega) h)
  generalize hX : lnB s = X at *
  generalize parT s = R at HPB HPG HPN ⊢
  clear hX hbd hb3
  go_enter Tryz.func11, Tryz.ntmps11
  go_wp2_with fail
  go_step3
  go_wp2_with (first | (go_at_call 37; (with_reducible refine (HLI.out).mono ?_); rintro e w1 ⟨lv, rfl, hlv, g1⟩; have hlv2 := Lib.hid hlv; obtain ⟨la, lc, rfl, hlm, -⟩ := hlv; rw [List.length_map] at hlv2 hlm; rw [List.length_map]; unfold maxLen at hlm) | fail)
  obtain ⟨kb, hkb1, hkb2, HKV0⟩ := HVB.out w1 g1 la X.length lc hlv2.out
  have HKV := Lib.hid HKV0
  have hk0 : ∃ h0, w1.heap[kb]? = h0 := ⟨_, rfl⟩
  obtain ⟨h0, hh0⟩ := hk0
  have G21 := G23.trans g1
  have HKL : Hid (KL kb h0 w1) := ⟨hh0, hkb1⟩
  have HRD1 : Hid (RdP 72 (w.heap.size + 1) w1.heap.size w1 pln0 (some false)) := ⟨_, _, _, _, HBX.out.gr g1, DrS.nil (Nat.lt_of_lt_of_le z3 g1.size) (Nat.le_refl _)⟩
  rw [hh0] at HKV
  clear HKV0 hlv2 HVB HBX hh0 z3
  go_step3
  go_wp2_with fail
  go_loopw [7, 8, 9, 19] (fun _ _ _ x wr => ∃ (k : Nat) (S : Option Pln), x = .int .i64 k ∧ k ≤ X.length ∧ Gr (w.alloc (.cells #[.slice none 0 0, .slice none 0 0, .slice none 0 0, .slice none 0 0, .int .i64 0, .int .i64 0, .int .i64 0, .int .i64 0, .bool false] 28)) wr ∧ KL kb h0 wr ∧ RdP 72 (w.heap.size + 1) w1.heap.size wr (S.getD pln0) (some S.isSome) ∧ SzO (unl (X.take k)).size S ∧ Hid (prgT (X.take k) 0 none = .inr S)) (fun _ _ _ x _ => X.length - (intOf x).toNat)
  case atStart => exact ⟨0, none, rfl, Nat.zero_le _, G21, HKL.out, HRD1.out, SzO.none _, rfl⟩
  case round =>
    obtain ⟨k, S, rfl, hk, g2, hkk, hrd, hsz, HG⟩ := hrel
    have gw := G02.trans g2
    have hut := unl_take_le X k
    by_cases hlt : k < X.length
    · have hk1 : (k : Int) < (X.length : Int) := by omega
      obtain ⟨bb, o, hs2, z, y0⟩ := vals_at (HKV.out wr hkk.1 hkk.2) k hlt
      subst hs2
      have hxs := HBD.out _ (List.getElem_mem hlt)
      have hunl := unl_take hlt
      have HBa := Lib.hid (fun e h => HPB.out k S e hlt HG.out h)
      have HNx := Lib.hid (fun S' (h : takeT S X[k] = .inr S') => prgT_next hlt HG.out h)
      have HSn := Lib.hid (fun S' (h : takeT S X[k] = .inr S') => takeT_sz h hsz (by omega) (by omega))
      have HTK := Lib.hid (rdTake_any (w.heap.size + 1) w1.heap.size kb h0 X[k] S (w.alloc (.cells #[.slice none 0 0, .slice none 0 0, .slice none 0 0, .slice none 0 0, .int .i64 0, .int .i64 0, .int .i64 0, .int .i64 0, .bool false] 28)) wr (shp_gr ht gw) (by rw [zz2]; exact Nat.le_refl _) g2 hkk hkb1 hkb2 hrd (by omega) (fun P hP => (hsz P hP).mono (by omega)))
      have HEr := Lib.hid (fun e (h0 : skipB X[k] = false) (h : takeR S X[k] = .inl e) => takeR_err h0 h)
      have HSK : Hid (skipB X[k] = (decide (X[k].size = 0) || decide (bt X[k] 0 = 35))) := rfl
      rw [← hunl] at HSn
      have HRK := Lib.hid hrd
      have HKK := Lib.hid hkk
      clear HG hkk hrd hsz hxs HBD hunl hut
      generalize hXk : X[k] = x at *
      by_cases hx0 : x.size = 0
      · have hsk : skipB x = true := by rw [HSK.out, decide_eq_true hx0]; rfl
        have htt := takeT_skip (S := S) hsk
        have HG2 := Lib.hid (HNx.out S htt)
        have HS2 := Lib.hid (HSn.out S htt)
        have e1 : x.toList.isEmpty = true := by rw [List.isEmpty_iff]; exact toList_nil.2 hx0
        have e2 : x.toList = [] := toList_nil.2 hx0
        have e3 : (x.toList == []) = true := by rw [e2]; rfl
        clear HTK HBa HNx HSn HEr hsk htt hXk e2
        go_wp2_with fail
        go_roundw
        case rel => exact ⟨k + 1, S, by go_num, hlt, g2, HKK.out, HRK.out, HS2.out, HG2⟩
        case measure => simp [intOf]; omega
      have hpos : 0 < x.size := by omega
      have hpos1 : (0 : Int) < (x.size : Int) := by omega
      have hne : ¬ x.toList = [] := fun e => hx0 (toList_nil.1 e)
      have e1 : x.toList.isEmpty = false := by simp [List.isEmpty_iff, hne]
      have e3 : (x.toList == []) = false := by simpa using hne
      have hbt := bt_get x 0 hpos
      rw [decide_eq_false hx0, Bool.false_or, hbt] at HSK
      clear hne hbt hx0 hXk
      have HP := Lib.hid hpos
      by_cases h35 : ((x[0]).toNat : Int) = 35
      · have hsk : skipB x = true := HSK.out.trans (decide_eq_true h35)
        have htt := takeT_skip (S := S) hsk
        have HG2 := Lib.hid (HNx.out S htt)
        have HS2 := Lib.hid (HSn.out S htt)
        have t35 : (((x[0]).toNat : Int) == 35) = true := beqT h35
        clear HTK HBa HNx HSn HEr hsk htt h35 HSK
        go_wp2_with fail
        go_roundw
        case rel => exact ⟨k + 1, S, by go_num, hlt, g2, HKK.out, HRK.out, HS2.out, HG2⟩
        case measure => simp [intOf]; omega
      have hsk : skipB x = false := HSK.out.trans (decide_eq_false h35)
      have t35 : (((x[0]).toNat : Int) == 35) = false := beqF h35
      have HSF := Lib.hid hsk
      clear h35 HSK hsk
      cases hq : takeR S x with
      | inl e =>
        rw [hq] at HTK
        have HL1 : Hid (Calls Tryz.prog 38 #[.pointer (some ⟨w.heap.size + 1, 0, none⟩), .string x] wr fun e' w'' => e' = .returned (.int .i64 e) ∧ Gr (w.alloc (.cells #[.slice none 0 0, .slice none 0 0, .slice none 0 0, .slice none 0 0, .int .i64 0, .int .i64 0, .int .i64 0, .int .i64 0, .bool false] 28)) w'') := HTK.out
        have HR := Lib.hid (HBa.out e (takeT_no HSF.out hq))
        have te : (e != 0) = true := bneT (HEr.out e HSF.out hq)
        clear HTK HBa HNx HSn HEr hq
        go_wp2_with (first | ((go_at_call 38; (with_reducible refine (HL1.out).mono ?_)); rintro e' w3 ⟨rfl, g3⟩; obtain ⟨z4, k0, k1, k2, k3, k4, k5, k6, k7, k8, f0, f1, f2, f3, f4, f5, f6, f7, f8⟩ := HDX.out _ (g3)) | fail)
        try rw [Exit.noGoto_ret]
        (refine bodyPost_ret (v := .tuple #[.agg #[.slice none 0 0, .slice none 0 0, .slice none 0 0, .slice none 0 0, .int .i64 0, .int .i64 0, .int .i64 0, .int .i64 0, .bool false], .int .i64 ((k : Int) + 1), .int .i64 e]) (by simp [results, Tryz.results11, go_sem, z4, k0, k1, k2, k3, k4, k5, k6, k7, k8, f0, f1, f2, f3, f4, f5, f6, f7, f8]) rfl ?_)
        with_reducible exact RetPp.no HR.out ((((((((((G02.trans g3).setCell hwz _).setCell hwz _).setCell hwz _).setCell hwz _).setCell hwz _).setCell hwz _).setCell hwz _).setCell hwz _).setCell hwz _)
      | inr D =>
        rw [hq] at HTK
        have htt := takeT_go HSF.out hq
        have HG2 := Lib.hid (HNx.out (some D) htt)
        have HS2 := Lib.hid (HSn.out (some D) htt)
        have HL1 : Hid (Calls Tryz.prog 38 #[.pointer (some ⟨w.heap.size + 1, 0, none⟩), .string x] wr fun e' w'' => e' = .returned (.int .i64 0) ∧ Gr (w.alloc (.cells #[.slice none 0 0, .slice none 0 0, .slice none 0 0, .slice none 0 0, .int .i64 0, .int .i64 0, .int .i64 0, .int .i64 0, .bool false] 28)) w'' ∧ KL kb h0 w'' ∧ RdP 72 (w.heap.size + 1) w1.heap.size w'' D (some true)) := HTK.out
        clear HTK HBa HNx HSn HEr hq htt
        go_wp2_with (first | ((go_at_call 38; (with_reducible refine (HL1.out).mono ?_)); rintro e' w3 ⟨rfl, g3, h4, k4⟩; have H4 := Lib.hid h4; have K4 := Lib.hid k4; clear h4 k4) | fail)
        go_roundw
        case rel => exact ⟨k + 1, some D, by go_num, hlt, g3, H4.out, K4.out, HS2.out, HG2⟩
        case measure => simp [intOf]; omega
    · have hk1 : ¬ (k : Int) < (X.length : Int) := by omega
      have hg := HG.out
      rw [List.take_of_length_le (show X.length ≤ k by omega)] at hg
      obtain ⟨z4, k0, k1, k2, k3, k4, k5, k6, k7, k8, f0, f1, f2, f3, f4, f5, f6, f7, f8⟩ := HDX.out _ (g2)
      clear HG HPB HBD
      cases S with
      | none =>
        have HR := Lib.hid (HPN.out hg)
        have d9 := hrd.cell9.2.1
        have zb := hrd.cell9.1
        simp only [Option.isSome_none] at d9
        clear hg hkk hrd hsz HPN HPG
        go_wp2_with fail
        try rw [Exit.noGoto_ret]
        (refine bodyPost_ret (v := .tuple #[.agg #[.slice none 0 0, .slice none 0 0, .slice none 0 0, .slice none 0 0, .int .i64 0, .int .i64 0, .int .i64 0, .int .i64 0, .bool false], .int .i64 X.length, .int .i64 2]) (by simp [results, Tryz.results11, go_sem, z4, k0, k1, k2, k3, k4, k5, k6, k7, k8, f0, f1, f2, f3, f4, f5, f6, f7, f8]) rfl ?_)
        with_reducible exact RetPp.no HR.out ((((((((((gw).setCell hwz _).setCell hwz _).setCell hwz _).setCell hwz _).setCell hwz _).setCell hwz _).setCell hwz _).setCell hwz _).setCell hwz _)
      | some P =>
        have HR0 := HPG.out P hg
        have hzP := hsz P rfl
        obtain ⟨e, j, s', l, hbx, hds⟩ := hrd
        simp only [Option.getD_some, Option.isSome_some] at hbx hds
        have n1 : P.es.length ≤ maxLen := by have := hzP.es; unfold maxLen; omega
        have n2 : P.js.length ≤ maxLen := by have := hzP.js; unfold maxLen; omega
        have n3 : P.ss.length ≤ maxLen := by have := hzP.ss; unfold maxLen; omega
        have n4 : P.ls.length ≤ maxLen := by have := hzP.ls; unfold maxLen; omega
        have hpl := hds.pln n1 n2 n3 n4
        have HCK := Lib.hid (fun (w' : World) (g : Gr wr w') => check_any _ P w' (hpl.gr g) hzP.ok (by have := hzP.fl; omega))
        obtain ⟨a1, c1, a2, c2, a3, c3, a4, c4, hpv, -⟩ := hpl
        unfold plnV at hpv HCK
        simp only [Value.agg.injEq, Array.mk.injEq, List.cons.injEq, and_true] at hpv
        obtain ⟨rfl, rfl, rfl, rfl⟩ := hpv
        have HDS := Lib.hid hds
        have HBX := Lib.hid hbx
        have d9 := hbx.2.2 true rfl
        obtain ⟨zb, p0, p1, p2, p3, p4, p5, p6, p7, p8⟩ := hbx.2.1
        have N1 := Lib.hid n1
        have N2 := Lib.hid n2
        have N3 := Lib.hid n3
        have N4 := Lib.hid n4
        have hw1 : w.heap.size < w1.heap.size := by have := HDS.out.1; omega
        clear hg hkk hds hbx hsz hzP HPN HPG n1 n2 n3 n4
        by_cases hE : chk P = 0
        · rw [if_pos hE] at HR0
          rw [hE] at HCK
          have HR := Lib.hid HR0
          clear HR0 hE
          go_wp2_with (first | (go_at_call 39; (with_reducible refine (HCK.out _ (Gr.refl _)).mono ?_); rintro e wn ⟨rfl, gn⟩; obtain ⟨z4, k0, k1, k2, k3, k4, k5, k6, k7, k8, f0, f1, f2, f3, f4, f5, f6, f7, f8⟩ := HDX.out _ (g2.trans gn); obtain ⟨zb', p0', p1', p2', p3', p4', p5', p6', p7', p8'⟩ := HBX.out.2.1.gr gn) | fail)
          try rw [Exit.noGoto_ret]
          (refine bodyPost_ret (v := .tuple #[.agg #[.slice a1 P.es.length c1, .slice a2 P.js.length c2, .slice a3 P.ss.length c3, .slice a4 P.ls.length c4, .int .i64 P.top, .int .i64 P.brake, .int .i64 P.margin, .int .i64 P.throw, .bool P.hard], .int .i64 X.length, .int .i64 0]) (by simp [results, Tryz.results11, go_sem, z4, k0, k1, k2, k3, k4, k5, k6, k7, k8, f0, f1, f2, f3, f4, f5, f6, f7, f8]) rfl ?_)
          exact RetPp.yes HR.out ((((((((((HDS.out.gr gn).setc _ hw1 _).setc _ hw1 _).setc _ hw1 _).setc _ hw1 _).setc _ hw1 _).setc _ hw1 _).setc _ hw1 _).setc _ hw1 _).setc _ hw1 _ |>.pln N1.out N2.out N3.out N4.out) ((((((((((gw.trans gn).setCell hwz _).setCell hwz _).setCell hwz _).setCell hwz _).setCell hwz _).setCell hwz _).setCell hwz _).setCell hwz _).setCell hwz _)
        · rw [if_neg hE] at HR0
          have HR := Lib.hid HR0
          clear HR0
          generalize chk P = E at *
          have tE : (E != 0) = true := bneT hE
          clear hE
          go_wp2_with (first | (go_at_call 39; (with_reducible refine (HCK.out _ (Gr.refl _)).mono ?_); rintro e wn ⟨rfl, gn⟩; obtain ⟨z4, k0, k1, k2, k3, k4, k5, k6, k7, k8, f0, f1, f2, f3, f4, f5, f6, f7, f8⟩ := HDX.out _ (g2.trans gn)) | fail)
          try rw [Exit.noGoto_ret]
          (refine bodyPost_ret (v := .tuple #[.agg #[.slice none 0 0, .slice none 0 0, .slice none 0 0, .slice none 0 0, .int .i64 0, .int .i64 0, .int .i64 0, .int .i64 0, .bool false], .int .i64 X.length, .int .i64 E]) (by simp [results, Tryz.results11, go_sem, z4, k0, k1, k2, k3, k4, k5, k6, k7, k8, f0, f1, f2, f3, f4, f5, f6, f7, f8]) rfl ?_)
          with_reducible exact RetPp.no HR.out ((((((((((gw.trans gn).setCell hwz _).setCell hwz _).setCell hwz _).setCell hwz _).setCell hwz _).setCell hwz _).setCell hwz _).setCell hwz _).setCell hwz _)
end Go.Proofs.YtknmngejjoohdaaGreatDoor
