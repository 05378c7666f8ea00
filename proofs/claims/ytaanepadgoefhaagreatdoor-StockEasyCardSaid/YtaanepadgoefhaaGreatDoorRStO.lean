/- stock.Parse. -/
import Derived.Test.YtaanepadgoefhaaGreatDoorRows
import Derived.Test.YtaanepadgoefhaaGreatDoorRStV
import Derived.Test.YtaanepadgoefhaaGreatDoorRStX
import Derived.Test.YtaanepadgoefhaaGreatDoorRStY
namespace Go.Proofs.YtaanepadgoefhaaGreatDoor
open Go.ChangeShapes Go.WideShapes Go.ChangeAt Go.RowKit Go.Maps
set_option linter.unusedVariables false
set_option linter.unusedSimpArgs false
/-- what Parse returns -/
def RetPk (w : World) (r : List Stk × Int × Int) (e : Ending) (w' : World) : Prop := ∃ v, e = .returned (.tuple #[v, .int .i64 r.2.1, .int .i64 r.2.2]) ∧ IsStks w' v r.1 ∧ Gr w w'
theorem RetPk.no {w w' : World} {r : List Stk × Int × Int} {n e : Int} (h : r = ([], n, e)) (g : Gr w w') : RetPk w r (.returned (.tuple #[.slice none 0 0, .int .i64 n, .int .i64 e])) w' := by
  subst h; exact ⟨_, rfl, IsStks.nil _, g⟩
theorem RetPk.yes {w w' : World} {r : List Stk × Int × Int} {L : List Stk} {v : Value} {n : Int} (h : r = (L, n, 0)) (hv : IsStks w' v L) (g : Gr w w') : RetPk w r (.returned (.tuple #[v, .int .i64 n, .int .i64 0])) w' := by
  subst h; exact ⟨_, rfl, hv, g⟩
theorem five_new (w : World) (u0 u1 u2 u3 u4 : Value) (T : TypeId) : ∀ j u, [u0, u1, u2, u3, u4][j]? = some u → (w.alloc (.cells #[u0, u1, u2, u3, u4] T)).cell? ((⟨w.heap.size, 0, none⟩ : Addr).add j) = some u := by
  intro j u h
  rw [Go.WideShapes.add_plain, World.cell?_alloc_mark]
  simpa using h
theorem five_new' (w : World) {g : Nat} (hg : g = w.heap.size) (u0 u1 u2 u3 u4 : Value) (T : TypeId) : ∀ j u, [u0, u1, u2, u3, u4][j]? = some u → (w.alloc (.cells #[u0, u1, u2, u3, u4] T)).cell? ((⟨g, 0, none⟩ : Addr).add j) = some u := by
  subst hg; exact five_new w u0 u1 u2 u3 u4 T
theorem parS_err {s : ByteArray} (h : ¬ 32768 < s.size) {L : List Stk} (hg : (lnB s).map readS = L.map some) {E : Int} (he : plainE L = E) (h0 : E ≠ 0) : parS s = ([], ((lnB s).length : Int), E) := by
  rw [parS_good h hg, if_neg (by omega), he]
theorem parS_ok {s : ByteArray} (h : ¬ 32768 < s.size) {L : List Stk} (hg : (lnB s).map readS = L.map some) (he : plainE L = 0) : parS s = (L, ((lnB s).length : Int), 0) := by
  rw [parS_good h hg, if_pos he]
set_option maxRecDepth 100000 in
set_option maxHeartbeats 2000000 in
theorem stParse_any (s : ByteArray) (hs : s.size ≤ 1048576) (w : World) (ht : w.ShapedOpen Tryz.prog) :
    Calls Tryz.prog 26 #[.string s] w (RetPk w (parS s)) := by
  by_cases hl : 32768 < s.size
  · have hl1 : 32768 < (s.size : Int) := by omega
    have HR := Lib.hid (parS_long hl)
    go_enter Tryz.func26, Tryz.ntmps26
    go_wp2_with fail
    go_ret3
    exact RetPk.no HR.out (Gr.refl _)
  have hl1 : ¬ 32768 < (s.size : Int) := by omega
  have HLI := Lib.hid (lines_any s hs w)
  have hbd := lnB_bd s
  have HBD := Lib.hid hbd.2
  have hlen := hbd.1
  have HPB := Lib.hid (fun (k : Nat) (L : List Stk) => @parS_bad s hl k L)
  have HPE := Lib.hid (fun (L : List Stk) (E : Int) => @parS_err s hl L)
  have HPO := Lib.hid (fun (L : List Stk) => @parS_ok s hl L)
  have HRD := Lib.hid (fun (x : ByteArray) (hx : x.size ≤ 1048576) (w' : World) (g : Gr w w') => stRead_any x hx w' (shp_gr ht g))
  generalize hX : lnB s = X at *
  generalize parS s = R at HPB HPE HPO ⊢
  obtain ⟨i0, hi0, hi1, hi2, hi3⟩ := info_parts Tryz.infoK
  clear hX hbd
  go_enter Tryz.func26, Tryz.ntmps26
  go_wp2_with (first | (go_at_call 64; (with_reducible refine (HLI.out).mono ?_); rintro e w1 ⟨lv, rfl, hlv, g1⟩; have HLV := Lib.hid hlv; obtain ⟨la, lc, rfl, hlm, -⟩ := hlv; rw [List.length_map] at HLV hlm; rw [List.length_map]; unfold maxLen at hlm) | fail)
  go_loopw [5, 7, 8, 10, 19] (fun v _ _ _ x wr => ∃ (k : Nat) (L : List Stk), x = .int .i64 k ∧ k ≤ X.length ∧ L.length = k ∧ Gr w1 wr ∧ OwnK w1.heap.size wr v L ∧ Hid ((X.take k).map readS = L.map some)) (fun _ _ _ _ x _ => X.length - (intOf x).toNat)
  case atStart => exact ⟨0, [], rfl, Nat.zero_le _, rfl, Gr.refl _, OwnK.nil _ _, rfl⟩
  case round =>
    obtain ⟨k, L, rfl, hk, hkl, g0, ho, HG⟩ := hrel
    have HKL := Lib.hid hkl
    have g := g1.trans g0
    clear hkl
    obtain ⟨va, vc, rfl⟩ := own_form ho
    by_cases hlt : k < X.length
    · have hk1 : (k : Int) < (X.length : Int) := by omega
      obtain ⟨bb, o, hs2, z, y0⟩ := vals_at (HLV.out.gr g0) k hlt
      subst hs2
      have hxs := HBD.out _ (List.getElem_mem hlt)
      have HRk := Lib.hid (HRD.out X[k] (by omega))
      have HNo : Hid (readS X[k] = none → R = ([], (k : Int) + 1, 2)) := fun h => HPB.out k L hlt HG.out h
      have HYe : Hid (∀ st, readS X[k] = some st → (X.take (k + 1)).map readS = (L ++ [st]).map some) := fun st h => readS_take hlt HG.out h
      have hll : L.length ≤ 40000 := by rw [HKL.out]; omega
      clear HG
      generalize readS X[k] = q at HRk HNo HYe
      generalize X[k] = x at y0 HRk
      have HO : Hid (wr.ownsRow w1.heap.size 30 5 (.slice va L.length vc) L.length (L.flatMap Stk.cs)) := ho
      clear ho
      cases q with
      | none =>
        have HR := Lib.hid (HNo.out rfl)
        clear HYe HNo
        have HR1 : Hid (∀ w', Gr w w' → Calls Tryz.prog 65 #[.string x] w' fun e w'' => e = .returned (.tuple #[.agg #[.string ⟨#[]⟩, .int .i64 0, .int .i64 0, .int .i64 0, .int .i64 0], .bool false]) ∧ Gr w' w'') := HRk.out
        clear HRk
        go_wp2_with (first | (go_at_call 65; (with_reducible refine (HR1.out _ g).mono ?_); rintro e w3 ⟨rfl, g3⟩) | fail)
        go_ret3
        exact RetPk.no HR.out ((g.trans g3).alloc _)
      | some st =>
        obtain ⟨kn, kl, kt, ka, kb⟩ := st
        have HG2 := Lib.hid (HYe.out _ rfl)
        clear HYe HNo
        have HR1 : Hid (∀ w', Gr w w' → Calls Tryz.prog 65 #[.string x] w' fun e w'' => e = .returned (.tuple #[.agg #[.string kn, .int .i64 kl, .int .i64 kt, .int .i64 ka, .int .i64 kb], .bool true]) ∧ Gr w' w'') := HRk.out
        clear HRk
        go_wp2_with (first | (go_at_call 65; (with_reducible refine (HR1.out _ g).mono ?_); rintro e w3 ⟨rfl, g3⟩; have HO3 := Lib.hid (own_gr HO.out g3)) | (at_builtin; refine wpList_append_own _ rfl _ _ 51 rfl w1.heap.size 30 i0 (.agg #[.string ByteArray.empty, .int .i64 0, .int .i64 0, .int .i64 0, .int .i64 0]) 5 48 Tryz.underlying51 hi0 hi1 hi2 hi3 rfl (by decide) _ _ _ rfl ((HO3.out.alloc _).alloc _) ⟨w3.heap.size + 1, 0, none⟩ 1 1 [.string kn, .int .i64 kl, .int .i64 kt, .int .i64 ka, .int .i64 kb] rfl rfl ?c1 ?c2 ?c3 ?c4 ?c5 ?_))
        case c1 => exact five_new' (w3.alloc _) (by simp) _ _ _ _ _ _
        case c2 => intro u hu; simp at hu; rcases hu with rfl | rfl | rfl | rfl | rfl <;> rfl
        case c3 => unfold maxLen; omega
        case c4 => omega
        case c5 => have := (g0.trans g3).size; simp; omega
        intro v' w4 hown' hgrow _
        have hg1 : Gr w1 w4 := Gr.grown (((g0.trans g3).alloc _).alloc _) hgrow HO.out
        have ho1 := Lib.hid (OwnK.snoc (s := ⟨kn, kl, kt, ka, kb⟩) hown')
        clear hown' hgrow
        go_wp2_with fail
        go_roundw
        case rel => exact ⟨k + 1, L ++ [⟨kn, kl, kt, ka, kb⟩], by go_num, hlt, by rw [List.length_append, HKL.out]; rfl, hg1, ho1.out, HG2⟩
        case measure => simp [intOf]; omega
    · have hk1 : ¬ (k : Int) < (X.length : Int) := by omega
      have hg := HG.out
      rw [List.take_of_length_le (show X.length ≤ k by omega)] at hg
      have hll : L.length ≤ 40000 := by rw [HKL.out]; omega
      have HST := Lib.hid (ho.stks (by unfold maxLen; omega))
      have HNM : Hid (∀ s ∈ L, s.nm.size ≤ maxLen) := fun st hst => by
        have := reads_nm hg HBD.out st hst
        unfold maxLen; omega
      have HW := Lib.hid (wrong_any _ L wr HST.out HNM.out)
      have HE := Lib.hid (HPE.out L (plainE L) hg rfl)
      have HO := Lib.hid (HPO.out L hg)
      generalize plainE L = E at HW HE HO
      clear hg ho HG
      by_cases hE : E = 0
      · have tE : (E != 0) = false := bneF hE
        have HR := Lib.hid (HO.out hE)
        subst hE
        go_wp2_with (first | (go_at_call 60; (with_reducible refine (HW.out).mono ?_); rintro e w5 ⟨rfl, g5⟩) | fail)
        go_ret3
        exact RetPk.yes HR.out (HST.out.gr g5) (g.trans g5)
      · have tE : (E != 0) = true := bneT hE
        have HR := Lib.hid (HE.out hE)
        clear hE
        go_wp2_with (first | (go_at_call 60; (with_reducible refine (HW.out).mono ?_); rintro e w5 ⟨rfl, g5⟩) | fail)
        go_ret3
        exact RetPk.no HR.out (g.trans g5)
end Go.Proofs.YtaanepadgoefhaaGreatDoor
