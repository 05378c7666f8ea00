/- (*reader).ports. -/
import Derived.Test.YtknmngejjoohdaaGreatDoorRows
import Derived.Test.YtknmngejjoohdaaGreatDoorRDrC
import Derived.Test.YtknmngejjoohdaaGreatDoorRDrA
import Derived.Laws.AppendOwn
namespace Go.Proofs.YtknmngejjoohdaaGreatDoor
open Go.ChangeShapes Go.WideShapes Go.ChangeAt Go.RowKit Go.Maps
set_option linter.unusedVariables false
set_option linter.unusedSimpArgs false
def OwnPr (B : Nat) (w : World) (v : Value) (L : List Prt) : Prop := w.ownsRow B 67 2 v L.length (L.flatMap Prt.cs)
theorem OwnPr.nil (B : Nat) (w : World) : OwnPr B w (.slice none 0 0) [] := ⟨rfl, .inl ⟨rfl, rfl⟩⟩
theorem OwnPr.snoc {B : Nat} {w : World} {v : Value} {L : List Prt} {s : Prt} (h : w.ownsRow B 67 2 v (L.length + 1) (L.flatMap Prt.cs ++ s.cs)) : OwnPr B w v (L ++ [s]) := by unfold OwnPr; simpa using h
theorem Tryz.infoPr : (Tryz.prog.info? 67).map (fun i => (i.zero, i.size, i.bytes)) = some (some (.agg #[.int .i64 0, .int .i64 0]), 2, 16) := by kernel_rfl
theorem two_new' (w : World) {g : Nat} (hg : g = w.heap.size) (u0 u1 : Value) (T : TypeId) : ∀ j u, [u0, u1][j]? = some u → (w.alloc (.cells #[u0, u1] T)).cell? ((⟨g, 0, none⟩ : Addr).add j) = some u := by
  subst hg
  intro j u h
  rw [Go.WideShapes.add_plain, World.cell?_alloc_mark]
  simpa using h
def portD (P : Pln) (s : ByteArray) : Prt := (portO P s).getD default
def portsR (P : Pln) (L : List ByteArray) : Int ⊕ List Prt :=
  if L.any (fun s => !portB s) then .inl 2 else if L.any (fun s => (portO P s).isNone) then .inl 5 else .inr (L.map (portD P))
def RetPs (w : World) (r : Int ⊕ List Prt) (e : Ending) (w' : World) : Prop :=
  match r with
  | .inl n => e = .returned (.tuple #[.slice none 0 0, .int .i64 n]) ∧ Gr w w'
  | .inr L => ∃ v, e = .returned (.tuple #[v, .int .i64 0]) ∧ OwnPr w.heap.size w' v L ∧ Gr w w'
theorem RetPs.no {w w' : World} {r : Int ⊕ List Prt} {n : Int} (h : r = .inl n) (g : Gr w w') : RetPs w r (.returned (.tuple #[.slice none 0 0, .int .i64 n])) w' := by subst h; exact ⟨rfl, g⟩
theorem RetPs.yes {w w' : World} {r : Int ⊕ List Prt} {L : List Prt} {v : Value} (h : r = .inr L) (hv : OwnPr w.heap.size w' v L) (g : Gr w w') : RetPs w r (.returned (.tuple #[v, .int .i64 0])) w' := by subst h; exact ⟨v, rfl, hv, g⟩
theorem portsR_bad {P : Pln} {L : List ByteArray} {k : Nat} (hk : k < L.length) (h : portB L[k] = false) : portsR P L = .inl 2 := by
  unfold portsR
  rw [if_pos (List.any_eq_true.2 ⟨_, List.getElem_mem hk, by rw [h]; rfl⟩)]
theorem portsR_all {P : Pln} {L : List ByteArray} (h : ∀ i (hi : i < L.length), portB L[i] = true) : portsR P L = if L.any (fun s => (portO P s).isNone) then .inl 5 else .inr (L.map (portD P)) := by
  unfold portsR
  rw [if_neg]
  rw [List.any_eq_true]
  rintro ⟨x, hx, hh⟩
  obtain ⟨i, hi, rfl⟩ := List.getElem_of_mem hx
  rw [h i hi] at hh
  cases hh
set_option maxRecDepth 100000 in
set_option maxHeartbeats 4000000 in
theorem rdPorts_any (b B : Nat) (v : Value) (L : List ByteArray) (P : Pln) (w : World) (hR : RdP 72 b B w P (some true)) (hv : IsVals w v (L.map Value.string)) (hs : ∀ x ∈ L, x.size ≤ 1048576) (hL : L.length ≤ 1000) (n1 : P.es.length ≤ maxLen) (n2 : P.js.length ≤ maxLen) (n3 : P.ss.length ≤ maxLen) (n4 : P.ls.length ≤ maxLen) :
    Calls Tryz.prog 137 #[.pointer (some ⟨b, 0, none⟩), v] w (RetPs w (portsR P L)) := by
  have HV := Lib.hid hv
  obtain ⟨a, c, rfl, hlm, -⟩ := hv
  rw [List.length_map] at HV hlm ⊢
  obtain ⟨e, j, s, l, h1, h2⟩ := hR
  have hpl := h2.pln n1 n2 n3 n4
  have HPL := Lib.hid hpl
  obtain ⟨a1, c1, a2, c2, a3, c3, a4, c4, hpv, -⟩ := hpl
  unfold plnV at hpv HPL
  simp only [Value.agg.injEq, Array.mk.injEq, List.cons.injEq, and_true] at hpv
  obtain ⟨rfl, rfl, rfl, rfl⟩ := hpv
  have HBX := Lib.hid h1.2.1
  have HSS := Lib.hid hs
  have HB := Lib.hid (fun k (hk : k < L.length) => portsR_bad (P := P) (L := L) (k := k) hk)
  have HA := Lib.hid (portsR_all (P := P) (L := L))
  generalize portsR P L = R at HB HA ⊢
  obtain ⟨i0, hi0, hi1, hi2, hi3⟩ := info_parts Tryz.infoPr
  clear h1 h2 hs n1 n2 n3 n4 hlm
  go_enter Tryz.func137, Tryz.ntmps137
  go_wp2_with fail
  go_loopw [6, 7, 9, 10, 11, 12, 13, 14, 17] (fun u f _ _ _ _ _ _ x wr => ∃ (k : Nat) (fv : Int), x = .int .i64 k ∧ k ≤ L.length ∧ Gr w wr ∧ OwnPr w.heap.size wr u ((L.take k).map (portD P)) ∧ f = .int .i64 fv ∧ Hid (fv = if (L.take k).any (fun s => (portO P s).isNone) then 5 else 0) ∧ Hid (∀ i (hi : i < L.length), i < k → portB L[i] = true)) (fun _ _ _ _ _ _ _ _ x _ => L.length - (intOf x).toNat)
  case atStart => exact ⟨0, 0, rfl, Nat.zero_le _, Gr.refl _, OwnPr.nil _ _, rfl, rfl, fun i _ h => by omega⟩
  case round =>
    obtain ⟨k, fv, rfl, hk, g, ho, rfl, HV5, HG⟩ := hrel
    obtain ⟨va, vc, rfl⟩ := own_form ho
    rw [List.length_map, List.length_take, Nat.min_eq_left hk] at *
    by_cases hlt : k < L.length
    · have hk1 : (k : Int) < (L.length : Int) := by omega
      obtain ⟨bb, o, hs2, z, y0⟩ := vals_at (HV.out.gr g) k hlt
      subst hs2
      have hxs := HSS.out _ (List.getElem_mem hlt)
      have HSP := Lib.hid (fun w' => dsplit_any L[k] hxs w')
      have HDP := Lib.hid (fun (w' : World) (g' : Gr wr w') => dport_any _ P L[k] hxs w' (HPL.out.gr (g.trans g')))
      obtain ⟨zb, p0, p1, p2, p3, p4, p5, p6, p7, p8⟩ := HBX.out.gr g
      have HB1 := Lib.hid (fun h => HB.out k hlt h)
      have HG1 : Hid (portB L[k] = true → ∀ i (hi : i < L.length), i < k + 1 → portB L[i] = true) := fun h i hi hik => by
        by_cases e : i = k
        · subst e; exact h
        · exact HG.out i hi (by omega)
      have HM : Hid ((L.take (k + 1)).map (portD P) = (L.take k).map (portD P) ++ [(portO P L[k]).getD default]) := by
        show _ = _
        rw [List.take_succ_eq_append_getElem hlt, List.map_append]; rfl
      have HF : Hid ((L.take (k + 1)).any (fun s => (portO P s).isNone) = ((L.take k).any (fun s => (portO P s).isNone) || (portO P L[k]).isNone)) := by
        show _ = _
        rw [List.take_succ_eq_append_getElem hlt, List.any_append]; simp
      have hlk : ((L.take k).map (portD P)).length = k := by rw [List.length_map, List.length_take, Nat.min_eq_left hk]
      clear HG
      generalize (L.take k).any (fun s => (portO P s).isNone) = fa at *
      generalize (L.take k).map (portD P) = A at *
      generalize portO P L[k] = po at HDP HM HF
      generalize portB L[k] = pb at HSP HB1 HG1
      generalize L[k] = x at y0 HSP HDP
      cases pb
      · have HR := Lib.hid (HB1.out rfl)
        clear HB1 HG1 HM HF HDP
        go_wp2_with (first | (go_at_call 70; (with_reducible refine (HSP.out _).mono ?_); rintro e w3 ⟨⟨sn, sd, rfl, -⟩, hq⟩; obtain rfl := hq.symm) | fail)
        go_ret2
        exact RetPs.no HR.out g
      · have HG2 := Lib.hid (HG1.out rfl)
        clear HB1 HG1
        have HO : Hid (wr.ownsRow w.heap.size 67 2 (.slice va k vc) k (A.flatMap Prt.cs)) := by
          have := ho
          unfold OwnPr at this
          rw [hlk] at this
          exact this
        clear ho
        unfold prtR Prt.v at HDP
        obtain ⟨ye, yx, hye⟩ : ∃ ye yx, po.getD default = ⟨ye, yx⟩ := ⟨_, _, rfl⟩
        rw [hye] at HDP HM
        dsimp only at HDP
        have hpn : po.isNone = !po.isSome := by cases po <;> rfl
        rw [hpn] at HF
        generalize po.isSome = ps at HDP HF
        clear hye hpn
        cases ps
        · go_wp2_with (first | (go_at_call 70; (with_reducible refine (HSP.out _).mono ?_); rintro e w3 ⟨⟨sn, sd, rfl, -⟩, hq⟩; obtain rfl := hq.symm) | ((go_at_call 35; (with_reducible refine (HDP.out _ (Gr.refl _)).mono ?_); rintro e w4 ⟨rfl, g4⟩); have HO4 := Lib.hid (own_gr HO.out g4)) | (at_builtin; refine wpList_append_own _ rfl _ _ 153 rfl w.heap.size 67 i0 (.agg #[.int .i64 0, .int .i64 0]) 2 16 Tryz.underlying153 hi0 hi1 hi2 hi3 rfl (by decide) _ _ _ rfl ((HO4.out.alloc _).alloc _) ⟨w4.heap.size + 1, 0, none⟩ 1 1 [.int .i64 ye, .int .i64 yx] rfl rfl ?c1 ?c2 ?c3 ?c4 ?c5 ?_))
          case c1 => exact two_new' (w4.alloc _) (by simp) _ _ _
          case c2 => intro u hu; simp at hu; rcases hu with rfl | rfl <;> rfl
          case c3 => unfold maxLen; omega
          case c4 => omega
          case c5 => have := (g.trans g4).size; simp; omega
          intro v' w5 hown' hgrow _
          have hg1 : Gr w w5 := Gr.grown (((g.trans g4).alloc _).alloc _) hgrow HO.out
          rw [← hlk] at hown'
          have ho1 := Lib.hid (OwnPr.snoc (s := ⟨ye, yx⟩) hown')
          clear hown' hgrow
          go_wp2_with fail
          go_roundw
          case rel => exact ⟨k + 1, 5, by go_num, hlt, hg1, by rw [HM.out]; exact ho1.out, rfl, by show _ = _; rw [HF.out]; simp, HG2⟩
          case measure => simp [intOf]; omega
        · go_wp2_with (first | (go_at_call 70; (with_reducible refine (HSP.out _).mono ?_); rintro e w3 ⟨⟨sn, sd, rfl, -⟩, hq⟩; obtain rfl := hq.symm) | ((go_at_call 35; (with_reducible refine (HDP.out _ (Gr.refl _)).mono ?_); rintro e w4 ⟨rfl, g4⟩); have HO4 := Lib.hid (own_gr HO.out g4)) | (at_builtin; refine wpList_append_own _ rfl _ _ 153 rfl w.heap.size 67 i0 (.agg #[.int .i64 0, .int .i64 0]) 2 16 Tryz.underlying153 hi0 hi1 hi2 hi3 rfl (by decide) _ _ _ rfl ((HO4.out.alloc _).alloc _) ⟨w4.heap.size + 1, 0, none⟩ 1 1 [.int .i64 ye, .int .i64 yx] rfl rfl ?c1 ?c2 ?c3 ?c4 ?c5 ?_))
          case c1 => exact two_new' (w4.alloc _) (by simp) _ _ _
          case c2 => intro u hu; simp at hu; rcases hu with rfl | rfl <;> rfl
          case c3 => unfold maxLen; omega
          case c4 => omega
          case c5 => have := (g.trans g4).size; simp; omega
          intro v' w5 hown' hgrow _
          have hg1 : Gr w w5 := Gr.grown (((g.trans g4).alloc _).alloc _) hgrow HO.out
          rw [← hlk] at hown'
          have ho1 := Lib.hid (OwnPr.snoc (s := ⟨ye, yx⟩) hown')
          clear hown' hgrow
          go_wp2_with fail
          go_roundw
          case rel => exact ⟨k + 1, fv, by go_num, hlt, hg1, by rw [HM.out]; exact ho1.out, rfl, by show _ = _; rw [HF.out, HV5.out]; simp, HG2⟩
          case measure => simp [intOf]; omega
    · have hk1 : ¬ (k : Int) < (L.length : Int) := by omega
      have hA := HA.out fun i hi => HG.out i hi (by omega)
      rw [List.take_of_length_le (show L.length ≤ k by omega)] at ho HV5
      have HR := Lib.hid hA
      clear hA HG HA HB
      generalize L.any (fun s => (portO P s).isNone) = fa at *
      obtain rfl : k = L.length := by omega
      cases fa
      · have hf : fv = 0 := HV5.out
        subst hf
        have HO := Lib.hid ho
        clear ho
        go_wp2_with fail
        go_ret2
        exact RetPs.yes (L := L.map (portD P)) HR.out HO.out g
      · have hf : fv = 5 := HV5.out
        subst hf
        clear ho
        go_wp2_with fail
        go_ret2
        exact RetPs.no HR.out g
end Go.Proofs.YtknmngejjoohdaaGreatDoor
