/- Pace: the laws' walks. -/
import Derived.Test.YtiblkcbehcpjbaaPac7
import Derived.Test.YtiblkcbehcpjbaaPacQ
import Derived.Test.YtiblkcbehcpjbaaOpn1
import Derived.Deep.RegionHeld3
import Derived.StillTailTactics
namespace Go.Proofs.Ytiblkcbehcpjbaa
open Go.ChangeShapes Go.WideShapes Go.ChangeAt Go.RowKit
set_option linter.unusedVariables false
set_option linter.unusedSimpArgs false

theorem getElem?_map_val {α : Type} (f : α → Value) (zs : List α) (k : Nat) (h : k < zs.length) : (zs.map f)[k]? = some (f zs[k]) := by
  rw [List.getElem?_map, List.getElem?_eq_getElem h]; rfl

set_option maxHeartbeats 1000000 in
theorem paceFar_core (nm : ByteArray) (l t a b v : Int) (zs : List Int) (bs : List Bool) (az ab : Option Addr) (cz cb : Nat) (hs : nm.size ≤ maxLen) (w : World)
    (hz : IsVals w (.slice az zs.length cz) (zs.map (Value.int .i64))) (hbs : IsVals w (.slice ab bs.length cb) (bs.map Value.bool)) :
    Calls Try.prog 13 #[.agg #[.string nm, .int .i64 l, .int .i64 t, .int .i64 a, .int .i64 b], .int .i64 v, .slice az zs.length cz, .slice ab bs.length cb] w fun e w' => e = .returned (.bool true) ∧ Gr w w' := by
  have hbox := Box.new w nm l t a b 35
  have hg0 := (Gr.refl w).alloc (.cells #[.string nm, .int .i64 l, .int .i64 t, .int .i64 a, .int .i64 b] 35)
  have lz : zs.length ≤ 9223372036854775807 := by obtain ⟨_, _, _, h, _⟩ := hz; unfold maxLen at h; simpa using h
  have lb : bs.length ≤ 9223372036854775807 := by obtain ⟨_, _, _, h, _⟩ := hbs; unfold maxLen at h; simpa using h
  cases hm : mayB nm l t a b with
  | false =>
    have HM := Lib.hid hm
    clear hm hz hbs
    go_enter Try.func13, Try.ntmps13
    go_wp2_with fail
    refine (known22_any _).mono ?_
    rintro e w1 ⟨rfl, h1⟩
    have hb1 := hbox.gr h1
    have hg1 := hg0.trans h1
    clear hbox hg0 h1
    obtain ⟨i0, c0, c1, c2, c3, c4⟩ := hb1
    go_wp2_with fail
    refine (may_any _ _ _ _ _ hs _).mono ?_
    rintro e w2 ⟨rfl, h2⟩
    rw [HM.out]
    have hb2 := Box.gr ⟨i0, c0, c1, c2, c3, c4⟩ h2
    have hg2 := hg1.trans h2
    clear i0 c0 c1 c2 c3 c4 hg1 h2
    obtain ⟨i0, c0, c1, c2, c3, c4⟩ := hb2
    go_wp2_with fail
    go_ret
    exact ⟨rfl, hg2⟩
  | true =>
    have HM := Lib.hid hm
    obtain ⟨-, -, ht, ha, hb⟩ := mayB_parts hm
    clear hm
    by_cases h300 : 300 < zs.length
    · clear hz hbs
      go_enter Try.func13, Try.ntmps13
      go_wp2_with fail
      refine (known22_any _).mono ?_
      rintro e w1 ⟨rfl, h1⟩
      have hb1 := hbox.gr h1
      have hg1 := hg0.trans h1
      clear hbox hg0 h1
      obtain ⟨i0, c0, c1, c2, c3, c4⟩ := hb1
      go_wp2_with fail
      refine (may_any _ _ _ _ _ hs _).mono ?_
      rintro e w2 ⟨rfl, h2⟩
      rw [HM.out]
      have hb2 := Box.gr ⟨i0, c0, c1, c2, c3, c4⟩ h2
      have hg2 := hg1.trans h2
      clear i0 c0 c1 c2 c3 c4 hg1 h2
      obtain ⟨i0, c0, c1, c2, c3, c4⟩ := hb2
      go_wp2_with fail
      go_ret
      exact ⟨rfl, hg2⟩
    obtain ⟨R, hR⟩ : ∃ R, R = rch t a b zs.length v := ⟨_, rfl⟩
    have eR : rch t a b (hld (zs.length : Int) 0 65536).toNat v = R := by
      rw [hR, hld_id _ _ _ (by omega) (by omega)]; rfl
    have HR := Lib.hid hR
    have ER := Lib.hid eR
    clear hR eR
    have HZ := Lib.hid hz
    have HB := Lib.hid hbs
    clear hz hbs
    go_enter Try.func13, Try.ntmps13
    go_wp2_with fail
    refine (known22_any _).mono ?_
    rintro e w1 ⟨rfl, h1⟩
    have hb1 := hbox.gr h1
    have hg1 := hg0.trans h1
    clear hbox hg0 h1
    obtain ⟨i0, c0, c1, c2, c3, c4⟩ := hb1
    go_wp2_with fail
    refine (may_any _ _ _ _ _ hs _).mono ?_
    rintro e w2 ⟨rfl, h2⟩
    rw [HM.out]
    have hb2 := Box.gr ⟨i0, c0, c1, c2, c3, c4⟩ h2
    have hg2 := hg1.trans h2
    clear i0 c0 c1 c2 c3 c4 hg1 h2
    obtain ⟨i0, c0, c1, c2, c3, c4⟩ := hb2
    go_wp2_with fail
    have hbx : Box w2 w.heap.size nm l t a b := ⟨i0, c0, c1, c2, c3, c4⟩
    clear i0 c0 c1 c2 c3 c4
    go_loopw [9, 10, 11, 12, 26] (fun n x _ _ i wr => ∃ (k : Nat) (U N : Int), x = .int .i64 U ∧ n = .int .i64 N ∧ i = .int .i64 k ∧ k ≤ zs.length ∧ 0 ≤ N ∧ N ≤ 60 * k ∧ Hid (∃ V, hld U 0 t ≤ hld V 0 t ∧ N + rch t a b (zs.length - k) V ≤ R) ∧ Gr w wr ∧ Box wr w.heap.size nm l t a b) (fun _ _ _ _ i _ => zs.length - (intOf i).toNat)
    case atStart => exact ⟨0, v, 0, rfl, rfl, rfl, by omega, by omega, by omega, ⟨v, Int.le_refl _, by rw [HR.out]; simp⟩, hg2, hbx⟩
    case round =>
      obtain ⟨k, U, N, rfl, rfl, rfl, r1, r2, r3, HV, g, ⟨i0, c0, c1, c2, c3, c4⟩⟩ := hrel
      clear hbx hg2
      by_cases hp : k < zs.length
      · have hz' := HZ.out.gr g
        obtain ⟨az', cz', ez, -, hz'⟩ := hz'
        simp only [Value.slice.injEq] at ez
        obtain ⟨rfl, -, rfl⟩ := ez
        rcases hz' with hz' | ⟨zb, zo, rfl, zlt, zc⟩
        · exfalso
          have := congrArg List.length hz'
          simp at this
          rw [this] at hp
          simp at hp
        have cz := zc k _ (getElem?_map_val _ zs k hp)
        clear zc
        obtain ⟨z, hz0⟩ : ∃ z, z = zs[k] := ⟨_, rfl⟩
        rw [← hz0] at cz
        clear hz0
        have fin : ∀ f : Bool, ∃ V : Int, hld (nxt t a b U z f) 0 t ≤ hld V 0 t ∧ N + nxt t a b U z f + rch t a b (zs.length - (k + 1)) V ≤ R := by
          intro f
          obtain ⟨V, q1, q2⟩ := HV.out
          have q3 := nxt_le_acc t a b U V z f ha.1 hb.1 q1
          refine ⟨acc t a b V, hld_mono _ _ _ _ q3, ?_⟩
          rw [show zs.length - k = (zs.length - (k + 1)) + 1 from by omega] at q2
          simp only [rch] at q2
          omega
        have FIN := Lib.hid fin
        have NB : ∀ f : Bool, 0 ≤ nxt t a b U z f ∧ nxt t a b U z f ≤ t := fun f => nxt_bd _ _ _ _ _ _ ht.1
        have NBH := Lib.hid NB
        clear fin HV NB
        have r4 : N + t ≤ 60 * ((k + 1 : Nat) : Int) := by omega
        by_cases hk2 : k < bs.length
        · have hb' := HB.out.gr g
          obtain ⟨ab', cb', eb, -, hb'⟩ := hb'
          simp only [Value.slice.injEq] at eb
          obtain ⟨rfl, -, rfl⟩ := eb
          rcases hb' with hb' | ⟨fb, fo, rfl, flt, fc⟩
          · exfalso
            have := congrArg List.length hb'
            simp at this
            rw [this] at hk2
            simp at hk2
          have cf := fc k _ (getElem?_map_val _ bs k hk2)
          clear fc
          obtain ⟨f, hf0⟩ : ∃ f, f = bs[k] := ⟨_, rfl⟩
          rw [← hf0] at cf
          clear hf0
          have nb := NBH.out f
          obtain ⟨nb1, nb2⟩ := nb
          have k2i : (k : Int) < (bs.length : Int) := by omega
          go_wp2_with fail
          go_still_tail 13, (by kernel_rfl)
          go_wp2_with fail
          refine (next_any nm l t a b U z f ht ha hb _).mono ?_
          rintro e w4 ⟨rfl, h4⟩
          have h4 := ((Gr.refl wr).drew).trans h4
          have hb4 := Box.gr ⟨i0, c0, c1, c2, c3, c4⟩ h4
          have hg4 : Gr w w4 := g.trans h4
          have HV' : Hid (∃ V : Int, hld (nxt t a b U z f) 0 t ≤ hld V 0 t ∧ N + nxt t a b U z f + rch t a b (zs.length - (k + 1)) V ≤ R) := FIN.out f
          clear i0 c0 c1 c2 c3 c4 g h4 FIN NBH
          have hb4' := hb4
          obtain ⟨i0, c0, c1, c2, c3, c4⟩ := hb4
          go_simp
          go_wp2_with fail
          go_roundw
          case rel => exact ⟨k + 1, nxt t a b U z f, N + nxt t a b U z f, rfl, rfl, by go_num, by omega, by omega, by omega, HV', hg4, hb4'⟩
          case measure => simp [intOf]; omega
        · have kd : decide ((k : Int) < (bs.length : Int)) = false := by simp; omega
          have nb := NBH.out false
          obtain ⟨nb1, nb2⟩ := nb
          go_wp2_with fail
          go_still_tail 13, (by kernel_rfl)
          go_wp2_with fail
          refine (next_any nm l t a b U z false ht ha hb _).mono ?_
          rintro e w4 ⟨rfl, h4⟩
          have h4 := ((Gr.refl wr).drew).trans h4
          have hb4 := Box.gr ⟨i0, c0, c1, c2, c3, c4⟩ h4
          have hg4 : Gr w w4 := g.trans h4
          have HV' : Hid (∃ V : Int, hld (nxt t a b U z false) 0 t ≤ hld V 0 t ∧ N + nxt t a b U z false + rch t a b (zs.length - (k + 1)) V ≤ R) := FIN.out false
          clear i0 c0 c1 c2 c3 c4 g h4 FIN NBH
          have hb4' := hb4
          obtain ⟨i0, c0, c1, c2, c3, c4⟩ := hb4
          go_simp
          go_wp2_with fail
          go_roundw
          case rel => exact ⟨k + 1, nxt t a b U z false, N + nxt t a b U z false, rfl, rfl, by go_num, by omega, by omega, by omega, HV', hg4, hb4'⟩
          case measure => simp [intOf]; omega
      · have HN : Hid (N ≤ R) := by
          obtain ⟨V, q1, q2⟩ := HV.out
          rw [show zs.length - k = 0 from by omega] at q2
          simp [rch] at q2
          exact q2
        clear HV HZ HB
        go_wp2_with fail
        refine (reach_any nm l t a b v _ ht ha hb _).mono ?_
        rintro e w4 ⟨rfl, h4⟩
        rw [ER.out]
        have hN := HN.out
        go_wp2_with fail
        go_ret
        exact ⟨ret_bool (by simp), g.trans h4⟩

theorem paceFar_walk (x : Value) (s : Stk) (v : Int) (x2 : Value) (zs : List Int) (x3 : Value) (bs : List Bool) (w : World) (hx : IsStk x s) (_wv : (Lit.int .i64 v).wf = true) (h2 : IsVals w x2 (zs.map (Value.int .i64)) ∧ ∀ n ∈ zs, (Lit.int .i64 n).wf = true) (h3 : IsVals w x3 (bs.map Value.bool)) :
    Calls Try.prog 13 #[x, .int .i64 v, x2, x3] w fun e w' => e = .returned (.bool true) ∧ Gr w w' := by
  obtain ⟨rfl, hs, -⟩ := hx
  obtain ⟨h2, -⟩ := h2
  have h2' := h2
  have h3' := h3
  obtain ⟨az, cz, rfl, -⟩ := h2
  obtain ⟨ab, cb, rfl, -⟩ := h3
  simp only [List.length_map] at h2' h3' ⊢
  exact paceFar_core s.nm s.l s.t s.a s.b v zs bs az ab cz cb hs w h2' h3'
end Go.Proofs.Ytiblkcbehcpjbaa
