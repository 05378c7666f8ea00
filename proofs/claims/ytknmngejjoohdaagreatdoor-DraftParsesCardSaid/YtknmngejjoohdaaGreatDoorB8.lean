/- Pla2: plan.twice, over the three closures of Check. Printed by wip/gen_pla2.py. -/
import Derived.Test.YtknmngejjoohdaaGreatDoorRows
import Derived.Test.YtknmngejjoohdaaGreatDoorB3
import Derived.Test.YtknmngejjoohdaaGreatDoorB1
import Derived.Maps.OwnOps
import Derived.StringKeys
namespace Go.Proofs.YtknmngejjoohdaaGreatDoor
open Go.ChangeShapes Go.WideShapes Go.ChangeAt Go.RowKit Go.Maps
open Go.WideMaps (keyOf_string_mk)
set_option linter.unusedVariables false
set_option linter.unusedSimpArgs false

theorem bool_zero (w : World) : (zeroValue 4).run Tryz.prog w = .ok (.bool false) w := by kernel_rfl
def SeenF (l : List ByteArray) (f : Value → Option Value) : Prop := ∀ x : ByteArray, (x ∈ l → f (.string x) = some (.bool true)) ∧ (x ∉ l → f (.string x) = none)
theorem SeenF.nil : SeenF [] (fun _ => none) := fun x => ⟨fun h => (List.not_mem_nil h).elim, fun _ => rfl⟩
theorem SeenF.put {l : List ByteArray} {f : Value → Option Value} (h : SeenF l f) (x : ByteArray) : SeenF (l ++ [x]) (put f (.string x) (.bool true)) := by
  intro y
  unfold Go.Proofs.YtknmngejjoohdaaGreatDoor.put
  by_cases e : y = x
  · subst e; simp
  · have : ¬ (Value.string y = Value.string x) := by simp [e]
    rw [if_neg this]
    have h1 := h y
    simp only [List.mem_append, List.mem_singleton, e, or_false]
    exact h1
theorem name1_any (w : World) (P : Pln) (b : Nat) (av : Option Addr) (cv : Nat) (x0 x1 x2 x3 : Value) (hx : PBox w b P x0 x1 x2 x3) (hs : x0 = .slice av P.es.length cv) (hi : IsEles w (.slice av P.es.length cv) P.es) (hl : P.es.length ≤ 1000) (i : Nat) (hlt : i < P.es.length) :
    Calls Tryz.prog 80 #[.int .i64 i, .pointer (some ⟨b, 0, none⟩)] w fun e w' => e = .returned (.string P.es[i].n) ∧ w = w' := by
  subst hs
  obtain ⟨hb, d0, -⟩ := hx
  obtain ⟨b2, o, rfl, zs, y0, -, -⟩ := hi.at i hlt
  have i1 : (i : Int) < (P.es.length : Int) := by omega
  generalize P.es[i].n = nm at *
  go_enter Tryz.func80, Tryz.ntmps80
  go_wp2
  go_ret
  exact ⟨rfl, rfl⟩
set_option maxHeartbeats 400000 in
theorem twice1_any (N : List ByteArray) (b : Nat) (w : World) (hlen : ∀ x ∈ N, x.size ≤ maxLen) (hn : N.length ≤ 1000)
    (hc : ∀ (w' : World), Gr w w' → ∀ (i : Nat) (hi : i < N.length), Calls Tryz.prog 80 #[.int .i64 i, .pointer (some ⟨b, 0, none⟩)] w' fun e w'' => e = .returned (.string N[i]) ∧ w' = w'') :
    Calls Tryz.prog 79 #[.int .i64 N.length, .func (.func 80) #[] #[.pointer (some ⟨b, 0, none⟩)]] w fun e w' => e = .returned (.bool (twiceB N)) ∧ Gr w w' := by
  have hmm := @run_makeMap Tryz.prog
  have HC := Lib.hid hc
  have HLN := Lib.hid hlen
  clear hc hlen
  go_enter Tryz.func79, Tryz.ntmps79
  go_wp2_with fail
  go_loopw [6, 9] (fun _ x wr => ∃ (i : Nat) (f : Value → Option Value), x = .int .i64 i ∧ i ≤ N.length ∧ Gr w wr ∧ MapIs Tryz.prog 9 wr w.heap.size i f ∧ Hid (SeenF (N.take i) f) ∧ Hid (∀ p q (hp : p < N.length) (hq : q < p), p < i → N[p] ≠ N[q]'(by omega))) (fun _ x _ => N.length - (intOf x).toNat)
  case atStart => exact ⟨0, _, rfl, Nat.zero_le _, (Gr.refl _).alloc _, MapIs.made _ _ _, SeenF.nil, fun p q _ _ h => by omega⟩
  case round =>
    obtain ⟨i, f, rfl, hi, g, hm, HS, HA⟩ := hrel
    have HM := Lib.hid hm
    clear hm
    by_cases hlt : i < N.length
    · have i1 : (i : Int) < (N.length : Int) := by omega
      have HCI := Lib.hid (fun w' (h : Gr w w') => HC.out w' h i hlt)
      have hsz := HLN.out _ (List.getElem_mem hlt)
      have hkey := keyOf_string_mk (P := Tryz.prog) Tryz.underlying9 hsz
      have hlk := HM.out.lookup str_keyed Tryz.underlying189 (bool_zero _) hkey
      have HY : Hid (N[i] ∈ N.take i → twiceB N = true) := by
        intro h
        obtain ⟨k, hk, e⟩ := List.mem_iff_getElem.1 h
        have hk' : k < i := by simp at hk; omega
        rw [List.getElem_take] at e
        exact twice_yes hlt hk' e.symm
      have HA' : Hid (N[i] ∉ N.take i → ∀ p q (hp : p < N.length) (hq : q < p), p < i + 1 → N[p] ≠ N[q]'(by omega)) := by
        intro h p q hp hq hpi
        by_cases e : p = i
        · subst e
          intro e2
          exact h (by rw [e2]; exact List.mem_iff_getElem.2 ⟨q, by simp; omega, by rw [List.getElem_take]⟩)
        · exact HA.out p q hp hq (by omega)
      have HS' : Hid (SeenF (N.take (i + 1)) (put f (.string N[i]) (.bool true))) := by
        unfold Hid
        rw [List.take_succ_eq_append_getElem hlt]
        exact HS.out.put _
      have HFX1 := Lib.hid (HS.out N[i]).1
      have HFX2 := Lib.hid (HS.out N[i]).2
      have HKY := Lib.hid hkey
      clear HA HS hsz hkey
      generalize N[i] = x at *
      by_cases hx : x ∈ N.take i
      · have HR := Lib.hid (HY.out hx)
        rw [HFX1.out hx] at hlk
        simp only [Option.getD_some] at hlk
        clear hx HY HA'
        go_wp2_with (go_at_call 80; (with_reducible refine (HCI.out _ g).mono ?_); rintro e w' ⟨rfl, rfl⟩)
        go_ret
        exact ⟨ret_bool HR.out.symm, g⟩
      · have HA2 := Lib.hid (HA'.out hx)
        rw [HFX2.out hx] at hlk
        simp only [Option.getD_none] at hlk
        clear hx HY HA'
        go_wp2_with (first | (go_at_call 80; (with_reducible refine (HCI.out _ g).mono ?_); rintro e w' ⟨rfl, rfl⟩) | (at_mapUpdate; refine wpList_put _ rfl _ _ _ 189 rfl str_keyed Tryz.underlying189 rfl HM.out (by unfold maxLen; omega) _ _ _ rfl rfl HKY.out ?_; intro w2 hm2 hg2))
        have g2 : Gr w w2 := Gr.grownM g hg2 (Nat.le_refl _)
        go_roundw
        case rel => exact ⟨i + 1, _, by go_num, by omega, g2, hm2, HS'.out, HA2.out⟩
        case measure => simp [intOf]; omega
    · have HR := Lib.hid (twice_no fun p q hp hq => HA.out p q hp hq (by omega))
      clear HA
      go_wp2
      go_ret
      exact ⟨ret_bool HR.out.symm, g⟩
theorem name2_any (w : World) (P : Pln) (b : Nat) (av : Option Addr) (cv : Nat) (x0 x1 x2 x3 : Value) (hx : PBox w b P x0 x1 x2 x3) (hs : x2 = .slice av P.ss.length cv) (hi : IsSgs w (.slice av P.ss.length cv) P.ss) (hl : P.ss.length ≤ 1000) (i : Nat) (hlt : i < P.ss.length) :
    Calls Tryz.prog 81 #[.int .i64 i, .pointer (some ⟨b, 0, none⟩)] w fun e w' => e = .returned (.string P.ss[i].n) ∧ w = w' := by
  subst hs
  obtain ⟨hb, -, -, d2, -⟩ := hx
  obtain ⟨b2, o, rfl, zs, y0, -, -, -⟩ := hi.at i hlt
  have i1 : (i : Int) < (P.ss.length : Int) := by omega
  generalize P.ss[i].n = nm at *
  go_enter Tryz.func81, Tryz.ntmps81
  go_wp2
  go_ret
  exact ⟨rfl, rfl⟩
set_option maxHeartbeats 400000 in
theorem twice2_any (N : List ByteArray) (b : Nat) (w : World) (hlen : ∀ x ∈ N, x.size ≤ maxLen) (hn : N.length ≤ 1000)
    (hc : ∀ (w' : World), Gr w w' → ∀ (i : Nat) (hi : i < N.length), Calls Tryz.prog 81 #[.int .i64 i, .pointer (some ⟨b, 0, none⟩)] w' fun e w'' => e = .returned (.string N[i]) ∧ w' = w'') :
    Calls Tryz.prog 79 #[.int .i64 N.length, .func (.func 81) #[] #[.pointer (some ⟨b, 0, none⟩)]] w fun e w' => e = .returned (.bool (twiceB N)) ∧ Gr w w' := by
  have hmm := @run_makeMap Tryz.prog
  have HC := Lib.hid hc
  have HLN := Lib.hid hlen
  clear hc hlen
  go_enter Tryz.func79, Tryz.ntmps79
  go_wp2_with fail
  go_loopw [6, 9] (fun _ x wr => ∃ (i : Nat) (f : Value → Option Value), x = .int .i64 i ∧ i ≤ N.length ∧ Gr w wr ∧ MapIs Tryz.prog 9 wr w.heap.size i f ∧ Hid (SeenF (N.take i) f) ∧ Hid (∀ p q (hp : p < N.length) (hq : q < p), p < i → N[p] ≠ N[q]'(by omega))) (fun _ x _ => N.length - (intOf x).toNat)
  case atStart => exact ⟨0, _, rfl, Nat.zero_le _, (Gr.refl _).alloc _, MapIs.made _ _ _, SeenF.nil, fun p q _ _ h => by omega⟩
  case round =>
    obtain ⟨i, f, rfl, hi, g, hm, HS, HA⟩ := hrel
    have HM := Lib.hid hm
    clear hm
    by_cases hlt : i < N.length
    · have i1 : (i : Int) < (N.length : Int) := by omega
      have HCI := Lib.hid (fun w' (h : Gr w w') => HC.out w' h i hlt)
      have hsz := HLN.out _ (List.getElem_mem hlt)
      have hkey := keyOf_string_mk (P := Tryz.prog) Tryz.underlying9 hsz
      have hlk := HM.out.lookup str_keyed Tryz.underlying189 (bool_zero _) hkey
      have HY : Hid (N[i] ∈ N.take i → twiceB N = true) := by
        intro h
        obtain ⟨k, hk, e⟩ := List.mem_iff_getElem.1 h
        have hk' : k < i := by simp at hk; omega
        rw [List.getElem_take] at e
        exact twice_yes hlt hk' e.symm
      have HA' : Hid (N[i] ∉ N.take i → ∀ p q (hp : p < N.length) (hq : q < p), p < i + 1 → N[p] ≠ N[q]'(by omega)) := by
        intro h p q hp hq hpi
        by_cases e : p = i
        · subst e
          intro e2
          exact h (by rw [e2]; exact List.mem_iff_getElem.2 ⟨q, by simp; omega, by rw [List.getElem_take]⟩)
        · exact HA.out p q hp hq (by omega)
      have HS' : Hid (SeenF (N.take (i + 1)) (put f (.string N[i]) (.bool true))) := by
        unfold Hid
        rw [List.take_succ_eq_append_getElem hlt]
        exact HS.out.put _
      have HFX1 := Lib.hid (HS.out N[i]).1
      have HFX2 := Lib.hid (HS.out N[i]).2
      have HKY := Lib.hid hkey
      clear HA HS hsz hkey
      generalize N[i] = x at *
      by_cases hx : x ∈ N.take i
      · have HR := Lib.hid (HY.out hx)
        rw [HFX1.out hx] at hlk
        simp only [Option.getD_some] at hlk
        clear hx HY HA'
        go_wp2_with (go_at_call 81; (with_reducible refine (HCI.out _ g).mono ?_); rintro e w' ⟨rfl, rfl⟩)
        go_ret
        exact ⟨ret_bool HR.out.symm, g⟩
      · have HA2 := Lib.hid (HA'.out hx)
        rw [HFX2.out hx] at hlk
        simp only [Option.getD_none] at hlk
        clear hx HY HA'
        go_wp2_with (first | (go_at_call 81; (with_reducible refine (HCI.out _ g).mono ?_); rintro e w' ⟨rfl, rfl⟩) | (at_mapUpdate; refine wpList_put _ rfl _ _ _ 189 rfl str_keyed Tryz.underlying189 rfl HM.out (by unfold maxLen; omega) _ _ _ rfl rfl HKY.out ?_; intro w2 hm2 hg2))
        have g2 : Gr w w2 := Gr.grownM g hg2 (Nat.le_refl _)
        go_roundw
        case rel => exact ⟨i + 1, _, by go_num, by omega, g2, hm2, HS'.out, HA2.out⟩
        case measure => simp [intOf]; omega
    · have HR := Lib.hid (twice_no fun p q hp hq => HA.out p q hp hq (by omega))
      clear HA
      go_wp2
      go_ret
      exact ⟨ret_bool HR.out.symm, g⟩
theorem name3_any (w : World) (P : Pln) (b : Nat) (av : Option Addr) (cv : Nat) (x0 x1 x2 x3 : Value) (hx : PBox w b P x0 x1 x2 x3) (hs : x3 = .slice av P.ls.length cv) (hi : IsLns w (.slice av P.ls.length cv) P.ls) (hl : P.ls.length ≤ 1000) (i : Nat) (hlt : i < P.ls.length) :
    Calls Tryz.prog 82 #[.int .i64 i, .pointer (some ⟨b, 0, none⟩)] w fun e w' => e = .returned (.string P.ls[i].n) ∧ w = w' := by
  subst hs
  obtain ⟨hb, -, -, -, d3, -⟩ := hx
  obtain ⟨b2, o, u, rfl, zs, y0, -, -⟩ := hi.at i hlt
  have i1 : (i : Int) < (P.ls.length : Int) := by omega
  generalize P.ls[i].n = nm at *
  go_enter Tryz.func82, Tryz.ntmps82
  go_wp2
  go_ret
  exact ⟨rfl, rfl⟩
set_option maxHeartbeats 400000 in
theorem twice3_any (N : List ByteArray) (b : Nat) (w : World) (hlen : ∀ x ∈ N, x.size ≤ maxLen) (hn : N.length ≤ 1000)
    (hc : ∀ (w' : World), Gr w w' → ∀ (i : Nat) (hi : i < N.length), Calls Tryz.prog 82 #[.int .i64 i, .pointer (some ⟨b, 0, none⟩)] w' fun e w'' => e = .returned (.string N[i]) ∧ w' = w'') :
    Calls Tryz.prog 79 #[.int .i64 N.length, .func (.func 82) #[] #[.pointer (some ⟨b, 0, none⟩)]] w fun e w' => e = .returned (.bool (twiceB N)) ∧ Gr w w' := by
  have hmm := @run_makeMap Tryz.prog
  have HC := Lib.hid hc
  have HLN := Lib.hid hlen
  clear hc hlen
  go_enter Tryz.func79, Tryz.ntmps79
  go_wp2_with fail
  go_loopw [6, 9] (fun _ x wr => ∃ (i : Nat) (f : Value → Option Value), x = .int .i64 i ∧ i ≤ N.length ∧ Gr w wr ∧ MapIs Tryz.prog 9 wr w.heap.size i f ∧ Hid (SeenF (N.take i) f) ∧ Hid (∀ p q (hp : p < N.length) (hq : q < p), p < i → N[p] ≠ N[q]'(by omega))) (fun _ x _ => N.length - (intOf x).toNat)
  case atStart => exact ⟨0, _, rfl, Nat.zero_le _, (Gr.refl _).alloc _, MapIs.made _ _ _, SeenF.nil, fun p q _ _ h => by omega⟩
  case round =>
    obtain ⟨i, f, rfl, hi, g, hm, HS, HA⟩ := hrel
    have HM := Lib.hid hm
    clear hm
    by_cases hlt : i < N.length
    · have i1 : (i : Int) < (N.length : Int) := by omega
      have HCI := Lib.hid (fun w' (h : Gr w w') => HC.out w' h i hlt)
      have hsz := HLN.out _ (List.getElem_mem hlt)
      have hkey := keyOf_string_mk (P := Tryz.prog) Tryz.underlying9 hsz
      have hlk := HM.out.lookup str_keyed Tryz.underlying189 (bool_zero _) hkey
      have HY : Hid (N[i] ∈ N.take i → twiceB N = true) := by
        intro h
        obtain ⟨k, hk, e⟩ := List.mem_iff_getElem.1 h
        have hk' : k < i := by simp at hk; omega
        rw [List.getElem_take] at e
        exact twice_yes hlt hk' e.symm
      have HA' : Hid (N[i] ∉ N.take i → ∀ p q (hp : p < N.length) (hq : q < p), p < i + 1 → N[p] ≠ N[q]'(by omega)) := by
        intro h p q hp hq hpi
        by_cases e : p = i
        · subst e
          intro e2
          exact h (by rw [e2]; exact List.mem_iff_getElem.2 ⟨q, by simp; omega, by rw [List.getElem_take]⟩)
        · exact HA.out p q hp hq (by omega)
      have HS' : Hid (SeenF (N.take (i + 1)) (put f (.string N[i]) (.bool true))) := by
        unfold Hid
        rw [List.take_succ_eq_append_getElem hlt]
        exact HS.out.put _
      have HFX1 := Lib.hid (HS.out N[i]).1
      have HFX2 := Lib.hid (HS.out N[i]).2
      have HKY := Lib.hid hkey
      clear HA HS hsz hkey
      generalize N[i] = x at *
      by_cases hx : x ∈ N.take i
      · have HR := Lib.hid (HY.out hx)
        rw [HFX1.out hx] at hlk
        simp only [Option.getD_some] at hlk
        clear hx HY HA'
        go_wp2_with (go_at_call 82; (with_reducible refine (HCI.out _ g).mono ?_); rintro e w' ⟨rfl, rfl⟩)
        go_ret
        exact ⟨ret_bool HR.out.symm, g⟩
      · have HA2 := Lib.hid (HA'.out hx)
        rw [HFX2.out hx] at hlk
        simp only [Option.getD_none] at hlk
        clear hx HY HA'
        go_wp2_with (first | (go_at_call 82; (with_reducible refine (HCI.out _ g).mono ?_); rintro e w' ⟨rfl, rfl⟩) | (at_mapUpdate; refine wpList_put _ rfl _ _ _ 189 rfl str_keyed Tryz.underlying189 rfl HM.out (by unfold maxLen; omega) _ _ _ rfl rfl HKY.out ?_; intro w2 hm2 hg2))
        have g2 : Gr w w2 := Gr.grownM g hg2 (Nat.le_refl _)
        go_roundw
        case rel => exact ⟨i + 1, _, by go_num, by omega, g2, hm2, HS'.out, HA2.out⟩
        case measure => simp [intOf]; omega
    · have HR := Lib.hid (twice_no fun p q hp hq => HA.out p q hp hq (by omega))
      clear HA
      go_wp2
      go_ret
      exact ⟨ret_bool HR.out.symm, g⟩
end Go.Proofs.YtknmngejjoohdaaGreatDoor
