/- Chkb: The document's answer: lines.
Pac1s: Pace: held, may, Next and the reference's.
Pac2s: Pace: braking distances.
Chk4: The document's answer: long.
Chkc: The document's answer: Check.
Few: Few, Fine.
NewQ: net.New: the plain rounds.
NumP: Numbers of so many digits: plain. No program. -/
import Derived.Test.YtjblplflgiibdaaDoorRows
import Derived.Test.YtjblplflgiibdaaDoorB7
import Derived.Test.YtjblplflgiibdaaDoorB2
import Derived.Deep.RegionWith
import Derived.Test.YtjblplflgiibdaaDoorB3
import Derived.OpenShut
import Derived.Test.YtjblplflgiibdaaDoorB1
namespace Go.Proofs.YtjblplflgiibdaaDoor
open Go.ChangeShapes Go.WideShapes Go.ChangeAt Go.RowKit
set_option linter.unusedVariables false
set_option linter.unusedSimpArgs false
theorem linesB_eq (P : Pln) : linesB P = (decide (P.ls.flatMap (·.es)).Nodup && P.ls.all fun l => entB P l.es) := rfl
theorem lines_split {P : Pln} {i : Nat} (hi : i < P.ls.length) : P.ls.flatMap (·.es) = (P.ls.take i).flatMap (·.es) ++ (P.ls[i].es ++ (P.ls.drop (i + 1)).flatMap (·.es)) := by
  have h : P.ls = P.ls.take i ++ P.ls[i] :: P.ls.drop (i + 1) := by rw [← List.drop_eq_getElem_cons hi, List.take_append_drop]
  have h2 := congrArg (fun l => l.flatMap (·.es)) h
  simp only [List.flatMap_append, List.flatMap_cons] at h2
  exact h2
theorem lines_step {P : Pln} {i : Nat} (hi : i < P.ls.length) : (P.ls.take i).flatMap (·.es) ++ P.ls[i].es = (P.ls.take (i + 1)).flatMap (·.es) := by
  rw [List.take_succ_eq_append_getElem hi, List.flatMap_append]; simp
theorem dup_mid {A C l : List Int} (k : Nat) (hk : k < l.length) (h : l[k] ∈ A ++ l.take k) : ¬ (A ++ (l ++ C)).Nodup := by
  intro hn
  have hl : l = l.take k ++ l[k] :: l.drop (k + 1) := by rw [← List.drop_eq_getElem_cons hk, List.take_append_drop]
  obtain ⟨x, hx⟩ : ∃ x, x = l[k] := ⟨_, rfl⟩
  rw [← hx] at h hl
  rw [hl] at hn
  rw [List.append_assoc, ← List.append_assoc, List.nodup_append] at hn
  exact hn.2.2 x h x (by simp) rfl
theorem linesB_dup {P : Pln} {i k : Nat} (hi : i < P.ls.length) (hk : k < P.ls[i].es.length) (h : P.ls[i].es[k] ∈ (P.ls.take i).flatMap (·.es) ++ P.ls[i].es.take k) : linesB P = false := by
  rw [linesB_eq]
  have : ¬ (P.ls.flatMap (·.es)).Nodup := by
    rw [lines_split hi]
    exact dup_mid k hk h
  rw [decide_eq_false this]; rfl
theorem linesB_ent {P : Pln} {i : Nat} (hi : i < P.ls.length) (h : entB P P.ls[i].es = false) : linesB P = false := by
  rw [linesB_eq, all_false_of P.ls (fun l => entB P l.es) i hi h]; simp
theorem linesB_yes {P : Pln} (h1 : (P.ls.flatMap (·.es)).Nodup) (h2 : ∀ i (hi : i < P.ls.length), entB P P.ls[i].es = true) : linesB P = true := by
  rw [linesB_eq, all_true_of P.ls (fun l => entB P l.es) h2, decide_eq_true h1]; rfl
theorem nodup_snoc {l : List Int} {x : Int} (h : l.Nodup) (hx : x ∉ l) : (l ++ [x]).Nodup := by
  rw [List.nodup_append]
  refine ⟨h, by simp, ?_⟩
  intro a ha b hb e
  simp at hb
  subst hb; subst e
  exact hx ha
end Go.Proofs.YtjblplflgiibdaaDoor
namespace Go.Proofs.YtjblplflgiibdaaDoor
open Go.ChangeShapes Go.WideShapes Go.ChangeAt Go.RowKit
set_option linter.unusedVariables false
set_option linter.unusedSimpArgs false

end Go.Proofs.YtjblplflgiibdaaDoor
namespace Go.Proofs.YtjblplflgiibdaaDoor
open Go.ChangeShapes Go.WideShapes Go.ChangeAt Go.RowKit
set_option linter.unusedVariables false
set_option linter.unusedSimpArgs false

theorem planStop_any (v b : Int) (hv : 0 ≤ v ∧ v ≤ 60) (hb : 1 ≤ b ∧ b ≤ 10) (w : World) :
    Calls Tryd.prog 58 #[.int .i64 v, .int .i64 b] w fun e w' => e = .returned (.int .i64 (stp b v)) ∧ w' = w := by
  obtain ⟨hv1, hv2⟩ := hv
  obtain ⟨hb1, hb2⟩ := hb
  go_enter Tryd.func58, Tryd.ntmps58
  go_wp2
  go_loop [5, 0] (fun n x => ∃ (k : Nat) (V N : Int), n = .int .i64 N ∧ x = .int .i64 V ∧ V ≤ k ∧ k ≤ 60 ∧ -10 ≤ V ∧ 0 ≤ N ∧ N ≤ (60 - k) * 60 ∧ Hid (N + tailS b k V = stp b v)) (fun _ x => (intOf x).toNat)
  case atStart => exact ⟨60, v - b, 0, rfl, rfl, by omega, by omega, by omega, by omega, by omega, by unfold Hid stp; omega⟩
  case round =>
    obtain ⟨k, V, N, rfl, rfl, r1, r2, r3, r4, r5, HS⟩ := hrel
    by_cases hp : 0 < V
    · obtain ⟨j, hj, hs⟩ := tailS_pos b k V hp r1
      have HT : Hid (N + V + tailS b j (V - b) = stp b v) := by unfold Hid; rw [← HS.out, hs]; omega
      have r6 : V - b ≤ j := by omega
      have r7 : N + V ≤ (60 - j) * 60 := by omega
      have r8 : j ≤ 60 := by omega
      clear hs hj HS
      go_wp2
      go_round
      case rel => exact ⟨j, V - b, N + V, rfl, rfl, by omega, r8, by omega, by omega, r7, HT⟩
      case measure => simp [intOf]; omega
    · have HT : Hid (N = stp b v) := by unfold Hid; rw [← HS.out, tailS_no b k V hp]; omega
      clear HS
      go_wp2
      go_ret
      exact ⟨ret_int HT.out, rfl⟩
end Go.Proofs.YtjblplflgiibdaaDoor
namespace Go.Proofs.YtjblplflgiibdaaDoor
open Go.ChangeShapes Go.WideShapes Go.ChangeAt Go.RowKit
set_option linter.unusedVariables false
set_option linter.unusedSimpArgs false
theorem longB_ss {P : Pln} {k : Nat} (hk : k < P.ss.length) (h1 : kindP P P.ss[k].at_.e = 1) (h2 : lenP P P.ss[k].at_.e < P.margin) : longB P = false := by
  unfold longB
  have : P.ss.all (fun s => !decide (kindP P s.at_.e = 1) || decide (P.margin ≤ lenP P s.at_.e)) = false := by
    rw [List.all_eq_false]
    refine ⟨P.ss[k], List.getElem_mem hk, ?_⟩
    simp [h1]; omega
  rw [this]; simp
theorem longB_es {P : Pln} {k : Nat} (hk : k < P.es.length) (h1 : P.es[k].k ≠ 4) (h2 : P.es[k].l < P.top) : longB P = false := by
  unfold longB
  have : P.es.all (fun e => decide (e.k = 4) || decide (P.top ≤ e.l)) = false := by
    rw [List.all_eq_false]
    refine ⟨P.es[k], List.getElem_mem hk, ?_⟩
    simp [h1]; omega
  rw [this]; simp
theorem longB_yes {P : Pln} (h0 : P.top + stp P.brake P.top ≤ P.margin) (h1 : ∀ k (hk : k < P.ss.length), kindP P P.ss[k].at_.e = 1 → P.margin ≤ lenP P P.ss[k].at_.e) (h2 : ∀ k (hk : k < P.es.length), P.es[k].k ≠ 4 → P.top ≤ P.es[k].l) : longB P = true := by
  unfold longB
  have a : P.ss.all (fun s => !decide (kindP P s.at_.e = 1) || decide (P.margin ≤ lenP P s.at_.e)) = true := by
    rw [List.all_eq_true]
    intro s hs
    obtain ⟨k, hk, rfl⟩ := List.mem_iff_getElem.1 hs
    by_cases e : kindP P P.ss[k].at_.e = 1
    · have := h1 k hk e; simp [this]
    · simp [e]
  have b : P.es.all (fun e => decide (e.k = 4) || decide (P.top ≤ e.l)) = true := by
    rw [List.all_eq_true]
    intro s hs
    obtain ⟨k, hk, rfl⟩ := List.mem_iff_getElem.1 hs
    by_cases e : P.es[k].k = 4
    · simp [e]
    · have := h2 k hk e; simp [this]
  rw [a, b]; simp [h0]
end Go.Proofs.YtjblplflgiibdaaDoor
namespace Go.Proofs.YtjblplflgiibdaaDoor
open Go.ChangeShapes Go.WideShapes Go.ChangeAt Go.RowKit
set_option linter.unusedVariables false
set_option linter.unusedSimpArgs false
theorem chk_long {P : Pln} (h : 40 < P.es.length ∨ 24 < P.ss.length ∨ 4 < P.ls.length ∨ 80 < P.js.length) : chk P = 3 := by unfold chk; rw [if_pos h]
theorem chk_rest {P : Pln} (h : ¬ (40 < P.es.length ∨ 24 < P.ss.length ∨ 4 < P.ls.length ∨ 80 < P.js.length)) :
    chk P = if argsB P = false then 1 else if (twiceB (P.es.map (·.n)) || twiceB (P.ss.map (·.n)) || twiceB (P.ls.map (·.n))) = true then 4 else if joinedB P = false then 6 else if signalsB P = false then 7 else if linesB P = false then 8 else if longB P = false then 9 else 0 := by
  unfold chk; rw [if_neg h]
theorem joined_ports {P : Pln} (h : joinedB P = true) : okL P P.js := Classical.byContradiction fun hn => by rw [joinedB_no hn] at h; cases h
theorem args_nums {P : Pln} (h : argsB P = true) : (1 ≤ P.top ∧ P.top ≤ 60) ∧ (1 ≤ P.brake ∧ P.brake ≤ 10) ∧ (1 ≤ P.margin ∧ P.margin ≤ 4000) ∧ (1 ≤ P.throw ∧ P.throw ≤ 20) ∧ 0 < P.es.length := by
  rw [argsB_eq] at h
  simp only [Bool.and_eq_true] at h
  have h0 := h.1.1.1
  unfold numsB inB at h0
  simp only [Bool.and_eq_true, decide_eq_true_eq, Bool.not_eq_true', decide_eq_false_iff_not] at h0
  omega
end Go.Proofs.YtjblplflgiibdaaDoor
namespace Go.Proofs.YtjblplflgiibdaaDoor
open Go.ChangeShapes Go.WideShapes Go.ChangeAt Go.RowKit
set_option linter.unusedVariables false
set_option linter.unusedSimpArgs false
def fewL (l : Ln) : Bool := decide (l.es.length ≤ 60) && decide (l.n.size ≤ 100)
def fewB (P : Pln) : Bool := (decide (P.es.length ≤ 60) && decide (P.js.length ≤ 120) && decide (P.ss.length ≤ 60) && decide (P.ls.length ≤ 20)) && P.ls.all fewL && P.es.all (fun e => decide (e.n.size ≤ 100)) && P.ss.all (fun s => decide (s.n.size ≤ 100))
theorem fewB_num {P : Pln} (h : 60 < P.es.length ∨ 120 < P.js.length ∨ 60 < P.ss.length ∨ 20 < P.ls.length) : fewB P = false := by
  unfold fewB
  have : (decide (P.es.length ≤ 60) && decide (P.js.length ≤ 120) && decide (P.ss.length ≤ 60) && decide (P.ls.length ≤ 20)) = false := by
    simp; omega
  rw [this]; rfl
theorem fewB_ls {P : Pln} {k : Nat} (hk : k < P.ls.length) (h : fewL P.ls[k] = false) : fewB P = false := by unfold fewB; rw [all_false_of _ _ k hk h]; simp
theorem fewB_es {P : Pln} {k : Nat} (hk : k < P.es.length) (h : 100 < P.es[k].n.size) : fewB P = false := by
  unfold fewB; rw [all_false_of P.es (fun e => decide (e.n.size ≤ 100)) k hk (by simpa using h)]; simp
theorem fewB_ss {P : Pln} {k : Nat} (hk : k < P.ss.length) (h : 100 < P.ss[k].n.size) : fewB P = false := by
  unfold fewB; rw [all_false_of P.ss (fun e => decide (e.n.size ≤ 100)) k hk (by simpa using h)]; simp
theorem fewB_yes {P : Pln} (h0 : P.es.length ≤ 60 ∧ P.js.length ≤ 120 ∧ P.ss.length ≤ 60 ∧ P.ls.length ≤ 20) (h1 : ∀ k (hk : k < P.ls.length), fewL P.ls[k] = true) (h2 : ∀ k (hk : k < P.es.length), P.es[k].n.size ≤ 100) (h3 : ∀ k (hk : k < P.ss.length), P.ss[k].n.size ≤ 100) : fewB P = true := by
  unfold fewB
  rw [all_true_of _ _ h1, all_true_of P.es (fun e => decide (e.n.size ≤ 100)) (fun k hk => by simpa using h2 k hk), all_true_of P.ss (fun e => decide (e.n.size ≤ 100)) (fun k hk => by simpa using h3 k hk)]
  simp [h0]
theorem few_bd {P : Pln} (h : fewB P = true) : P.es.length ≤ 60 ∧ P.js.length ≤ 120 ∧ P.ss.length ≤ 60 ∧ P.ls.length ≤ 20 ∧ (∀ l ∈ P.ls, l.es.length ≤ 60 ∧ l.n.size ≤ 100) ∧ (∀ e ∈ P.es, e.n.size ≤ 100) ∧ (∀ s ∈ P.ss, s.n.size ≤ 100) := by
  unfold fewB at h
  simp only [Bool.and_eq_true, decide_eq_true_eq, List.all_eq_true] at h
  refine ⟨h.1.1.1.1.1.1, h.1.1.1.1.1.2, h.1.1.1.1.2, h.1.1.1.2, fun l hl => ?_, h.1.2, h.2⟩
  have := h.1.1.2 l hl
  unfold fewL at this
  simpa using this
set_option maxRecDepth 100000 in
set_option maxHeartbeats 1000000 in
theorem few_any (v : Value) (P : Pln) (w : World) (hP : IsPln w v P) :
    Calls Tryd.prog 5 #[v] w fun e w' => e = .returned (.bool (fewB P)) ∧ Gr w w' := by
  obtain ⟨a1, c1, a2, c2, a3, c3, a4, c4, rfl, h1, h2, h3, h4⟩ := hP
  have m1 := IsRow.len h1
  have m2 := IsRow.len h2
  have m3 := IsRow.len h3
  have m4 : P.ls.length ≤ maxLen := by obtain ⟨S, hS, -⟩ := h4; exact IsRow.len hS
  unfold maxLen at m1 m2 m3 m4
  have H1 := Lib.hid h1
  have H3 := Lib.hid h3
  have H4 := Lib.hid h4
  have HB := Lib.hid (bxW_box w P (.slice a1 P.es.length c1) (.slice a2 P.js.length c2) (.slice a3 P.ss.length c3) (.slice a4 P.ls.length c4))
  have hw0 := bxW_gr w P (.slice a1 P.es.length c1) (.slice a2 P.js.length c2) (.slice a3 P.ss.length c3) (.slice a4 P.ls.length c4)
  obtain ⟨wb, hwb⟩ : ∃ wb, wb = bxW w P (.slice a1 P.es.length c1) (.slice a2 P.js.length c2) (.slice a3 P.ss.length c3) (.slice a4 P.ls.length c4) := ⟨_, rfl⟩
  rw [← hwb] at HB hw0
  unfold plnV
  have HWB := Lib.hid hwb
  have HYES := Lib.hid (@fewB_yes P)
  clear h1 h2 h3 h4 hwb
  by_cases hlong : 60 < P.es.length ∨ 120 < P.js.length ∨ 60 < P.ss.length ∨ 20 < P.ls.length
  · have HC := Lib.hid (fewB_num hlong)
    have hcs : (60 < (P.es.length : Int)) ∨ (¬ 60 < (P.es.length : Int) ∧ 120 < (P.js.length : Int)) ∨ (¬ 60 < (P.es.length : Int) ∧ ¬ 120 < (P.js.length : Int) ∧ 60 < (P.ss.length : Int)) ∨ (¬ 60 < (P.es.length : Int) ∧ ¬ 120 < (P.js.length : Int) ∧ ¬ 60 < (P.ss.length : Int) ∧ 20 < (P.ls.length : Int)) := by omega
    clear hlong
    rcases hcs with l1 | ⟨l1, l2⟩ | ⟨l1, l2, l3⟩ | ⟨l1, l2, l3, l4⟩
    all_goals
      go_enter Tryd.func5, Tryd.ntmps5
      go_wp2
      go_ret
      exact ⟨ret_bool HC.out.symm, (Gr.refl _).alloc _⟩
  have HL0 : Hid (P.es.length ≤ 60 ∧ P.js.length ≤ 120 ∧ P.ss.length ≤ 60 ∧ P.ls.length ≤ 20) := by unfold Hid; omega
  obtain ⟨l1, l2, l3, l4⟩ : ¬ 60 < (P.es.length : Int) ∧ ¬ 120 < (P.js.length : Int) ∧ ¬ 60 < (P.ss.length : Int) ∧ ¬ 20 < (P.ls.length : Int) := by omega
  clear hlong
  go_enter Tryd.func5, Tryd.ntmps5
  go_wp2_with fail
  rw [show (w.alloc (.cells #[.slice a1 P.es.length c1, .slice a2 P.js.length c2, .slice a3 P.ss.length c3, .slice a4 P.ls.length c4, .int .i64 P.top, .int .i64 P.brake, .int .i64 P.margin, .int .i64 P.throw, .bool P.hard] 27)) = wb from HWB.out.symm]
  clear l1 l2 l3 l4
  have hbo := HB.out
  obtain ⟨zb, b0, b1, b2, b3, b4, b5, b6, b7, b8⟩ := hbo
  go_loopw [3] (fun i wr => ∃ k : Nat, i = .int .i64 k ∧ k ≤ P.ls.length ∧ wb = wr ∧ Hid (∀ j (hj : j < P.ls.length), j < k → fewL P.ls[j] = true)) (fun i _ => P.ls.length - (intOf i).toNat)
  case atStart => exact ⟨0, rfl, Nat.zero_le _, rfl, fun j _ h => by omega⟩
  case round =>
    obtain ⟨k, rfl, hk, rfl, HA⟩ := hrel
    by_cases hlt : k < P.ls.length
    · obtain ⟨b, o, u, hsome, zs, y0, y1, hu⟩ := (H4.out.gr hw0).at k hlt
      subst hsome
      obtain ⟨au, cu, rfl, -, -⟩ := hu
      simp only [List.length_map] at y1
      have hk1 : (k : Int) < (P.ls.length : Int) := by omega
      have HNO := Lib.hid (@fewB_ls P k hlt)
      have HA' : Hid (fewL P.ls[k] = true → ∀ j (hj : j < P.ls.length), j < k + 1 → fewL P.ls[j] = true) := by
        intro h j hj hjk
        by_cases e : j = k
        · subst e; exact h
        · exact HA.out j hj (by omega)
      have HF : Hid (fewL P.ls[k] = (decide (P.ls[k].es.length ≤ 60) && decide (P.ls[k].n.size ≤ 100))) := rfl
      clear HA
      generalize P.ls[k] = q at *
      obtain ⟨ln, le⟩ := q
      dsimp only at HF y0 y1
      by_cases q1 : 60 < le.length
      · have HR := Lib.hid (HNO.out (by rw [HF.out, decide_eq_false (by omega : ¬ le.length ≤ 60)]; rfl))
        have t1 : 60 < (le.length : Int) := by omega
        go_wp2
        go_ret
        exact ⟨ret_bool HR.out.symm, hw0⟩
      have t1 : ¬ 60 < (le.length : Int) := by omega
      by_cases q2 : 100 < ln.size
      · have HR := Lib.hid (HNO.out (by rw [HF.out, decide_eq_false (by omega : ¬ ln.size ≤ 100)]; simp))
        have t2 : 100 < (ln.size : Int) := by omega
        go_wp2
        go_ret
        exact ⟨ret_bool HR.out.symm, hw0⟩
      · have HG := Lib.hid (HA'.out (by rw [HF.out, decide_eq_true (by omega : ln.size ≤ 100), decide_eq_true (by omega : le.length ≤ 60)]; rfl))
        have t2 : ¬ 100 < (ln.size : Int) := by omega
        go_wp2
        go_roundw
        case rel => exact ⟨k + 1, by go_num, by omega, by trivial, HG.out⟩
        case measure => simp [intOf]; omega
    · have HY1 : Hid ((∀ k (hk : k < P.es.length), P.es[k].n.size ≤ 100) → (∀ k (hk : k < P.ss.length), P.ss[k].n.size ≤ 100) → fewB P = true) := fun h2 h3 => HYES.out HL0.out (fun j hj => HA.out j hj (by omega)) h2 h3
      clear HA HYES
      go_wp2_with fail
      go_loopw [4] (fun i wr => ∃ k : Nat, i = .int .i64 k ∧ k ≤ P.es.length ∧ wb = wr ∧ Hid (∀ j (hj : j < P.es.length), j < k → P.es[j].n.size ≤ 100)) (fun i _ => P.es.length - (intOf i).toNat)
      case atStart => exact ⟨0, rfl, Nat.zero_le _, rfl, fun j _ h => by omega⟩
      case round =>
        clear hlt hk
        obtain ⟨k, rfl, hk, rfl, HA⟩ := hrel
        by_cases hlt : k < P.es.length
        · obtain ⟨b, o, hsome, zs, y0, -, -⟩ := (H1.out.gr hw0).at k hlt
          subst hsome
          have hk1 : (k : Int) < (P.es.length : Int) := by omega
          have HNO := Lib.hid (@fewB_es P k hlt)
          have HA' : Hid (P.es[k].n.size ≤ 100 → ∀ j (hj : j < P.es.length), j < k + 1 → P.es[j].n.size ≤ 100) := by
            intro h j hj hjk
            by_cases e : j = k
            · subst e; exact h
            · exact HA.out j hj (by omega)
          clear HA
          generalize P.es[k].n = ln at *
          by_cases q2 : 100 < ln.size
          · have HR := Lib.hid (HNO.out q2)
            have t2 : 100 < (ln.size : Int) := by omega
            go_wp2
            go_ret
            exact ⟨ret_bool HR.out.symm, hw0⟩
          · have HG := Lib.hid (HA'.out (by omega))
            have t2 : ¬ 100 < (ln.size : Int) := by omega
            go_wp2
            go_roundw
            case rel => exact ⟨k + 1, by go_num, by omega, by trivial, HG.out⟩
            case measure => simp [intOf]; omega
        · have HY2 : Hid ((∀ k (hk : k < P.ss.length), P.ss[k].n.size ≤ 100) → fewB P = true) := fun h3 => HY1.out (fun j hj => HA.out j hj (by omega)) h3
          clear HA HY1
          go_wp2_with fail
          go_loopw [5] (fun i wr => ∃ k : Nat, i = .int .i64 k ∧ k ≤ P.ss.length ∧ wb = wr ∧ Hid (∀ j (hj : j < P.ss.length), j < k → P.ss[j].n.size ≤ 100)) (fun i _ => P.ss.length - (intOf i).toNat)
          case atStart => exact ⟨0, rfl, Nat.zero_le _, rfl, fun j _ h => by omega⟩
          case round =>
            clear hlt hk
            obtain ⟨k, rfl, hk, rfl, HA⟩ := hrel
            by_cases hlt : k < P.ss.length
            · obtain ⟨b, o, hsome, zs, y0, -, -, -⟩ := (H3.out.gr hw0).at k hlt
              subst hsome
              have hk1 : (k : Int) < (P.ss.length : Int) := by omega
              have HNO := Lib.hid (@fewB_ss P k hlt)
              have HA' : Hid (P.ss[k].n.size ≤ 100 → ∀ j (hj : j < P.ss.length), j < k + 1 → P.ss[j].n.size ≤ 100) := by
                intro h j hj hjk
                by_cases e : j = k
                · subst e; exact h
                · exact HA.out j hj (by omega)
              clear HA
              generalize P.ss[k].n = ln at *
              by_cases q2 : 100 < ln.size
              · have HR := Lib.hid (HNO.out q2)
                have t2 : 100 < (ln.size : Int) := by omega
                go_wp2
                go_ret
                exact ⟨ret_bool HR.out.symm, hw0⟩
              · have HG := Lib.hid (HA'.out (by omega))
                have t2 : ¬ 100 < (ln.size : Int) := by omega
                go_wp2
                go_roundw
                case rel => exact ⟨k + 1, by go_num, by omega, by trivial, HG.out⟩
                case measure => simp [intOf]; omega
            · have HR := Lib.hid (HY2.out fun j hj => HA.out j hj (by omega))
              clear HA
              go_wp2
              go_ret
              exact ⟨ret_bool HR.out.symm, hw0⟩
def fineB (P : Pln) : Bool := fewB P && decide (chk P = 0)
end Go.Proofs.YtjblplflgiibdaaDoor
namespace Go.Proofs.YtjblplflgiibdaaDoor
open Go.ChangeShapes Go.WideShapes Go.ChangeAt Go.RowKit Go.Maps
set_option linter.unusedVariables false
theorem i64_wrap (x : Int) : I64 (IntKind.i64.wrap x) := wf_wrap _ _
end Go.Proofs.YtjblplflgiibdaaDoor
namespace Go.Proofs.YtjblplflgiibdaaDoor
open Go.ChangeShapes Go.WideShapes Go.ChangeAt Go.RowKit
set_option linter.unusedVariables false
set_option linter.unusedSimpArgs false

def dgB (c : Int) : Bool := decide (48 ≤ c) && decide (c ≤ 57)
theorem dgB_iff (c : Int) : dgB c = true ↔ 48 ≤ c ∧ c ≤ 57 := by unfold dgB; simp
def nvB (s : ByteArray) : Nat → Int
  | 0 => 0
  | k + 1 => 10 * nvB s k + (bt s k - 48)
def allD (s : ByteArray) : Bool := (List.range s.size).all fun i => dgB (bt s i)
def numB (s : ByteArray) (d : Int) : Bool := decide (1 ≤ d) && decide (d ≤ 9) && decide (1 ≤ s.size) && decide ((s.size : Int) ≤ d) && !(decide (1 < s.size) && decide (bt s 0 = 48)) && allD s
def numN (s : ByteArray) (d : Int) : Int := if numB s d then nvB s s.size else 0
theorem allD_iff (s : ByteArray) : allD s = true ↔ ∀ i, i < s.size → 48 ≤ bt s i ∧ bt s i ≤ 57 := by
  unfold allD
  rw [List.all_eq_true]
  constructor
  · intro h i hi
    exact (dgB_iff _).1 (h i (List.mem_range.2 hi))
  · intro h i hi
    exact (dgB_iff _).2 (h i (List.mem_range.1 hi))
theorem numB_iff (s : ByteArray) (d : Int) : numB s d = true ↔ 1 ≤ d ∧ d ≤ 9 ∧ 1 ≤ s.size ∧ (s.size : Int) ≤ d ∧ ¬ (1 < s.size ∧ bt s 0 = 48) ∧ ∀ i, i < s.size → 48 ≤ bt s i ∧ bt s i ≤ 57 := by
  unfold numB
  rw [← allD_iff]
  simp only [Bool.and_eq_true, decide_eq_true_eq, Bool.not_eq_true', Bool.and_eq_false_iff, decide_eq_false_iff_not]
  constructor
  · rintro ⟨⟨⟨⟨⟨a, b⟩, c⟩, d⟩, e⟩, f⟩
    refine ⟨a, b, c, d, ?_, f⟩
    rintro ⟨g, h⟩
    rcases e with e | e
    · exact e g
    · exact e h
  · rintro ⟨a, b, c, d, e, f⟩
    refine ⟨⟨⟨⟨⟨a, b⟩, c⟩, d⟩, ?_⟩, f⟩
    rcases Classical.em (1 < s.size) with g | g
    · exact .inr fun h => e ⟨g, h⟩
    · exact .inl g
theorem numB_not {s : ByteArray} {d : Int} (h : ¬ (1 ≤ d ∧ d ≤ 9 ∧ 1 ≤ s.size ∧ (s.size : Int) ≤ d ∧ ¬ (1 < s.size ∧ bt s 0 = 48) ∧ ∀ i, i < s.size → 48 ≤ bt s i ∧ bt s i ≤ 57)) : numB s d = false ∧ numN s d = 0 := by
  have e : numB s d = false := by
    cases hq : numB s d with
    | false => rfl
    | true => exact absurd ((numB_iff s d).1 hq) h
  exact ⟨e, by unfold numN; rw [e]; rfl⟩
theorem nvB_bd (s : ByteArray) : ∀ k : Nat, (∀ i, i < k → 48 ≤ bt s i ∧ bt s i ≤ 57) → 0 ≤ nvB s k ∧ nvB s k < 10 ^ k
  | 0, _ => by simp [nvB]
  | k + 1, h => by
    have ih := nvB_bd s k fun i hi => h i (by omega)
    have hk := h k (by omega)
    have e : (10 : Int) ^ (k + 1) = 10 * 10 ^ k := by rw [Int.pow_succ, Int.mul_comm]
    simp only [nvB]
    omega
theorem pow_le9 (k : Nat) (h : k ≤ 8) : (10 : Int) ^ k ≤ 100000000 := by
  match k, h with
  | 0, _ => decide
  | 1, _ => decide
  | 2, _ => decide
  | 3, _ => decide
  | 4, _ => decide
  | 5, _ => decide
  | 6, _ => decide
  | 7, _ => decide
  | 8, _ => decide
end Go.Proofs.YtjblplflgiibdaaDoor
