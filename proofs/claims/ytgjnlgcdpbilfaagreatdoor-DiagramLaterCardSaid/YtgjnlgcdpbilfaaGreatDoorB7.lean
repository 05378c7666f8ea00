/- DgT: Timetables as texts: what Print tells, what Parse reads; there and back. Plain.
Num1: Numbers: the walks.
Nam2: word.Name.
StW: stock.may, May, Find, wrong, Check; the reference's Find, plain, Check.
StX: stock.wrong, Check; the reference's plain, Check.
Tab0: The memory's shape stays.
Wrd5: word.Words.
Cln: slices.Clone at the plan's element types. Printed by wip/gen_cln.py.
TwnP: net.twin: what its walk carries. -/
import Derived.Test.YtgjnlgcdpbilfaaGreatDoorRows
import Derived.Test.YtgjnlgcdpbilfaaGreatDoorB6
import Derived.Test.YtgjnlgcdpbilfaaGreatDoorB1
import Derived.Deep.LoopGhost
import Derived.Test.YtgjnlgcdpbilfaaGreatDoorB2
import Derived.WalkSpells
import Derived.ChangeAgain
import Derived.LaidMore
import Derived.Deep.DeepHandedRow
import Derived.Test.YtgjnlgcdpbilfaaGreatDoorShelf
import Derived.WalkMore
import Derived.Test.YtgjnlgcdpbilfaaGreatDoorB3
import Derived.Deep.RegionWith
import Derived.Deep.Cut
import Derived.Deep.DrawnRows
namespace Go.Proofs.YtgjnlgcdpbilfaaGreatDoor
open Go.ChangeShapes Go.WideShapes Go.ChangeAt Go.RowKit Go.Maps
set_option linter.unusedVariables false
set_option linter.unusedSimpArgs false
def bDay : ByteArray := ⟨#[100, 97, 121]⟩
def bTrain : ByteArray := ⟨#[116, 114, 97, 105, 110]⟩
def bTurn : ByteArray := ⟨#[116, 117, 114, 110]⟩
def bGo : ByteArray := ⟨#[103, 111]⟩
def bGate : ByteArray := ⟨#[103, 97, 116, 101]⟩
def bBuffer : ByteArray := ⟨#[98, 117, 102, 102, 101, 114]⟩
def sigN (P : Pln) (n : ByteArray) : Int := fstN (fun s => decide (s.n = n)) P.ss
def eleN (P : Pln) (n : ByteArray) : Int := fstN (fun e => decide (e.n = n)) P.es
def endW (v : ByteArray) : Int := if v = bGo then 1 else if v = bGate then 2 else if v = bBuffer then 3 else 0
def toW (P : Pln) (e : Int) (n : ByteArray) : Int := if e = 1 then sigN P n else eleN P n
def addLeg : List Rn → Leg → List Rn
  | [], _ => []
  | [r], x => [{ r with legs := r.legs ++ [x] }]
  | r :: q :: t, x => r :: addLeg (q :: t) x
theorem addLeg_snoc : ∀ (A : List Rn) (r : Rn) (x : Leg), addLeg (A ++ [r]) x = A ++ [{ r with legs := r.legs ++ [x] }]
  | [], r, x => rfl
  | [a], r, x => rfl
  | a :: b :: t, r, x => by
    show a :: addLeg ((b :: t) ++ [r]) x = _
    rw [addLeg_snoc (b :: t) r x]; rfl
theorem addLeg_len : ∀ (A : List Rn) (x : Leg), (addLeg A x).length = A.length
  | [], x => rfl
  | [a], x => rfl
  | a :: b :: t, x => by
    show (addLeg (b :: t) x).length + 1 = _
    rw [addLeg_len (b :: t) x]; rfl
def leg3 (P : Pln) (D : Dgm) (turn : Bool) (v t n : ByteArray) : Int ⊕ Dgm :=
  if D.runs = [] ∨ nmB n = false ∨ clkB t = false ∨ endW v = 0 then .inl 2
  else if toW P (endW v) n < 0 then .inl 5
  else .inr { D with runs := addLeg D.runs ⟨turn, (clkN t - D.beg) % 86400, endW v, toW P (endW v) n⟩ }
def legW (P : Pln) (D : Dgm) (turn : Bool) : List ByteArray → Int ⊕ Dgm
  | [v, t, n] => leg3 P D turn v t n
  | _ => .inl 2
def legL (P : Pln) (D : Dgm) (w : List ByteArray) : Int ⊕ Dgm :=
  match w with
  | [] => .inl 2
  | a :: t => if a = bTurn then legW P D true t else legW P D false (a :: t)
def train5 (P : Pln) (D : Dgm) (n k s d : ByteArray) : Int ⊕ Dgm :=
  if nmB n = true ∧ nmB k = true ∧ nmB s = true ∧ numB d 4 = true then
    (if findN D.st k < 0 ∨ sigN P s < 0 then .inl 5 else .inr { D with runs := D.runs ++ [⟨n, findN D.st k, sigN P s, numN d 4, []⟩] })
  else .inl 2
def trainW (P : Pln) (D : Dgm) : List ByteArray → Int ⊕ Dgm
  | [_, n, k, s, d] => train5 P D n k s d
  | _ => .inl 2
def dayW (D : Dgm) : List ByteArray → Int ⊕ Dgm
  | [_, t] => if clkB t = true then .inr { D with beg := clkN t } else .inl 2
  | _ => .inl 2
def stockW (D : Dgm) (w : List ByteArray) : Int ⊕ Dgm := match rowS w with | some k => .inr { D with st := D.st ++ [k] } | none => .inl 2
def lineW (P : Pln) (D : Dgm) (first : Bool) (w : List ByteArray) : Int ⊕ Dgm :=
  match w with
  | [] => .inl 2
  | a :: t => if first ≠ decide (a = bDay) then .inl 2 else if a = bDay then dayW D w else if a = bStock then stockW D w else if a = bTrain then trainW P D w else legL P D w
def lineD (P : Pln) (D : Dgm) (first : Bool) (s : ByteArray) : Int ⊕ Dgm := match wdB s with | none => .inl 2 | some w => lineW P D first w
def prgD (P : Pln) : List ByteArray → Nat → Dgm → (Nat × Int) ⊕ Dgm
  | [], _, D => .inr D
  | x :: t, i, D => match lineD P D (decide (i = 0)) x with | .inl e => .inl (i, e) | .inr D' => prgD P t (i + 1) D'
def parD (P : Pln) (s : ByteArray) : Dgm × Int × Int :=
  if 32768 < s.size then (dgm0, 0, 3) else match prgD P (lnB s) 0 dgm0 with
    | .inl (i, e) => (dgm0, (i : Int) + 1, e)
    | .inr D => if lnB s = [] then (dgm0, 0, 2) else if chkD P D = 0 then (D, (lnB s).length, 0) else (dgm0, (lnB s).length, chkD P D)
theorem prgD_cons (P : Pln) (x : ByteArray) (t : List ByteArray) (i : Nat) (D : Dgm) : prgD P (x :: t) i D = match lineD P D (decide (i = 0)) x with | .inl e => .inl (i, e) | .inr D' => prgD P t (i + 1) D' := rfl
theorem prgD_append (P : Pln) : ∀ (a b : List ByteArray) (i : Nat) (D : Dgm), prgD P (a ++ b) i D = match prgD P a i D with | .inl x => .inl x | .inr D' => prgD P b (i + a.length) D'
  | [], b, i, D => rfl
  | x :: t, b, i, D => by
    rw [List.cons_append, prgD_cons, prgD_cons]
    cases lineD P D (decide (i = 0)) x with
    | inl e => rfl
    | inr D' =>
      dsimp only
      rw [prgD_append P t b (i + 1) D', show i + 1 + t.length = i + (x :: t).length from by simp; omega]
theorem prgD_one (P : Pln) (x : ByteArray) (i : Nat) (D : Dgm) : prgD P [x] i D = match lineD P D (decide (i = 0)) x with | .inl e => .inl (i, e) | .inr D' => .inr D' := rfl
theorem prgD_next {P : Pln} {X : List ByteArray} {k : Nat} {D D' : Dgm} (hk : k < X.length) (h : prgD P (X.take k) 0 dgm0 = .inr D) (hl : lineD P D (decide (k = 0)) X[k] = .inr D') : prgD P (X.take (k + 1)) 0 dgm0 = .inr D' := by
  rw [List.take_succ_eq_append_getElem hk, prgD_append, h]
  dsimp only
  rw [prgD_one, List.length_take, Nat.min_eq_left (by omega), Nat.zero_add, hl]
theorem prgD_bad {P : Pln} {X : List ByteArray} {k : Nat} {D : Dgm} {e : Int} (hk : k < X.length) (h : prgD P (X.take k) 0 dgm0 = .inr D) (hl : lineD P D (decide (k = 0)) X[k] = .inl e) : prgD P X 0 dgm0 = .inl (k, e) := by
  have hx : X = X.take k ++ X[k] :: X.drop (k + 1) := by rw [← List.drop_eq_getElem_cons hk, List.take_append_drop]
  have : prgD P (X.take k ++ X[k] :: X.drop (k + 1)) 0 dgm0 = .inl (k, e) := by
    rw [prgD_append, h]
    dsimp only
    rw [List.length_take, Nat.min_eq_left (by omega), Nat.zero_add, prgD_cons, hl]
  rw [hx]
  simpa using this
theorem parD_long {P : Pln} {s : ByteArray} (h : 32768 < s.size) : parD P s = (dgm0, 0, 3) := by unfold parD; rw [if_pos h]
theorem parD_bad {P : Pln} {s : ByteArray} (h : ¬ 32768 < s.size) {k : Nat} {D : Dgm} {e : Int} (hk : k < (lnB s).length) (hg : prgD P ((lnB s).take k) 0 dgm0 = .inr D) (hl : lineD P D (decide (k = 0)) (lnB s)[k] = .inl e) : parD P s = (dgm0, (k : Int) + 1, e) := by
  unfold parD
  rw [if_neg h, prgD_bad hk hg hl]
theorem parD_good {P : Pln} {s : ByteArray} (h : ¬ 32768 < s.size) {D : Dgm} (hg : prgD P (lnB s) 0 dgm0 = .inr D) (hn : lnB s ≠ []) : parD P s = if chkD P D = 0 then (D, ((lnB s).length : Int), 0) else (dgm0, ((lnB s).length : Int), chkD P D) := by
  unfold parD
  rw [if_neg h, hg]
  dsimp only
  rw [if_neg hn]
theorem parD_none {P : Pln} {s : ByteArray} (h : ¬ 32768 < s.size) (hn : lnB s = []) : parD P s = (dgm0, 0, 2) := by
  unfold parD
  rw [if_neg h, hn]
  rfl
def verbW (e : Int) : ByteArray := if e = 1 then bGo else if e = 2 then bGate else bBuffer
def nameTo (P : Pln) (l : Leg) : ByteArray := if l.en = 1 then (P.ss.getD l.dst.toNat default).n else (P.es.getD l.dst.toNat default).n
def wordsL (P : Pln) (beg : Int) (l : Leg) : List ByteArray := (if l.turn then [bTurn] else []) ++ [verbW l.en, clkT ((beg + l.at_) % 86400), nameTo P l]
def wordsR (P : Pln) (D : Dgm) (r : Rn) : List ByteArray := [bTrain, r.nm, (D.st.getD r.st.toNat default).nm, (P.ss.getD r.fr.toNat default).n, dgs r.lf]
def rowsR (P : Pln) (D : Dgm) (r : Rn) : List ByteArray := jnW (wordsR P D r) :: r.legs.map fun l => jnW (wordsL P D.beg l)
def rowsD (P : Pln) (D : Dgm) : List ByteArray := jnW [bDay, clkT D.beg] :: (D.st.map lineS ++ D.runs.flatMap (rowsR P D))
def printD (P : Pln) (D : Dgm) : ByteArray := unl (rowsD P D)
end Go.Proofs.YtgjnlgcdpbilfaaGreatDoor
namespace Go.Proofs.YtgjnlgcdpbilfaaGreatDoor
open Go.ChangeShapes Go.WideShapes Go.ChangeAt Go.RowKit
set_option linter.unusedVariables false
set_option linter.unusedSimpArgs false
theorem toList_nil {s : ByteArray} : (s.toList = []) ↔ s.size = 0 := by
  rw [ByteArray.toList_eq]
  have hl : s.data.toList.length = s.size := by simp
  rw [← hl, List.length_eq_zero_iff]
set_option maxHeartbeats 800000 in
theorem number_any (s : ByteArray) (d : Int) (hs : s.size ≤ maxLen) (w : World) :
    Calls Tryz.prog 127 #[.string s, .int .i64 d] w fun e w' => e = .returned (.tuple #[.int .i64 (numN s d), .bool (numB s d)]) ∧ w' = w := by
  unfold maxLen at hs
  have hz1 : s.size = 0 → s.toList.isEmpty = true := fun h => by rw [List.isEmpty_iff]; exact toList_nil.2 h
  have hz2 : s.size ≠ 0 → s.toList.isEmpty = false := fun h => by
    cases hq : s.toList.isEmpty with
    | false => rfl
    | true => exact absurd (toList_nil.1 (List.isEmpty_iff.1 hq)) h
  by_cases h1 : d < 1
  · have hB := numB_not (s := s) (d := d) (by omega)
    have HB := Lib.hid hB
    clear hB hz1 hz2
    go_enter Tryz.func127, Tryz.ntmps127
    go_wp2
    go_ret2
    exact ⟨ret_ib HB.out.2.symm HB.out.1.symm, rfl⟩
  by_cases h2 : 9 < d
  · have hB := numB_not (s := s) (d := d) (by omega)
    have HB := Lib.hid hB
    clear hB hz1 hz2
    go_enter Tryz.func127, Tryz.ntmps127
    go_wp2
    go_ret2
    exact ⟨ret_ib HB.out.2.symm HB.out.1.symm, rfl⟩
  by_cases h3 : s.size = 0
  · have hB := numB_not (s := s) (d := d) (by omega)
    have HB := Lib.hid hB
    have hz := hz1 h3
    have hzz : s.size < 1 := by omega
    clear hB hz1 hz2 h3
    go_enter Tryz.func127, Tryz.ntmps127
    go_wp2
    go_ret2
    exact ⟨ret_ib HB.out.2.symm HB.out.1.symm, rfl⟩
  have hz := hz2 h3
  have h3' : 0 < s.size := by omega
  clear hz1 hz2 h3
  by_cases h4 : d < (s.size : Int)
  · have hB := numB_not (s := s) (d := d) (by omega)
    have HB := Lib.hid hB
    clear hB
    go_enter Tryz.func127, Tryz.ntmps127
    go_wp2
    go_ret2
    exact ⟨ret_ib HB.out.2.symm HB.out.1.symm, rfl⟩
  have HG := Lib.hid (bt_get s 0 h3')
  by_cases h5 : 1 < s.size ∧ bt s 0 = 48
  · have hB := numB_not (s := s) (d := d) (fun h => h.2.2.2.2.1 h5)
    have HB := Lib.hid hB
    obtain ⟨h51, h52⟩ := h5
    rw [HG.out] at h52
    have t1 : ((s[0].toNat : Int) == 48) = true := by rw [h52]; rfl
    have t3 : 1 < (s.size : Int) := by omega
    clear hB h52 HG
    go_enter Tryz.func127, Tryz.ntmps127
    go_wp2
    go_ret2
    exact ⟨ret_ib HB.out.2.symm HB.out.1.symm, rfl⟩
  have Hgo : Hid (∀ j : Nat, j ≤ s.size → (∀ i, i < j → 48 ≤ bt s i ∧ bt s i ≤ 57) → 0 ≤ nvB s j ∧ nvB s j < 10 ^ j) := fun j _ h => nvB_bd s j h
  have t5 : ((s[0].toNat : Int) == 48) = false ∨ (((s[0].toNat : Int) == 48) = true ∧ s.size = 1) := by
    rw [HG.out] at h5
    rcases Classical.em (s[0].toNat = 48) with h | h
    · right
      refine ⟨by rw [h]; rfl, ?_⟩
      have : ¬ 1 < s.size := fun h' => h5 ⟨h', by omega⟩
      omega
    · left
      rw [beq_eq_false_iff_ne]
      omega
  have H5 := Lib.hid h5
  clear h5 HG
  have h6 : s.size ≤ 9 := by omega
  have t6 : (((s[0].toNat : Int) == 48) = false ∧ 1 < (s.size : Int)) ∨ (((s[0].toNat : Int) == 48) = true ∧ ¬ 1 < (s.size : Int)) ∨ (((s[0].toNat : Int) == 48) = false ∧ ¬ 1 < (s.size : Int)) := by
    rcases t5 with h | ⟨h, h'⟩
    · rcases Classical.em (1 < (s.size : Int)) with g | g
      · exact .inl ⟨h, g⟩
      · exact .inr (.inr ⟨h, g⟩)
    · exact .inr (.inl ⟨h, by omega⟩)
  clear t5
  rcases t6 with ⟨t5, t7⟩ | ⟨t5, t7⟩ | ⟨t5, t7⟩
  all_goals
    go_enter Tryz.func127, Tryz.ntmps127
    go_wp2
    go_loop [6, 7] (fun n i => ∃ (k : Nat) (N : Int), i = .int .i64 k ∧ n = .int .i64 N ∧ k ≤ s.size ∧ 0 ≤ N ∧ N < 1000000000 ∧ Hid (N = nvB s k) ∧ Hid (∀ j, j < k → 48 ≤ bt s j ∧ bt s j ≤ 57)) (fun _ i => s.size - (intOf i).toNat)
    case atStart => exact ⟨0, 0, rfl, rfl, by omega, by omega, by omega, rfl, fun j hj => by omega⟩
    case round =>
      obtain ⟨k, N, rfl, rfl, hk, n0, n1, HN, HD⟩ := hrel
      by_cases hlt : k < s.size
      · have hg := bt_get s k hlt
        by_cases hd : 48 ≤ bt s k ∧ bt s k ≤ 57
        · have HD' : Hid (∀ j, j < k + 1 → 48 ≤ bt s j ∧ bt s j ≤ 57) := by
            intro j hj
            by_cases e : j = k
            · rw [e]; exact hd
            · exact HD.out j (by omega)
          have hb := nvB_bd s k HD.out
          have hp := pow_le9 k (by omega)
          have n2 : N < 100000000 := by have := HN.out; omega
          have HN' : Hid (10 * N + (bt s k - 48) = nvB s (k + 1)) := by unfold Hid; rw [HN.out]; rfl
          have hN2 := HN'.out
          rw [hg] at hd hN2
          have HN3 := Lib.hid hN2
          obtain ⟨d1, d2⟩ := hd
          clear hg HN HD hb hp HN' hN2
          go_wp2
          all_goals try (go_quiet (fail); go_wp2)
          all_goals go_round
          all_goals try (case rel => exact ⟨k + 1, _, by go_num, rfl, by omega, by omega, by omega, by first | exact HN3 | (unfold Hid; rw [← HN3.out]; omega), HD'⟩)
          all_goals try (case measure => simp [intOf]; omega)
        · have hB := numB_not (s := s) (d := d) (fun h => hd (h.2.2.2.2.2 k hlt))
          have HB := Lib.hid hB
          rw [hg] at hd
          clear hg HN HD hB
          go_wp2
          all_goals try (exfalso; omega)
          all_goals go_ret2
          all_goals exact ⟨ret_ib HB.out.2.symm HB.out.1.symm, rfl⟩
      · have e : k = s.size := by omega
        have hB : numB s d = true := (numB_iff s d).2 ⟨by omega, by omega, by omega, by omega, H5.out, fun i hi => HD.out i (by omega)⟩
        have hN : N = numN s d := by unfold numN; rw [hB, HN.out, e]; rfl
        have HB := Lib.hid hB
        have HNN := Lib.hid hN
        clear HN HD hB hN e
        go_wp2
        go_ret2
        exact ⟨ret_ib HNN.out HB.out.symm, rfl⟩
end Go.Proofs.YtgjnlgcdpbilfaaGreatDoor
namespace Go.Proofs.YtgjnlgcdpbilfaaGreatDoor
open Go.ChangeShapes Go.WideShapes Go.ChangeAt Go.RowKit
set_option linter.unusedVariables false
set_option linter.unusedSimpArgs false

theorem letter_any (c : Int) (w : World) : Calls Tryz.prog 106 #[.int .u8 c] w fun e w' => e = .returned (.bool (letB c)) ∧ w' = w := by
  go_enter Tryz.func106, Tryz.ntmps106
  go_wp2
  all_goals go_ret
  all_goals (refine ⟨ret_bool ?_, rfl⟩; unfold letB; by_cases a1 : 97 ≤ c <;> by_cases a2 : c ≤ 122 <;> by_cases a3 : 65 ≤ c <;> by_cases a4 : c ≤ 90 <;> simp [a1, a2, a3, a4] <;> omega)
theorem nmB_empty {s : ByteArray} (h : s.size = 0) : nmB s = false := by unfold nmB; simp [h]
theorem nmB_long {s : ByteArray} (h : 8 < s.size) : nmB s = false := by unfold nmB; rw [decide_eq_false (by omega : ¬ s.size ≤ 8)]; simp
theorem letB_okc0 (c : Int) : okc 0 c = letB c := by unfold okc; simp
set_option maxRecDepth 100000 in
set_option maxHeartbeats 400000 in
theorem name_any (s : ByteArray) (hs : s.size ≤ maxLen) (w : World) :
    Calls Tryz.prog 72 #[.string s] w fun e w' => e = .returned (.bool (nmB s)) ∧ w' = w := by
  unfold maxLen at hs
  by_cases h0 : s.size = 0
  · have hz : s.toList.isEmpty = true := by rw [List.isEmpty_iff]; exact toList_nil.2 h0
    have HB := Lib.hid (nmB_empty h0)
    clear h0
    go_enter Tryz.func72, Tryz.ntmps72
    go_wp2
    go_ret
    exact ⟨ret_bool HB.out.symm, rfl⟩
  have hz : s.toList.isEmpty = false := by
    cases hq : s.toList.isEmpty with
    | false => rfl
    | true => exact absurd (toList_nil.1 (List.isEmpty_iff.1 hq)) h0
  by_cases h8 : 8 < s.size
  · have HB := Lib.hid (nmB_long h8)
    have h8' : (8 : Int) < (s.size : Int) := by omega
    clear h0
    go_enter Tryz.func72, Tryz.ntmps72
    go_wp2
    go_ret
    exact ⟨ret_bool HB.out.symm, rfl⟩
  have h0' : 0 < s.size := by omega
  have h0i : (0 : Int) < (s.size : Int) := by omega
  have h8i : ¬ (8 : Int) < (s.size : Int) := by omega
  have HG := Lib.hid (bt_get s 0 h0')
  cases hl : letB (bt s 0) with
  | false =>
    have HB := Lib.hid (nmB_bad s 0 h0' (by rw [letB_okc0]; exact hl))
    rw [HG.out] at hl
    have HLt := Lib.hid hl
    clear hl HG h0
    go_enter Tryz.func72, Tryz.ntmps72
    go_wp2_with fail
    refine (letter_any _ _).mono ?_
    rintro e w1 ⟨rfl, rfl⟩
    rw [HLt.out]
    go_wp2_with fail
    go_ret
    exact ⟨ret_bool HB.out.symm, rfl⟩
  | true =>
    have HO : Hid (okc 0 (bt s 0) = true) := by unfold Hid; rw [letB_okc0]; exact hl
    have hl2 := hl
    rw [HG.out] at hl2
    have HLt := Lib.hid hl2
    clear hl hl2 HG h0
    go_enter Tryz.func72, Tryz.ntmps72
    go_wp2_with fail
    refine (letter_any _ _).mono ?_
    rintro e w1 ⟨rfl, rfl⟩
    rw [HLt.out]
    go_wp2_with fail
    go_loopg [3] s.size (fun gh x3 wx => ∃ k : Nat, k + gh = s.size + 1 ∧ x3 = .int .i64 k ∧ 1 ≤ k ∧ Hid (∀ j, j < k → j < s.size → okc j (bt s j) = true) ∧ w1 = wx)
    case atStart => exact ⟨1, by omega, rfl, by omega, fun j hj h => by (obtain rfl : j = 0 := by omega); exact HO.out, rfl⟩
    case round =>
      obtain ⟨k, hkg, rfl, hk1, HA, rfl⟩ := hrel
      have HKG := Lib.hid hkg
      clear hkg
      by_cases hlt : k < s.size
      · have HK := Lib.hid (bt_get s k hlt)
        have ki : (k : Int) < (s.size : Int) := by omega
        cases hlk : letB (bt s k) with
        | true =>
          have HN : Hid (∀ j, j < k + 1 → j < s.size → okc j (bt s j) = true) := by
            intro j hj h
            by_cases e : j = k
            · subst e; unfold okc; rw [hlk]; rfl
            · exact HA.out j (by omega) h
          rw [HK.out] at hlk
          have HL2 := Lib.hid hlk
          clear hlk HA HK
          go_wp2_with fail
          refine (letter_any _ _).mono ?_
          rintro e w2 ⟨rfl, rfl⟩
          rw [HL2.out]
          go_wp2_with fail
          go_roundg (s.size - k)
          case measure => have := HKG.out; omega
          case rel => exact ⟨k + 1, by have := HKG.out; omega, by go_num, by omega, HN.out, rfl⟩
        | false =>
          by_cases hd : 48 ≤ bt s k ∧ bt s k ≤ 57
          · have HN : Hid (∀ j, j < k + 1 → j < s.size → okc j (bt s j) = true) := by
              intro j hj h
              by_cases e : j = k
              · subst e; exact okc_mk _ _ (.inr (.inr ⟨by omega, hd⟩))
              · exact HA.out j (by omega) h
            rw [HK.out] at hlk hd
            have HL2 := Lib.hid hlk
            obtain ⟨hd1, hd2⟩ := hd
            clear hlk HA HK
            go_wp2_with fail
            refine (letter_any _ _).mono ?_
            rintro e w2 ⟨rfl, rfl⟩
            rw [HL2.out]
            go_wp2_with fail
            go_roundg (s.size - k)
            case measure => have := HKG.out; omega
            case rel => exact ⟨k + 1, by have := HKG.out; omega, by go_num, by omega, HN.out, rfl⟩
          · have HB := Lib.hid (nmB_bad s k hlt (by
              unfold okc
              rw [hlk, decide_eq_true (by omega : k ≠ 0)]
              unfold digB
              simp; omega))
            rw [HK.out] at hlk hd
            have HL2 := Lib.hid hlk
            have hd' : ¬ 48 ≤ (s[k].toNat : Int) ∨ ¬ (s[k].toNat : Int) ≤ 57 := by omega
            clear hlk HA HK hd
            rcases hd' with hd' | hd'
            all_goals
              go_wp2_with fail
              refine (letter_any _ _).mono ?_
              rintro e w2 ⟨rfl, rfl⟩
              rw [HL2.out]
              go_wp2_with fail
              all_goals go_ret
              all_goals exact ⟨ret_bool HB.out.symm, rfl⟩
      · have HB := Lib.hid (nmB_good s fun i hi => HA.out i (by omega) hi)
        clear HA
        go_wp2
        go_ret
        refine ⟨ret_bool ?_, rfl⟩
        rw [HB.out]
        have a1 : 1 ≤ s.size := by omega
        have a2 : s.size ≤ 8 := by omega
        simp [a1, a2]
end Go.Proofs.YtgjnlgcdpbilfaaGreatDoor
namespace Go.Proofs.YtgjnlgcdpbilfaaGreatDoor
open Go.ChangeShapes Go.WideShapes Go.ChangeAt Go.RowKit Go.Maps
set_option linter.unusedVariables false
set_option linter.unusedSimpArgs false
theorem str_dec (a b : ByteArray) : (a.toList == b.toList) = decide (a = b) := by
  by_cases h : a = b
  · subst h; simp
  · rw [str_ne h, decide_eq_false h]
theorem head_slice (T e : TypeId) (hT : Tryz.prog.underlying T = some (.slice e)) (he : Tryz.prog.elem T = e) (hs : ∀ w', (sizeOf (Tryz.prog.elem T)).run Tryz.prog w' = .ok 5 w') (a : Option Addr) (n c k : Nat) (hk : k ≤ c) (w' : World) :
    (Instr.slice T (.slice a n c) none (some (.int .i64 k)) none).run Tryz.prog w' = .ok (.slice a k c) w' := by
  rw [run_slice_h (w := w') (P := Tryz.prog) T a n c (by rw [hT, he]) .i64 k (by omega) (by omega), hs]
  simp only [Result.andThen, sliced]
  have hz : a.map (fun x => x.add 0) = a := by cases a with | none => rfl | some x => rfl
  simp [hz]
theorem may1_any (n most : Int) (w : World) :
    Calls Tryz.prog 121 #[.int .i64 n, .int .i64 most] w fun e w' => e = .returned (.bool (winB n 1 most)) ∧ w' = w := by
  go_enter Tryz.func121, Tryz.ntmps121
  go_wp2
  all_goals go_ret
  all_goals (refine ⟨ret_bool ?_, rfl⟩; unfold winB; by_cases a1 : 1 ≤ n <;> by_cases a2 : n ≤ most <;> simp [a1, a2] <;> omega)
theorem stMay_any (nm : ByteArray) (l t a b : Int) (hs : nm.size ≤ maxLen) (w : World) :
    Calls Tryz.prog 104 #[.agg #[.string nm, .int .i64 l, .int .i64 t, .int .i64 a, .int .i64 b]] w fun e w' => e = .returned (.bool (mayB nm l t a b)) ∧ Gr w w' := by
  go_enter Tryz.func104, Tryz.ntmps104
  go_wp2_with (first | (go_at_call 72; refine (name_any nm hs _).mono ?_; rintro e w' ⟨rfl, rfl⟩) | (go_at_call 121; refine (may1_any _ _ _).mono ?_; rintro e w' ⟨rfl, rfl⟩))
  all_goals go_ret
  all_goals refine ⟨ret_bool ?_, (Gr.refl _).alloc _⟩
  all_goals (unfold mayB; simp_all)
theorem find1_any (s : Stk) (n : ByteArray) (B : Nat) (w : World) (hb : B < w.heap.size) (hc : w.cell? ⟨B, 0, none⟩ = some (.string n)) :
    Calls Tryz.prog 128 #[s.v, .pointer (some ⟨B, 0, none⟩)] w fun e w' => e = .returned (.bool (decide (s.nm = n))) ∧ Gr w w' := by
  obtain ⟨nm, l, t, a, b⟩ := s
  unfold Stk.v
  dsimp only
  go_enter Tryz.func128, Tryz.ntmps128
  go_wp2_with fail
  go_ret
  exact ⟨ret_bool (str_dec _ _), (Gr.refl _).alloc _⟩
theorem check1_any (s : Stk) (top brake : Int) (B : Nat) (w : World) (hb : B < w.heap.size) (h4 : w.cell? ⟨B, 4, none⟩ = some (.int .i64 top)) (h5 : w.cell? ⟨B, 5, none⟩ = some (.int .i64 brake)) :
    Calls Tryz.prog 71 #[s.v, .pointer (some ⟨B, 0, none⟩)] w fun e w' => e = .returned (.bool (shortS top brake s)) ∧ Gr w w' := by
  obtain ⟨nm, l, t, a, b⟩ := s
  unfold Stk.v shortS
  dsimp only
  by_cases h : top < t
  · go_enter Tryz.func71, Tryz.ntmps71
    go_wp2_with fail
    go_ret
    exact ⟨ret_bool (by simp [h]), (Gr.refl _).alloc _⟩
  · go_enter Tryz.func71, Tryz.ntmps71
    go_wp2_with fail
    go_ret
    exact ⟨ret_bool (by simp [h] <;> (intro h2; omega)), (Gr.refl _).alloc _⟩
set_option maxHeartbeats 400000 in
theorem idxFind_any (L : List Stk) (p : Stk → Bool) (v cap : Value) (w : World) (hL : IsStks w v L)
    (hc : ∀ (w' : World), Gr w w' → ∀ (i : Nat) (hi : i < L.length), Calls Tryz.prog 128 #[L[i].v, cap] w' fun e w'' => e = .returned (.bool (p L[i])) ∧ Gr w' w'') :
    Calls Tryz.prog 105 #[v, .func (.func 128) #[] #[cap]] w fun e w' => e = .returned (.int .i64 (fstN p L)) ∧ Gr w w' := by
  have HL := Lib.hid hL
  obtain ⟨a, c, rfl, hm, -⟩ := hL.form
  unfold maxLen at hm
  have HC := Lib.hid hc
  clear hc hL
  go_enter Tryz.func105, Tryz.ntmps105
  go_wp2_with fail
  go_loopw [5, 8] (fun _ x wr => ∃ k : Nat, x = .int .i64 k ∧ k ≤ L.length ∧ Gr w wr ∧ Hid (∀ i (hi : i < L.length), i < k → p L[i] = false)) (fun _ x _ => L.length - (intOf x).toNat)
  case atStart => exact ⟨0, rfl, Nat.zero_le _, Gr.refl _, fun i _ h => by omega⟩
  case round =>
    obtain ⟨k, rfl, hk, g, HA⟩ := hrel
    by_cases hlt : k < L.length
    · have hk1 : (k : Int) < (L.length : Int) := by omega
      obtain ⟨bb, o, hs, z, y0, y1, y2, y3, y4⟩ := (HL.out.gr g).at k hlt
      subst hs
      have HP := Lib.hid (fun w' (h : Gr w w') => HC.out w' h k hlt)
      have HY : Hid (p L[k] = true → fstN p L = k) := fun h => fstN_go p hlt h fun i hi hik => HA.out i hi hik
      have HN : Hid (p L[k] = false → ∀ i (hi : i < L.length), i < k + 1 → p L[i] = false) := fun h i hi hik => by
        by_cases e : i = k
        · subst e; exact h
        · exact HA.out i hi (by omega)
      clear HA
      generalize p L[k] = q at HP HY HN
      generalize L[k] = s at y0 y1 y2 y3 y4 HP
      obtain ⟨nm, l, t, a', b⟩ := s
      unfold Stk.v at HP
      dsimp only at y0 y1 y2 y3 y4 HP
      cases q
      · have HN2 := Lib.hid (HN.out rfl)
        clear HY HN
        go_wp2_with (first | (go_at_call 128; (with_reducible refine (HP.out _ g).mono ?_); rintro e w2 ⟨rfl, g2⟩) | fail)
        go_roundw
        case rel => exact ⟨k + 1, by go_num, hlt, g.trans g2, HN2.out⟩
        case measure => simp [intOf]; omega
      · have HY2 := Lib.hid (HY.out rfl)
        clear HY HN
        go_wp2_with (first | (go_at_call 128; (with_reducible refine (HP.out _ g).mono ?_); rintro e w2 ⟨rfl, g2⟩) | fail)
        go_ret
        exact ⟨ret_int HY2.out.symm, g.trans g2⟩
    · have hk1 : ¬ (k : Int) < (L.length : Int) := by omega
      have HR := Lib.hid (fstN_no p fun i hi => HA.out i hi (by omega))
      go_wp2_with fail
      go_ret
      exact ⟨ret_int HR.out.symm, g⟩
set_option maxHeartbeats 400000 in
theorem idxCheck_any (L : List Stk) (p : Stk → Bool) (v cap : Value) (w : World) (hL : IsStks w v L)
    (hc : ∀ (w' : World), Gr w w' → ∀ (i : Nat) (hi : i < L.length), Calls Tryz.prog 71 #[L[i].v, cap] w' fun e w'' => e = .returned (.bool (p L[i])) ∧ Gr w' w'') :
    Calls Tryz.prog 105 #[v, .func (.func 71) #[] #[cap]] w fun e w' => e = .returned (.int .i64 (fstN p L)) ∧ Gr w w' := by
  have HL := Lib.hid hL
  obtain ⟨a, c, rfl, hm, -⟩ := hL.form
  unfold maxLen at hm
  have HC := Lib.hid hc
  clear hc hL
  go_enter Tryz.func105, Tryz.ntmps105
  go_wp2_with fail
  go_loopw [5, 8] (fun _ x wr => ∃ k : Nat, x = .int .i64 k ∧ k ≤ L.length ∧ Gr w wr ∧ Hid (∀ i (hi : i < L.length), i < k → p L[i] = false)) (fun _ x _ => L.length - (intOf x).toNat)
  case atStart => exact ⟨0, rfl, Nat.zero_le _, Gr.refl _, fun i _ h => by omega⟩
  case round =>
    obtain ⟨k, rfl, hk, g, HA⟩ := hrel
    by_cases hlt : k < L.length
    · have hk1 : (k : Int) < (L.length : Int) := by omega
      obtain ⟨bb, o, hs, z, y0, y1, y2, y3, y4⟩ := (HL.out.gr g).at k hlt
      subst hs
      have HP := Lib.hid (fun w' (h : Gr w w') => HC.out w' h k hlt)
      have HY : Hid (p L[k] = true → fstN p L = k) := fun h => fstN_go p hlt h fun i hi hik => HA.out i hi hik
      have HN : Hid (p L[k] = false → ∀ i (hi : i < L.length), i < k + 1 → p L[i] = false) := fun h i hi hik => by
        by_cases e : i = k
        · subst e; exact h
        · exact HA.out i hi (by omega)
      clear HA
      generalize p L[k] = q at HP HY HN
      generalize L[k] = s at y0 y1 y2 y3 y4 HP
      obtain ⟨nm, l, t, a', b⟩ := s
      unfold Stk.v at HP
      dsimp only at y0 y1 y2 y3 y4 HP
      cases q
      · have HN2 := Lib.hid (HN.out rfl)
        clear HY HN
        go_wp2_with (first | (go_at_call 71; (with_reducible refine (HP.out _ g).mono ?_); rintro e w2 ⟨rfl, g2⟩) | fail)
        go_roundw
        case rel => exact ⟨k + 1, by go_num, hlt, g.trans g2, HN2.out⟩
        case measure => simp [intOf]; omega
      · have HY2 := Lib.hid (HY.out rfl)
        clear HY HN
        go_wp2_with (first | (go_at_call 71; (with_reducible refine (HP.out _ g).mono ?_); rintro e w2 ⟨rfl, g2⟩) | fail)
        go_ret
        exact ⟨ret_int HY2.out.symm, g.trans g2⟩
    · have hk1 : ¬ (k : Int) < (L.length : Int) := by omega
      have HR := Lib.hid (fstN_no p fun i hi => HA.out i hi (by omega))
      go_wp2_with fail
      go_ret
      exact ⟨ret_int HR.out.symm, g⟩
theorem stFind_any (v : Value) (L : List Stk) (n : ByteArray) (w : World) (hL : IsStks w v L) :
    Calls Tryz.prog 116 #[v, .string n] w fun e w' => e = .returned (.int .i64 (findN L n)) ∧ Gr w w' := by
  have g0 : Gr w (w.alloc (.cells #[.string n] 9)) := (Gr.refl _).alloc _
  have HI := Lib.hid (idxFind_any L (fun s => decide (s.nm = n)) v (.pointer (some ⟨w.heap.size, 0, none⟩)) _ (hL.gr g0) (fun w' g i hi => by
    have hz : w.heap.size < (w.alloc (.cells #[.string n] 9)).heap.size := by simp
    exact find1_any L[i] n w.heap.size w' (Nat.lt_of_lt_of_le hz g.size) ((g.cell _ _ hz).trans (by rw [World.cell?_alloc_mark]; rfl))))
  go_enter Tryz.func116, Tryz.ntmps116
  go_wp2_with (first | (go_at_call 105; (with_reducible refine (HI.out).mono ?_); rintro e w2 ⟨rfl, g2⟩) | fail)
  go_ret
  exact ⟨rfl, g0.trans g2⟩
set_option maxHeartbeats 400000 in
theorem refFindS_any (v : Value) (L : List Stk) (n : ByteArray) (w : World) (hL : IsStks w v L) :
    Calls Tryz.prog 89 #[v, .string n] w fun e w' => e = .returned (.int .i64 (findN L n)) ∧ Gr w w' := by
  have HL := Lib.hid hL
  obtain ⟨a, c, rfl, hm, -⟩ := hL.form
  unfold maxLen at hm
  clear hL
  go_enter Tryz.func89, Tryz.ntmps89
  go_wp2_with fail
  go_loopw [5, 9] (fun _ x wr => ∃ k : Nat, x = .int .i64 k ∧ k ≤ L.length ∧ Gr w wr ∧ Hid (∀ i (hi : i < L.length), i < k → decide (L[i].nm = n) = false)) (fun _ x _ => L.length - (intOf x).toNat)
  case atStart => exact ⟨0, rfl, Nat.zero_le _, Gr.refl _, fun i _ h => by omega⟩
  case round =>
    obtain ⟨k, rfl, hk, g, HA⟩ := hrel
    by_cases hlt : k < L.length
    · have hk1 : (k : Int) < (L.length : Int) := by omega
      obtain ⟨bb, o, hs, z, y0, y1, y2, y3, y4⟩ := (HL.out.gr g).at k hlt
      subst hs
      have HY : Hid (decide (L[k].nm = n) = true → findN L n = k) := fun h => fstN_go _ hlt h fun i hi hik => HA.out i hi hik
      have HN : Hid (decide (L[k].nm = n) = false → ∀ i (hi : i < L.length), i < k + 1 → decide (L[i].nm = n) = false) := fun h i hi hik => by
        by_cases e : i = k
        · subst e; exact h
        · exact HA.out i hi (by omega)
      clear HA
      have hd := str_dec L[k].nm n
      generalize decide (L[k].nm = n) = q at hd HY HN
      generalize L[k] = s at y0 y1 y2 y3 y4 hd
      obtain ⟨nm, l, t, a', b⟩ := s
      dsimp only at y0 y1 y2 y3 y4 hd
      cases q
      · have HN2 := Lib.hid (HN.out rfl)
        clear HY HN
        go_wp2_with fail
        go_roundw
        case rel => exact ⟨k + 1, by go_num, hlt, g.alloc _, HN2.out⟩
        case measure => simp [intOf]; omega
      · have HY2 := Lib.hid (HY.out rfl)
        clear HY HN
        go_wp2_with fail
        go_ret
        exact ⟨ret_int HY2.out.symm, g.alloc _⟩
    · have hk1 : ¬ (k : Int) < (L.length : Int) := by omega
      have HR : Hid (findN L n = -1) := fstN_no _ fun i hi => HA.out i hi (by omega)
      go_wp2_with fail
      go_ret
      exact ⟨ret_int HR.out.symm, g⟩
end Go.Proofs.YtgjnlgcdpbilfaaGreatDoor
namespace Go.Proofs.YtgjnlgcdpbilfaaGreatDoor
open Go.ChangeShapes Go.WideShapes Go.ChangeAt Go.RowKit Go.Maps
set_option linter.unusedVariables false
set_option linter.unusedSimpArgs false
def TwE (L : List Stk) (k : Nat) (E : Int) : Prop := (E = 4 ∧ twiceB (L.map (·.nm)) = true) ∨ (E = 0 ∧ ∀ i j (hi : i < L.length) (hj : j < i), i < k → L[j].nm ≠ L[i].nm)
theorem TwE.yes {L : List Stk} {k m : Nat} (hk : k < L.length) (hm : m < k) (h : L[m].nm = L[k].nm) : TwE L (k + 1) 4 := .inl ⟨rfl, twiceS_yes hk hm h⟩
theorem TwE.no {L : List Stk} {k : Nat} {E : Int} (h : TwE L k E) (hk : k < L.length) (hn : ∀ m (hm : m < k), L[m].nm ≠ L[k].nm) : TwE L (k + 1) E := by
  rcases h with h | ⟨rfl, h⟩
  · exact .inl h
  · refine .inr ⟨rfl, fun i j hi hj hik => ?_⟩
    by_cases e : i = k
    · subst e; exact hn j hj
    · exact h i j hi hj (by omega)
theorem TwE.done {L : List Stk} {E : Int} (h : TwE L L.length E) (h4 : ¬ 4 < L.length) (hm : ∀ i (hi : i < L.length), mayS L[i] = true) : plainE L = E := by
  unfold plainE
  rw [if_neg h4, allS_good hm, if_neg (by decide)]
  rcases h with ⟨rfl, h⟩ | ⟨rfl, h⟩
  · rw [h, if_pos rfl]
  · rw [twiceS_no (fun i k hi hk => h i k hi hk hi), if_neg (by decide)]
theorem plain_arg {L : List Stk} (h4 : ¬ 4 < L.length) {k : Nat} (hk : k < L.length) (h : mayS L[k] = false) : plainE L = 1 := by
  unfold plainE
  rw [if_neg h4, if_pos (allS_bad hk h)]
theorem sizeStock : ∀ w', (sizeOf (Tryz.prog.elem 28)).run Tryz.prog w' = .ok 5 w' := fun w' => by kernel_rfl
set_option maxRecDepth 100000 in
set_option maxHeartbeats 2000000 in
theorem wrong_any (v : Value) (L : List Stk) (w : World) (hL : IsStks w v L) (hok : ∀ s ∈ L, s.nm.size ≤ maxLen) :
    Calls Tryz.prog 69 #[v] w fun e w' => e = .returned (.int .i64 (plainE L)) ∧ Gr w w' := by
  have HL := Lib.hid hL
  obtain ⟨a, c, rfl, hm, hc⟩ := hL.form
  unfold maxLen at hm
  have HOK := Lib.hid hok
  clear hL hok
  by_cases h4 : 4 < L.length
  · have h4' : 4 < (L.length : Int) := by omega
    have HR : Hid (plainE L = 3) := by show _ = _; unfold plainE; rw [if_pos h4]
    go_enter Tryz.func69, Tryz.ntmps69
    go_wp2_with fail
    go_step3
    go_wp2_with fail
    try rw [Exit.noGoto_ret]
    go_ret
    exact ⟨ret_int HR.out.symm, Gr.refl _⟩
  have h4' : ¬ 4 < (L.length : Int) := by omega
  have HS := Lib.hid (fun (k : Nat) (hk : k ≤ c) => head_slice 28 64 Tryz.underlying28 (by kernel_rfl) sizeStock a L.length c k hk)
  go_enter Tryz.func69, Tryz.ntmps69
  go_wp2_with fail
  go_step3
  go_wp2_with fail
  go_step3
  go_wp2_with fail
  go_loopw [3, 4, 13] (fun x _ y wr => ∃ (k : Nat) (E : Int), x = .int .i64 E ∧ y = .int .i64 k ∧ k ≤ L.length ∧ Gr w wr ∧ Hid (∀ i (hi : i < L.length), i < k → mayS L[i] = true) ∧ Hid (TwE L k E)) (fun _ _ y _ => L.length - (intOf y).toNat)
  case atStart => exact ⟨0, 0, rfl, rfl, Nat.zero_le _, Gr.refl _, fun i _ h => by omega, .inr ⟨rfl, fun i _ _ _ h => by omega⟩⟩
  case round =>
    obtain ⟨k, E, rfl, rfl, hk, g, HA, HT⟩ := hrel
    by_cases hlt : k < L.length
    · have hk1 : (k : Int) < (L.length : Int) := by omega
      obtain ⟨bb, o, hs, z, y0, y1, y2, y3, y4⟩ := (HL.out.gr g).at k hlt
      subst hs
      have hsz := HOK.out _ (List.getElem_mem hlt)
      have HM := Lib.hid (fun w' => stMay_any L[k].nm L[k].l L[k].t L[k].a L[k].b hsz w')
      have HN1 : Hid (mayS L[k] = false → plainE L = 1) := fun h => plain_arg h4 hlt h
      have HA2 : Hid (mayS L[k] = true → ∀ i (hi : i < L.length), i < k + 1 → mayS L[i] = true) := fun h i hi hik => by
        by_cases e : i = k
        · subst e; exact h
        · exact HA.out i hi (by omega)
      have HY : Hid (∀ m (hm : m < k), L[m].nm = L[k].nm → TwE L (k + 1) 4) := fun m hm h => TwE.yes hlt hm h
      have HN : Hid ((∀ m (hm : m < k), L[m].nm ≠ L[k].nm) → TwE L (k + 1) E) := fun h => TwE.no HT.out hlt h
      have hsl := HS.out k (by omega)
      have e : mayS L[k] = mayB L[k].nm L[k].l L[k].t L[k].a L[k].b := rfl
      rw [← e] at HM
      clear e HA HT
      generalize hmq : mayS L[k] = q at HM HN1 HA2
      clear hmq
      generalize hL0 : L[k] = s at y0 y1 y2 y3 y4 HM HY HN hsz
      clear hL0
      obtain ⟨nm, l, t, a', b⟩ := s
      dsimp only at y0 y1 y2 y3 y4 HM HY HN
      cases q
      · have HR := Lib.hid (HN1.out rfl)
        clear HN1 HA2
        go_wp2_with (first | (go_at_call 104; (with_reducible refine (HM.out _).mono ?_); rintro e w2 ⟨rfl, g2⟩) | fail)
        try rw [Exit.noGoto_ret]
        go_ret
        exact ⟨ret_int HR.out.symm, (g.alloc _).trans g2⟩
      · have HA3 := Lib.hid (HA2.out rfl)
        clear HN1 HA2
        go_wp2_with (first | (go_at_call 104; (with_reducible refine (HM.out _).mono ?_); rintro e w2 ⟨rfl, g2⟩) | fail)
        have gr2 := ((Gr.refl wr).alloc (.cells #[.string nm, .int .i64 l, .int .i64 t, .int .i64 a', .int .i64 b] 64)).trans g2
        have hz : wr.heap.size < (wr.alloc (.cells #[.string nm, .int .i64 l, .int .i64 t, .int .i64 a', .int .i64 b] 64)).heap.size := by simp
        have zn := Nat.lt_of_lt_of_le hz g2.size
        have n0 : w2.cell? ⟨wr.heap.size, 0, none⟩ = some (.string nm) := (g2.cell _ _ hz).trans (by rw [World.cell?_alloc_mark]; rfl)
        have N0 := Lib.hid n0
        clear n0 y0 y1 y2 y3 y4 hsl
        go_loopw [3, 25] (fun x y w3 => ∃ m : Nat, x = .int .i64 E ∧ y = .int .i64 m ∧ m ≤ k ∧ Gr w2 w3 ∧ Hid (∀ j (hj : j < m) (hjl : j < L.length), L[j].nm ≠ nm)) (fun _ y _ => k - (intOf y).toNat)
        case atStart => exact ⟨0, rfl, rfl, Nat.zero_le _, Gr.refl _, fun j hj => by omega⟩
        case round =>
          obtain ⟨m, rfl, rfl, hmk, g3, HB⟩ := hrel
          rename_i w3
          have gt := ((g.alloc _).trans g2).trans g3
          have n0 := (g3.cell _ _ zn).trans N0.out
          have zn3 := Nat.lt_of_lt_of_le zn g3.size
          by_cases hml : m < k
          · have hm1 : (m : Int) < (k : Int) := by omega
            have hm2 : m < L.length := by omega
            have hm3 : (m : Int) < (L.length : Int) := by omega
            obtain ⟨b2, o2, hs2, z2, x0, x1, x2, x3, x4⟩ := (HL.out.gr gt).at m hm2
            simp only [Option.some.injEq, Addr.mk.injEq, and_true] at hs2
            obtain ⟨rfl, rfl⟩ := hs2
            have HYm := Lib.hid (HY.out m hml)
            have HBm : Hid (L[m].nm ≠ nm → ∀ j (hj : j < m + 1) (hjl : j < L.length), L[j].nm ≠ nm) := fun h j hj hjl => by
              by_cases e : j = m
              · subst e; exact h
              · exact HB.out j (by omega) hjl
            clear HB
            generalize hL1 : L[m] = s2 at x0 x1 x2 x3 x4 HYm HBm
            clear hL1
            obtain ⟨nm2, l2, t2, a2, b2'⟩ := s2
            dsimp only at x0 x1 x2 x3 x4 HYm HBm
            by_cases hn : nm2 = nm
            · have HT4 := Lib.hid (HYm.out hn)
              subst hn
              have tn : (nm2.toList == nm2.toList) = true := by simp
              go_wp2_with fail
              try go_step3
              try go_step3
              go_roundw
              case rel => exact ⟨k + 1, 4, rfl, by go_num, hlt, gt.alloc _, HA3.out, HT4.out⟩
              case measure => simp [intOf]; omega
            · have tn := str_ne hn
              have HB2 := Lib.hid (HBm.out hn)
              clear hn
              go_wp2_with fail
              go_roundw
              case rel => exact ⟨m + 1, rfl, by go_num, hml, g3.alloc _, HB2.out⟩
              case measure => simp [intOf]; omega
          · have hm1 : ¬ (m : Int) < (k : Int) := by omega
            have HT2 := Lib.hid (HN.out fun j hj => HB.out j (by omega) (by omega))
            go_wp2_with fail
            go_roundw
            case rel => exact ⟨k + 1, E, rfl, by go_num, hlt, gt, HA3.out, HT2.out⟩
            case measure => simp [intOf]; omega
    · have hk1 : ¬ (k : Int) < (L.length : Int) := by omega
      obtain rfl : k = L.length := by omega
      have HR := Lib.hid (TwE.done HT.out h4 (fun i hi => HA.out i hi hi))
      go_wp2_with fail
      try rw [Exit.noGoto_ret]
      go_ret
      exact ⟨ret_int HR.out.symm, g⟩
end Go.Proofs.YtgjnlgcdpbilfaaGreatDoor
namespace Go.Proofs.YtgjnlgcdpbilfaaGreatDoor
open Go.ChangeShapes Go.WideShapes Go.ChangeAt Go.RowKit
set_option linter.unusedVariables false
set_option linter.unusedSimpArgs false

theorem shp_gr {w w' : World} (h : w.ShapedOpen Tryz.prog) (g : Gr w w') : w'.ShapedOpen Tryz.prog := h.keptBut (Below.frame g (fun _ => False)) (fun _ hh => hh.elim)
end Go.Proofs.YtgjnlgcdpbilfaaGreatDoor
namespace Go.Proofs.YtgjnlgcdpbilfaaGreatDoor
open Go.ChangeShapes Go.WideShapes Go.ChangeAt Go.RowKit
set_option linter.unusedVariables false
set_option linter.unusedSimpArgs false

theorem vals_row (w : World) (L : List ByteArray) (n : Nat) (h : L.length = n) (hm : L.length ≤ maxLen) :
    IsVals (w.alloc (.cells (L.map Value.string).toArray 9)) (.slice (some ⟨w.heap.size, 0, none⟩) n n) (L.map Value.string) := by
  subst h
  refine ⟨some ⟨w.heap.size, 0, none⟩, L.length, by simp, by simpa using hm, .inr ⟨w.heap.size, 0, rfl, by simp, ?_⟩⟩
  intro i x hx
  rw [World.cell?_alloc_mark]
  simpa using hx
theorem split_any (s : ByteArray) (w : World) (h : w.ShapedOpen Tryz.prog) (hs : s.size ≤ 1048576) :
    Calls Tryz.prog 113 #[.string s, .string blank] w fun e w' => e = .returned (.slice (some ⟨w.heap.size, 0, none⟩) (pcs s).length (pcs s).length) ∧ w' = w.alloc (.cells ((pcs s).map Value.string).toArray 9) := by
  have := Tryz.strings_Split_shaped s blank w h (by omega) (by rw [blank_size]; omega)
  rw [pcs_split, ← pcs_len] at this
  exact this
theorem toList_nil5 {s : ByteArray} : (s.toList = []) ↔ s.size = 0 := by
  rw [ByteArray.toList_eq]
  have hl : s.data.toList.length = s.size := by simp
  rw [← hl, List.length_eq_zero_iff]
theorem bad_none {s : ByteArray} {k : Nat} (hk : k < (pcs s).length) (h : okB (pcs s)[k] = false) : wdB s = none := by
  rw [wdB_pcs, if_neg]
  intro ha
  rw [List.all_eq_true] at ha
  rw [ha _ (List.getElem_mem hk)] at h
  cases h
theorem good_some {s : ByteArray} (h : ∀ (k : Nat) (hk : k < (pcs s).length), okB (pcs s)[k] = true) : wdB s = some (pcs s) := by
  rw [wdB_pcs, if_pos]
  rw [List.all_eq_true]
  intro x hx
  obtain ⟨k, hk, rfl⟩ := List.mem_iff_getElem.1 hx
  exact h k hk
theorem okB_no {x : ByteArray} (h : ¬ (0 < x.size ∧ ∀ (i : Nat) (h : i < x.size), 33 ≤ ((x[i]).toNat : Int) ∧ ((x[i]).toNat : Int) ≤ 126)) : okB x = false := by
  cases hq : okB x with
  | false => rfl
  | true => exact absurd ((okB_iff x).1 hq) h
set_option maxRecDepth 100000 in
set_option maxHeartbeats 1000000 in
theorem words_cap (s : ByteArray) (hs : s.size ≤ 1048576) (w : World) (ht : w.ShapedOpen Tryz.prog) :
    Calls Tryz.prog 83 #[.string s] w (RetWc w (wdB s)) := by
  have hsp := split_any s w ht hs
  have hlen : (pcs s).length ≤ 1048577 := by
    rw [pcs_len]
    have := Lib.countB_le blank (by rw [blank_size]; omega) s.size s (Nat.le_refl _)
    omega
  have hv := vals_row w (pcs s) (pcs s).length rfl (by unfold maxLen; omega)
  have hg : Gr w (w.alloc (.cells ((pcs s).map Value.string).toArray 9)) := (Gr.refl _).alloc _
  obtain ⟨P, hP⟩ : ∃ P, P = pcs s := ⟨_, rfl⟩
  obtain ⟨w1, hw1⟩ : ∃ w1, w1 = w.alloc (.cells ((pcs s).map Value.string).toArray 9) := ⟨_, rfl⟩
  rw [← hw1] at hsp hv hg
  rw [← hP] at hsp hv hlen
  have HB : Hid (∀ (k : Nat) (hk : k < P.length), okB P[k] = false → wdB s = none) := by
    subst hP; exact fun k hk h => bad_none hk h
  have HG : Hid ((∀ (k : Nat) (hk : k < P.length), okB P[k] = true) → wdB s = some P) := by
    subst hP; exact fun h => good_some h
  have HM : Hid (∀ (k : Nat) (hk : k < P.length), P[k].size ≤ s.size) := by
    subst hP; exact fun k hk => pcs_size (List.getElem_mem hk)
  have HS := Lib.hid hsp
  have HV := Lib.hid hv
  clear hP hw1 hsp hv
  go_enter Tryz.func83, Tryz.ntmps83
  go_wp2_with fail
  go_step3
  go_wp2_with fail
  refine HS.out.mono ?_
  rintro e w2 ⟨rfl, rfl⟩
  go_wp2_with fail
  go_step3
  go_wp2_with fail
  go_loopg [6, 7, 12] P.length (fun gh _ _ x12 wx => ∃ k : Nat, k + gh = P.length ∧ x12 = .int .i64 k ∧ Hid (∀ (j : Nat) (hj : j < P.length), j < k → okB P[j] = true) ∧ w2 = wx)
  case atStart => exact ⟨0, by omega, rfl, fun j hj h => by omega, rfl⟩
  case round =>
    obtain ⟨k, hkg, rfl, HA, rfl⟩ := hrel
    have HKG := Lib.hid hkg
    clear hkg
    by_cases hlt : k < P.length
    · obtain ⟨bb, oo, eb, zlt, cx⟩ := vals_at HV.out k hlt
      simp only [Option.some.injEq, Addr.mk.injEq, and_true] at eb
      obtain ⟨rfl, rfl⟩ := eb
      rw [Nat.zero_add] at cx
      have hbad := HB.out k hlt
      have hmx := HM.out k hlt
      have HI := Lib.hid (okB_iff P[k])
      have HA' : Hid (okB P[k] = true → ∀ (j : Nat) (hj : j < P.length), j < k + 1 → okB P[j] = true) := by
        intro h j hj hj2
        by_cases e : j = k
        · subst e; exact h
        · exact HA.out j hj (by omega)
      obtain ⟨x, hx⟩ : ∃ x, x = P[k] := ⟨_, rfl⟩
      rw [← hx] at cx hbad HI HA' hmx
      have HBAD := Lib.hid hbad
      clear hx hbad HA
      have k1 : (k : Int) < (P.length : Int) := by omega
      by_cases h0 : x.size = 0
      · have hz : x.toList.isEmpty = true := by rw [List.isEmpty_iff]; exact toList_nil5.2 h0
        have HN := Lib.hid (HBAD.out (okB_no (fun h => by omega)))
        clear h0 HI HA' HBAD
        go_wp2
        try rw [Exit.noGoto_ret]
        go_ret2
        exact RetWc.no HN.out hg
      · have hz : x.toList.isEmpty = false := by
          cases hq : x.toList.isEmpty with
          | false => rfl
          | true => exact absurd (toList_nil5.1 (List.isEmpty_iff.1 hq)) h0
        have hx0 : 0 < x.size := by omega
        clear h0
        go_wp2_with fail
        go_loopg [7, 24, 35] x.size (fun g2 x7 _ _ wy => ∃ j : Nat, j + g2 = x.size ∧ x7 = .int .i64 j ∧ j < x.size ∧ Hid (∀ (i : Nat) (h : i < x.size), i < j → 33 ≤ ((x[i]).toNat : Int) ∧ ((x[i]).toNat : Int) ≤ 126) ∧ w2 = wy)
        case atStart => exact ⟨0, by omega, rfl, hx0, fun i h h2 => by omega, rfl⟩
        case round =>
          obtain ⟨j, hjg, rfl, hj, HJ, rfl⟩ := hrel
          have HJG := Lib.hid hjg
          clear hjg
          have j1 : (j : Int) < (x.size : Int) := by omega
          by_cases hw : 33 ≤ ((x[j]).toNat : Int) ∧ ((x[j]).toNat : Int) ≤ 126
          · have HJ' : Hid (∀ (i : Nat) (h : i < x.size), i < j + 1 → 33 ≤ ((x[i]).toNat : Int) ∧ ((x[i]).toNat : Int) ≤ 126) := by
              intro i h h2
              by_cases e : i = j
              · subst e; exact hw
              · exact HJ.out i h (by omega)
            obtain ⟨hw1, hw2⟩ := hw
            clear HJ
            by_cases hl : j + 1 = x.size
            · have t1 : ((j : Int) == (x.size : Int) - 1) = true := by simp; omega
              have HN : Hid (∀ (j : Nat) (hj : j < P.length), j < k + 1 → okB P[j] = true) := HA'.out (HI.out.2 ⟨hx0, fun i h => HJ'.out i h (by omega)⟩)
              clear hl HJ' HI
              go_wp2
              go_roundg (P.length - (k + 1))
              case measure => have := HKG.out; omega
              case rel => exact ⟨k + 1, by have := HKG.out; omega, by go_num, HN.out, rfl⟩
            · have t1 : ((j : Int) == (x.size : Int) - 1) = false := by simp; omega
              have hl2 : j + 1 < x.size := by omega
              clear hl
              go_wp2
              go_roundg (x.size - (j + 1))
              case measure => have := HJG.out; omega
              case rel => exact ⟨j + 1, by have := HJG.out; omega, by go_num, hl2, HJ'.out, rfl⟩
          · have HN := Lib.hid (HBAD.out (okB_no (fun h => hw (h.2 j hj))))
            have hw' : ¬ 33 ≤ ((x[j]).toNat : Int) ∨ ¬ ((x[j]).toNat : Int) ≤ 126 := by
              rcases Classical.em (33 ≤ ((x[j]).toNat : Int)) with h | h
              · right; intro h2; exact hw ⟨h, h2⟩
              · exact .inl h
            clear hw HJ HI HA' HBAD
            rcases hw' with hw' | hw'
            all_goals
              go_wp2
              all_goals try rw [Exit.noGoto_ret]
              all_goals go_ret2
              all_goals exact RetWc.no HN.out hg
    · have HN := Lib.hid (HG.out fun j hj => HA.out j hj (by omega))
      clear HA
      go_wp2
      try rw [Exit.noGoto_ret]
      go_ret2
      exact RetWc.yes HN.out HV.out (fun a n c e => by cases e; exact Nat.le_refl _) hg
end Go.Proofs.YtgjnlgcdpbilfaaGreatDoor
namespace Go.Proofs.YtgjnlgcdpbilfaaGreatDoor
open Go.ChangeShapes Go.WideShapes Go.ChangeAt Go.RowKit
set_option linter.unusedVariables false
set_option linter.unusedSimpArgs false
def rowL (sz n : Nat) (C : Nat → Nat → Value) : List Value := (List.range (n * sz)).map fun k => C (k / sz) (k % sz)
theorem rowL_len (sz n : Nat) (C : Nat → Nat → Value) : (rowL sz n C).length = n * sz := by unfold rowL; simp
theorem rowL_get {sz n : Nat} {C : Nat → Nat → Value} {i j : Nat} (hi : i < n) (hj : j < sz) : (rowL sz n C)[i * sz + j]? = some (C i j) := by
  unfold rowL
  have h : i * sz + j < n * sz := by
    have : (i + 1) * sz ≤ n * sz := Nat.mul_le_mul_right sz hi
    rw [Nat.succ_mul] at this
    omega
  have h0 : 0 < sz := by omega
  rw [List.getElem?_map, List.getElem?_range h]
  have e1 : (i * sz + j) / sz = i := by rw [Nat.mul_comm, Nat.mul_add_div h0, Nat.div_eq_of_lt hj, Nat.add_zero]
  have e2 : (i * sz + j) % sz = j := by rw [Nat.mul_comm, Nat.mul_add_mod, Nat.mod_eq_of_lt hj]
  simp [e1, e2]
theorem rowL_at {w : World} {sz n : Nat} {C : Nat → Nat → Value} {a : Addr} {c : Nat} (hs : 0 < sz) (h : IsRow w (.slice (some a) n c) sz n C) : ∀ j u, (rowL sz n C)[j]? = some u → w.cell? (a.add j) = some u := by
  intro j u hu
  obtain ⟨a', c', e, _, hx⟩ := h
  simp only [Value.slice.injEq] at e
  obtain ⟨rfl, -, -⟩ := e
  have hj : j < n * sz := by
    have := (List.getElem?_eq_some_iff.1 hu).1
    rwa [rowL_len] at this
  rcases hx with h0 | ⟨b, o, hb, hlt, hc⟩
  · subst h0; omega
  · cases hb
    have hi : j / sz < n := (Nat.div_lt_iff_lt_mul hs).2 hj
    have hm : j % sz < sz := Nat.mod_lt _ hs
    have := hc (j / sz) (j % sz) hi hm
    have e : o + j / sz * sz + j % sz = o + j := by have := Nat.div_add_mod j sz; rw [Nat.mul_comm] at this; omega
    rw [e] at this
    rw [Go.WideShapes.add_plain, this]
    have h2 := rowL_get (C := C) hi hm
    rw [show j / sz * sz + j % sz = j from by have := Nat.div_add_mod j sz; rw [Nat.mul_comm] at this; exact this, hu] at h2
    exact h2.symm
theorem rowL_one {sz n : Nat} {C : Nat → Nat → Value} (hC : ∀ i j, (C i j).oneCell' = true) : ∀ u ∈ rowL sz n C, u.oneCell' = true := by
  intro u hu
  unfold rowL at hu
  obtain ⟨k, _, rfl⟩ := List.mem_map.1 hu
  exact hC _ _
def RetC (w : World) (e : TypeId) (sz n : Nat) (C : Nat → Nat → Value) (en : Ending) (w' : World) : Prop := ∃ v, en = .returned v ∧ Gr w w' ∧ w'.ownsRow w.heap.size e sz v n (rowL sz n C)
theorem RetC.nil {w : World} {e : TypeId} {sz : Nat} {C : Nat → Nat → Value} : RetC w e sz 0 C (.returned (.slice none 0 0)) w :=
  ⟨_, rfl, Gr.refl _, by rw [rowL_len], .inl ⟨rfl, rfl⟩⟩
end Go.Proofs.YtgjnlgcdpbilfaaGreatDoor
namespace Go.Proofs.YtgjnlgcdpbilfaaGreatDoor
open Go.ChangeShapes Go.WideShapes Go.ChangeAt Go.RowKit
set_option linter.unusedVariables false
set_option linter.unusedSimpArgs false
attribute [local go_sem ↓] Go.wp_at_zero Go.wp_at_succ
def Free9 (w : World) (b : Nat) : Prop := ∀ o, o < 9 → w.frozen? ⟨b, o, none⟩ = false
theorem Free9.gr {w w' : World} {b : Nat} (h : Free9 w b) (g : Gr w w') (hb : b < w.heap.size) : Free9 w' b := fun o ho => by rw [g.frozen _ _ hb]; exact h o ho
theorem Free9.set {w : World} {b : Nat} (h : Free9 w b) (p : Addr) (v : Value) : Free9 (w.setCell p v) b := fun o ho => by rw [World.frozen?_setCell]; exact h o ho
theorem Free9.new (w : World) (x : Array Value) (t : TypeId) : Free9 (w.alloc (.cells x t)) w.heap.size := fun o ho => by simp
theorem own_form {w : World} {B : Nat} {e : TypeId} {sz n : Nat} {v : Value} {xs : List Value} (h : w.ownsRow B e sz v n xs) : ∃ a c, v = .slice a n c := by
  rcases h.2 with ⟨rfl, h0⟩ | ⟨g, cap, cur, rfl, _⟩
  · subst h0; exact ⟨_, _, rfl⟩
  · exact ⟨_, _, rfl⟩
def IsRowI (lo hi : Nat) (w : World) (v : Value) (sz n : Nat) (C : Nat → Nat → Value) : Prop :=
  ∃ a c, v = .slice a n c ∧ n ≤ maxLen ∧ (n = 0 ∨ ∃ b o, a = some ⟨b, o, none⟩ ∧ lo ≤ b ∧ b < hi ∧ b < w.heap.size ∧ ∀ i j, i < n → j < sz → w.cell? ⟨b, o + i * sz + j, none⟩ = some (C i j))
theorem IsRowI.row {lo hi : Nat} {w : World} {v : Value} {sz n : Nat} {C : Nat → Nat → Value} (h : IsRowI lo hi w v sz n C) : IsRow w v sz n C := by
  obtain ⟨a, c, e, hm, hx⟩ := h
  refine ⟨a, c, e, hm, ?_⟩
  rcases hx with h | ⟨b, o, h1, -, -, h2, h3⟩
  · exact .inl h
  · exact .inr ⟨b, o, h1, h2, h3⟩
theorem IsRowI.keep {lo hi : Nat} {w w' : World} {v : Value} {sz n : Nat} {C : Nat → Nat → Value} (h : IsRowI lo hi w v sz n C) (hs : w.heap.size ≤ w'.heap.size) (hc : ∀ b o, lo ≤ b → b < hi → b < w.heap.size → w'.cell? ⟨b, o, none⟩ = w.cell? ⟨b, o, none⟩) : IsRowI lo hi w' v sz n C := by
  obtain ⟨a, c, e, hm, hx⟩ := h
  refine ⟨a, c, e, hm, ?_⟩
  rcases hx with h | ⟨b, o, h1, h2, h3, h4, h5⟩
  · exact .inl h
  · exact .inr ⟨b, o, h1, h2, h3, Nat.lt_of_lt_of_le h4 hs, fun i j hi hj => by rw [hc _ _ h2 h3 h4]; exact h5 i j hi hj⟩
theorem own_base_le {w : World} {B B' : Nat} {e : TypeId} {sz n : Nat} {v : Value} {xs : List Value} (h : w.ownsRow B e sz v n xs) (hb : B' ≤ B) : w.ownsRow B' e sz v n xs := by
  refine ⟨h.1, ?_⟩
  rcases h.2 with h | ⟨g, cap, cur, hv, hg, rest⟩
  · exact .inl h
  · exact .inr ⟨g, cap, cur, hv, Nat.le_trans hb hg, rest⟩
def Far (r : Nat) (w w' : World) : Prop := w'.heap.size = w.heap.size ∧ (∀ b o, b ≠ r → w'.cell? ⟨b, o, none⟩ = w.cell? ⟨b, o, none⟩) ∧ ∀ p, w'.frozen? p = w.frozen? p
theorem Far.refl (r : Nat) (w : World) : Far r w w := ⟨rfl, fun _ _ _ => rfl, fun _ => rfl⟩
theorem Far.set {r : Nat} {w w' : World} (h : Far r w w') (o : Nat) (v : Value) : Far r w (w'.setCell ⟨r, o, none⟩ v) :=
  ⟨by simpa using h.1, fun b o' hb => (World.cell?_setCell_other _ _ _ _ (by intro e; injection e with e2 _; exact hb e2.symm)).trans (h.2.1 b o' hb), fun p => by rw [World.frozen?_setCell]; exact h.2.2 p⟩
def IsValsA (g r : Nat) (w : World) (u : Value) (xs : List Value) : Prop :=
  ∃ (a : Option Addr) (cap : Nat), u = .slice a xs.length cap ∧ xs.length ≤ maxLen ∧ (xs = [] ∨ ∃ b off, a = some ⟨b, off, none⟩ ∧ b ≠ g ∧ b ≠ r ∧ b < w.heap.size ∧ ∀ i x, xs[i]? = some x → w.cell? ⟨b, off + i, none⟩ = some x)
theorem IsValsA.vals {g r : Nat} {w : World} {u : Value} {xs : List Value} (h : IsValsA g r w u xs) : IsVals w u xs := by
  obtain ⟨a, cap, e, hl, hx⟩ := h
  refine ⟨a, cap, e, hl, ?_⟩
  rcases hx with h | ⟨b, o, h1, -, -, h2, h3⟩
  · exact .inl h
  · exact .inr ⟨b, o, h1, h2, h3⟩
theorem IsValsA.keep {g r : Nat} {w w' : World} {u : Value} {xs : List Value} (h : IsValsA g r w u xs) (hs : w.heap.size ≤ w'.heap.size) (hc : ∀ b o, b ≠ g → b ≠ r → b < w.heap.size → w'.cell? ⟨b, o, none⟩ = w.cell? ⟨b, o, none⟩) : IsValsA g r w' u xs := by
  obtain ⟨a, cap, e, hl, hx⟩ := h
  refine ⟨a, cap, e, hl, ?_⟩
  rcases hx with h | ⟨b, o, h1, h4, h5, h2, h3⟩
  · exact .inl h
  · exact .inr ⟨b, o, h1, h4, h5, Nat.lt_of_lt_of_le h2 hs, fun i x hx => by rw [hc _ _ h4 h5 h2]; exact h3 i x hx⟩
theorem IsValsA.low {g r : Nat} {w : World} {u : Value} {xs : List Value} (h : IsVals w u xs) (hg : w.heap.size ≤ g) (hr : w.heap.size ≤ r) : IsValsA g r w u xs := by
  obtain ⟨a, cap, e, hl, hx⟩ := h
  refine ⟨a, cap, e, hl, ?_⟩
  rcases hx with h | ⟨b, o, h1, h2, h3⟩
  · exact .inl h
  · exact .inr ⟨b, o, h1, by omega, by omega, h2, h3⟩
structure TwL (w : World) (P : Pln) (v1 v2 v3 v4 : Value) (hi g4 : Nat) (wr : World) : Prop where
  gr : Gr w wr
  box : PBox wr w.heap.size P v1 v2 v3 v4
  rs : w.heap.size + 1 < wr.heap.size
  rc : ∀ o, o < 9 → ∃ u, wr.cell? ⟨w.heap.size + 1, o, none⟩ = some u
  rf : Free9 wr (w.heap.size + 1)
  i1 : IsRowI (w.heap.size + 2) hi wr v1 3 P.es.length (fun i j => (P.es.getD i default).c j)
  i2 : IsRowI (w.heap.size + 2) hi wr v2 4 P.js.length (fun i j => (P.js.getD i default).c j)
  i3 : IsRowI (w.heap.size + 2) hi wr v3 4 P.ss.length (fun i j => (P.ss.getD i default).c j)
  hg : w.heap.size + 2 ≤ hi ∧ hi ≤ g4
  v4 : ∃ c, P.ls.length ≤ maxLen ∧ ((P.ls.length = 0 ∧ ∃ a, v4 = .slice a 0 c) ∨ v4 = .slice (some ⟨g4, 0, none⟩) P.ls.length c)
  ln : ∀ i (h : i < P.ls.length), g4 < wr.heap.size ∧ wr.cell? ⟨g4, i * 2, none⟩ = some (.string P.ls[i].n) ∧ wr.frozen? ⟨g4, i * 2 + 1, none⟩ = false ∧ ∃ u, wr.cell? ⟨g4, i * 2 + 1, none⟩ = some u ∧ IsValsA g4 (w.heap.size + 1) wr u (P.ls[i].es.map (Value.int .i64))
theorem TwL.grow {w : World} {P : Pln} {v1 v2 v3 v4 : Value} {hi g4 : Nat} {wr w5 : World} (h : TwL w P v1 v2 v3 v4 hi g4 wr) (g : Gr wr w5) : TwL w P v1 v2 v3 v4 hi g4 w5 :=
  ⟨h.gr.trans g, h.box.gr g, Nat.lt_of_lt_of_le h.rs g.size, fun o ho => by obtain ⟨u, hu⟩ := h.rc o ho; exact ⟨u, (g.cell _ _ h.rs).trans hu⟩, h.rf.gr g h.rs,
    h.i1.keep g.size (fun b o _ _ hb => g.cell _ _ hb), h.i2.keep g.size (fun b o _ _ hb => g.cell _ _ hb), h.i3.keep g.size (fun b o _ _ hb => g.cell _ _ hb), h.hg, h.v4, fun i hi => by
      obtain ⟨a, b, c, u, d, e⟩ := h.ln i hi
      exact ⟨Nat.lt_of_lt_of_le a g.size, (g.cell _ _ a).trans b, (g.frozen _ _ a).trans c, u, (g.cell _ _ a).trans d, e.keep g.size fun b o _ _ hb => g.cell _ _ hb⟩⟩
theorem TwL.done {w : World} {P : Pln} {v1 v2 v3 v4 : Value} {hi g4 : Nat} {wr w' : World} (h : TwL w P v1 v2 v3 v4 hi g4 wr) (hf : Far (w.heap.size + 1) wr w') : IsPln w' (plnV P v1 v2 v3 v4) P := by
  have hz : wr.heap.size ≤ w'.heap.size := by rw [hf.1]; exact Nat.le_refl _
  have k1 := (h.i1.keep hz fun b o hb _ _ => hf.2.1 _ _ (by omega)).row
  have k2 := (h.i2.keep hz fun b o hb _ _ => hf.2.1 _ _ (by omega)).row
  have k3 := (h.i3.keep hz fun b o hb _ _ => hf.2.1 _ _ (by omega)).row
  obtain ⟨x1, y1, rfl, -⟩ := id h.i1
  obtain ⟨x2, y2, rfl, -⟩ := id h.i2
  obtain ⟨x3, y3, rfl, -⟩ := id h.i3
  obtain ⟨c, hm, h4⟩ := h.v4
  rcases h4 with ⟨h0, a, rfl⟩ | rfl
  · refine ⟨x1, y1, x2, y2, x3, y3, a, c, by rw [h0], k1, k2, k3, fun _ => default, ⟨a, c, rfl, hm, .inl h0⟩, fun i hi => by omega⟩
  · refine ⟨x1, y1, x2, y2, x3, y3, _, c, rfl, k1, k2, k3, fun i => (w'.cell? ⟨g4, i * 2 + 1, none⟩).getD default, ⟨_, c, rfl, hm, ?_⟩, fun i hi => ?_⟩
    · rcases Nat.eq_zero_or_pos P.ls.length with h0 | h0
      · exact .inl h0
      · refine .inr ⟨g4, 0, rfl, by rw [hf.1]; exact (h.ln 0 h0).1, fun i j hi hj => ?_⟩
        obtain ⟨_, b, _, u, d, _⟩ := h.ln i hi
        have hg := h.hg
        match j, hj with
        | 0, _ =>
          show w'.cell? ⟨g4, 0 + i * 2 + 0, none⟩ = some (.string (P.ls.getD i default).n)
          rw [Nat.add_zero, Nat.zero_add, hf.2.1 g4 _ (fun e => by omega), b, getD_at _ _ hi]
        | 1, _ =>
          show w'.cell? ⟨g4, 0 + i * 2 + 1, none⟩ = some ((w'.cell? ⟨g4, i * 2 + 1, none⟩).getD default)
          rw [Nat.zero_add, hf.2.1 g4 _ (fun e => by omega), d]; rfl
    · obtain ⟨_, b, _, u, d, e⟩ := h.ln i hi
      have hg := h.hg
      show IsVals w' ((w'.cell? ⟨g4, i * 2 + 1, none⟩).getD default) _
      rw [hf.2.1 g4 _ (fun e => by omega), d, getD_at _ _ hi]
      exact (e.keep hz fun b o _ hb _ => hf.2.1 _ _ hb).vals
theorem vals_slice {w : World} {u : Value} {xs : List Value} (h : IsVals w u xs) : u.oneCell' = true := by
  obtain ⟨a, c, rfl, _⟩ := h; rfl
theorem IsLns.one {w : World} {v : Value} {l : List Ln} (h : IsLns w v l) : ∃ S : Nat → Value, (∀ i j, (if j = 0 then Value.string (l.getD i default).n else S i).oneCell' = true) ∧ IsRow w v 2 l.length (fun i j => if j = 0 then .string (l.getD i default).n else S i) ∧ ∀ i, i < l.length → IsVals w (S i) ((l.getD i default).es.map (Value.int .i64)) := by
  obtain ⟨S, h1, h2⟩ := h
  refine ⟨fun i => if i < l.length then S i else .slice none 0 0, fun i j => ?_, ?_, fun i hi => by dsimp only; rw [if_pos hi]; exact h2 i hi⟩
  · dsimp only
    split
    · rfl
    · split
      · next hi => exact vals_slice (h2 i hi)
      · rfl
  · obtain ⟨a, c, e, hm, hx⟩ := h1
    refine ⟨a, c, e, hm, ?_⟩
    rcases hx with h | ⟨b, o, h1, h2, h3⟩
    · exact .inl h
    · refine .inr ⟨b, o, h1, h2, fun i j hi hj => ?_⟩
      dsimp only
      rw [if_pos hi]
      exact h3 i j hi hj
end Go.Proofs.YtgjnlgcdpbilfaaGreatDoor
