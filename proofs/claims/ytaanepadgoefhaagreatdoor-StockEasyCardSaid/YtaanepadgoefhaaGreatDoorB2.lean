/- ChkP: What Check of a plan answers: plain. No walk.
ChkQ: Joins as a map: plain. No walk.
Pac1: Pace: held, may, Next and the reference's.
Pac2: Pace: braking distances.
PacB: Pace: a stock in a box.
Pac4: Pace: the greatest speed that keeps within a room.
PacQ: Pace: the plain laws. No program.
Prk: Ports, strings and numbers as keys of maps.
Chk1: The document's answer: twice.
Chk2: The document's answer: within, In.
Chk3: A plan in its box. -/
import Derived.Test.YtaanepadgoefhaaGreatDoorB1
import Derived.Test.YtaanepadgoefhaaGreatDoorRows
import Derived.Deep.RegionWith
import Derived.Deep.RegionHeld3
import Derived.Deep.LoopGhost
import Derived.Deep.MidRow
namespace Go.Proofs.YtaanepadgoefhaaGreatDoor
open Go.ChangeShapes Go.WideShapes Go.ChangeAt Go.RowKit
set_option linter.unusedVariables false
set_option linter.unusedSimpArgs false

def inB (n lo hi : Int) : Bool := decide (lo ≤ n) && decide (n ≤ hi)
/-- one element by itself -/
def eleB (e : Ele) : Bool := nmB e.n && !decide (endsK e.k = 0) && (if e.k = 4 then decide (e.l = 0) else inB e.l 1 4000)
/-- all numbers, names and kinds -/
def argsB (P : Pln) : Bool :=
  inB P.top 1 60 && inB P.brake 1 10 && inB P.margin 1 4000 && inB P.throw 1 20 && !decide (P.es.length = 0) && P.es.all eleB && P.ss.all (fun s => nmB s.n) && P.ls.all (fun l => nmB l.n)
/-- is a text there twice -/
def twiceB (l : List ByteArray) : Bool := !decide l.Nodup
def portsP (P : Pln) : List Prt := P.js.flatMap fun j => [j.a, j.b]
/-- is the port joined to an element that is no gate -/
def offGate (P : Pln) (x : Prt) : Bool := match nextL P.js x with | some y => !decide (kindP P y.e = 4) | none => false
def joinedB (P : Pln) : Bool :=
  (portsP P).all (hasP P) && decide (portsP P).Nodup && (List.range P.es.length).all fun i => !decide (kindP P i = 4) || offGate P ⟨i, 0⟩
/-- signal i by itself -/
def sigB (P : Pln) (i : Nat) : Bool :=
  let x := (P.ss.getD i default).at_
  hasP P x && (decide (kindP P x.e = 1) || decide (kindP P x.e = 4)) && offGate P x && decide (readsL P.ss x = some i)
def signalsB (P : Pln) : Bool :=
  (List.range P.ss.length).all (sigB P) && (List.range P.es.length).all fun i => !decide (kindP P i = 4) || (readsL P.ss ⟨i, 0⟩).isSome
/-- from a first element left by out on: each is joined to the next -/
def chainB (P : Pln) : List Int → Int → Bool
  | [], _ => true
  | [_], _ => true
  | a :: b :: t, out => match nextL P.js ⟨a, out⟩ with | some y => decide (y.e = b) && chainB P (b :: t) (1 - y.x) | none => false
/-- by which end the first is left; -1: by none -/
def outOf (P : Pln) (a b : Int) : Int :=
  let j := fun e : Int => match nextL P.js ⟨a, e⟩ with | some y => decide (y.e = b) | none => false
  if j 0 then 0 else if j 1 then 1 else -1
def rowB (P : Pln) : List Int → Bool
  | a :: b :: t => !decide (outOf P a b < 0) && chainB P (a :: b :: t) (outOf P a b)
  | _ => true
def linesB (P : Pln) : Bool :=
  decide (P.ls.flatMap (·.es)).Nodup && P.ls.all fun l => !decide (l.es.length = 0) && l.es.all (fun e => decide (kindP P e = 1)) && rowB P l.es
def longB (P : Pln) : Bool :=
  decide (P.top + stp P.brake P.top ≤ P.margin) && P.ss.all (fun s => !decide (kindP P s.at_.e = 1) || decide (P.margin ≤ lenP P s.at_.e)) && P.es.all fun e => decide (e.k = 4) || decide (P.top ≤ e.l)
/-- what Check answers -/
def chk (P : Pln) : Int :=
  if 40 < P.es.length ∨ 24 < P.ss.length ∨ 4 < P.ls.length ∨ 80 < P.js.length then 3
  else if argsB P = false then 1
  else if twiceB (P.es.map (·.n)) || twiceB (P.ss.map (·.n)) || twiceB (P.ls.map (·.n)) then 4
  else if joinedB P = false then 6 else if signalsB P = false then 7 else if linesB P = false then 8 else if longB P = false then 9 else 0
end Go.Proofs.YtaanepadgoefhaaGreatDoor
namespace Go.Proofs.YtaanepadgoefhaaGreatDoor
open Go.ChangeShapes Go.WideShapes Go.ChangeAt Go.RowKit
set_option linter.unusedVariables false
set_option linter.unusedSimpArgs false

/-- an int of Go -/
def I64 (x : Int) : Prop := (Lit.int .i64 x).wf = true
/-- every number of the plan is an int, every text may be -/
structure PlnOk (P : Pln) : Prop where
  es : ∀ e ∈ P.es, I64 e.k ∧ I64 e.l ∧ e.n.size ≤ maxLen
  js : ∀ j ∈ P.js, I64 j.a.e ∧ I64 j.a.x ∧ I64 j.b.e ∧ I64 j.b.x
  ss : ∀ s ∈ P.ss, I64 s.at_.e ∧ I64 s.at_.x ∧ s.n.size ≤ maxLen
  ls : ∀ l ∈ P.ls, l.n.size ≤ maxLen ∧ ∀ e ∈ l.es, I64 e
  nums : I64 P.top ∧ I64 P.brake ∧ I64 P.margin ∧ I64 P.throw

def portsL (l : List Jn) : List Prt := l.flatMap fun j => [j.a, j.b]
theorem portsP_eq (P : Pln) : portsP P = portsL P.js := rfl
theorem portsL_cons (j : Jn) (t : List Jn) : portsL (j :: t) = j.a :: j.b :: portsL t := rfl
theorem portsL_snoc (l : List Jn) (j : Jn) : portsL (l ++ [j]) = portsL l ++ [j.a, j.b] := by simp [portsL]
theorem portsL_append (l m : List Jn) : portsL (l ++ m) = portsL l ++ portsL m := by simp [portsL]
theorem nextL_none : ∀ (l : List Jn) (x : Prt), x ∉ portsL l → nextL l x = none
  | [], _, _ => rfl
  | j :: t, x, h => by
    rw [portsL_cons] at h
    simp only [List.mem_cons, not_or] at h
    unfold nextL
    rw [if_neg (fun e => h.1 e.symm), if_neg (fun e => h.2.1 e.symm)]
    exact nextL_none t x h.2.2
theorem nextL_isSome : ∀ (l : List Jn) (x : Prt), (nextL l x).isSome = decide (x ∈ portsL l)
  | [], _ => rfl
  | j :: t, x => by
    rw [portsL_cons]
    unfold nextL
    split
    · rename_i h; simp [h]
    · rename_i h
      split
      · rename_i h2; simp [h2]
      · rename_i h2
        rw [nextL_isSome t x]
        have h' : ¬ x = j.a := fun e => h e.symm
        have h2' : ¬ x = j.b := fun e => h2 e.symm
        simp [h', h2']
theorem nextL_snoc : ∀ (l : List Jn) (j : Jn) (x : Prt), nextL (l ++ [j]) x = (nextL l x).or (if j.a = x then some j.b else if j.b = x then some j.a else none)
  | [], j, x => by simp [nextL]
  | i :: t, j, x => by
    rw [List.cons_append]
    unfold nextL
    split
    · rfl
    · split
      · rfl
      · exact nextL_snoc t j x
theorem take_snoc' {α : Type} (l : List α) (k : Nat) (h : k < l.length) : l.take (k + 1) = l.take k ++ [l[k]] := by
  rw [List.take_succ_eq_append_getElem h]
/-- what is known of the joins so far -/
def okL (P : Pln) (l : List Jn) : Prop := (portsL l).Nodup ∧ ∀ x ∈ portsL l, hasP P x = true
theorem okL_nil (P : Pln) : okL P [] := ⟨List.nodup_nil, fun x h => by cases h⟩
theorem okL_snoc {P : Pln} {l : List Jn} {j : Jn} (h : okL P l) (ha : j.a ∉ portsL l) (hb : j.b ∉ portsL l) (hab : j.a ≠ j.b) (pa : hasP P j.a = true) (pb : hasP P j.b = true) : okL P (l ++ [j]) := by
  obtain ⟨h1, h2⟩ := h
  refine ⟨?_, ?_⟩
  · rw [portsL_snoc, List.nodup_append]
    refine ⟨h1, by simp [hab], ?_⟩
    intro a ha' b hb' e
    subst e
    simp only [List.mem_cons, List.not_mem_nil, or_false] at hb'
    rcases hb' with rfl | rfl
    · exact ha ha'
    · exact hb ha'
  · intro x hx
    rw [portsL_snoc, List.mem_append] at hx
    rcases hx with hx | hx
    · exact h2 x hx
    · simp only [List.mem_cons, List.not_mem_nil, or_false] at hx
      rcases hx with rfl | rfl
      · exact pa
      · exact pb
theorem okL_of_take {P : Pln} (k : Nat) (hk : k < P.js.length) (h : okL P P.js) : P.js[k].a ∉ portsL (P.js.take k) ∧ P.js[k].b ∉ portsL (P.js.take k) ∧ P.js[k].a ≠ P.js[k].b ∧ hasP P P.js[k].a = true ∧ hasP P P.js[k].b = true := by
  obtain ⟨h1, h2⟩ := h
  have hs : P.js = P.js.take (k + 1) ++ P.js.drop (k + 1) := (List.take_append_drop _ _).symm
  rw [take_snoc' _ _ hk] at hs
  have hn : (portsL (P.js.take k ++ [P.js[k]])).Nodup := by
    rw [hs, portsL_append] at h1
    exact (List.nodup_append.1 h1).1
  have hm : ∀ x ∈ portsL (P.js.take k ++ [P.js[k]]), hasP P x = true := fun x hx => h2 x (by rw [hs, portsL_append]; exact List.mem_append.2 (.inl hx))
  rw [portsL_snoc] at hn hm
  rw [List.nodup_append] at hn
  obtain ⟨_, n2, n3⟩ := hn
  refine ⟨fun h => n3 _ h _ (by simp) rfl, fun h => n3 _ h _ (by simp) rfl, ?_, hm _ (by simp), hm _ (by simp)⟩
  intro e
  rw [e] at n2
  simp at n2
/-- the gates -/
def gatesB (P : Pln) : Bool := (List.range P.es.length).all fun i => !decide (kindP P i = 4) || offGate P ⟨i, 0⟩
theorem joinedB_no {P : Pln} (h : ¬ okL P P.js) : joinedB P = false := by
  unfold joinedB
  rw [portsP_eq]
  by_cases h1 : (portsL P.js).Nodup
  · have h2 : (portsL P.js).all (hasP P) = false := by
      rw [Bool.eq_false_iff]
      intro ha
      rw [List.all_eq_true] at ha
      exact h ⟨h1, ha⟩
    rw [h2]; simp
  · simp [h1]
theorem joinedB_yes {P : Pln} (h : okL P P.js) : joinedB P = gatesB P := by
  unfold joinedB gatesB
  rw [portsP_eq]
  have h2 : (portsL P.js).all (hasP P) = true := by rw [List.all_eq_true]; exact h.2
  simp [h.1, h2]
/-- one round of the fill -/
theorem okL_round {P : Pln} (k : Nat) (hk : k < P.js.length) (h : okL P (P.js.take k)) :
    (P.js[k].a ∉ portsL (P.js.take k) ∧ P.js[k].b ∉ portsL (P.js.take k) ∧ P.js[k].a ≠ P.js[k].b ∧ hasP P P.js[k].a = true ∧ hasP P P.js[k].b = true → okL P (P.js.take (k + 1))) ∧
    (¬ (P.js[k].a ∉ portsL (P.js.take k) ∧ P.js[k].b ∉ portsL (P.js.take k) ∧ P.js[k].a ≠ P.js[k].b ∧ hasP P P.js[k].a = true ∧ hasP P P.js[k].b = true) → joinedB P = false) := by
  refine ⟨fun ⟨a, b, c, d, e⟩ => ?_, fun hn => joinedB_no fun hk' => hn (okL_of_take k hk hk')⟩
  rw [take_snoc' _ _ hk]
  exact okL_snoc h a b c d e
/-- the function that a filled map is -/
def FnL (l : List Jn) (f : Value → Option Value) : Prop := ∀ x : Prt, f x.v = (nextL l x).map Prt.v
theorem FnL.nil : FnL [] (fun _ => none) := fun _ => rfl
theorem prtv_inj {x y : Prt} (h : x.v = y.v) : x = y := by
  obtain ⟨a, b⟩ := x
  obtain ⟨c, d⟩ := y
  unfold Prt.v at h
  simp only [Value.agg.injEq, Array.mk.injEq, List.cons.injEq, Value.int.injEq, true_and, and_true] at h
  rw [h.1, h.2]
end Go.Proofs.YtaanepadgoefhaaGreatDoor
namespace Go.Proofs.YtaanepadgoefhaaGreatDoor
open Go.ChangeShapes Go.WideShapes Go.ChangeAt Go.RowKit
set_option linter.unusedVariables false
set_option linter.unusedSimpArgs false

theorem held_any (n lo hi : Int) (w : World) :
    Calls Tryz.prog 132 #[.int .i64 n, .int .i64 lo, .int .i64 hi] w fun e w' => e = .returned (.int .i64 (hld n lo hi)) ∧ w' = w := by
  go_enter Tryz.func132, Tryz.ntmps132
  go_wp2
  all_goals (rename_i g1; go_ret; refine ⟨ret_int ?_, rfl⟩; unfold hld; split at g1 <;> omega)

theorem hold_any (n lo hi : Int) (hlh : lo ≤ hi) (w : World) :
    Calls Tryz.prog 56 #[.int .i64 n, .int .i64 lo, .int .i64 hi] w fun e w' => e = .returned (.int .i64 (hld n lo hi)) ∧ w' = w := by
  go_enter Tryz.func56, Tryz.ntmps56
  go_wp2
  all_goals (rename_i g1; go_ret; refine ⟨ret_int ?_, rfl⟩; unfold hld; split at g1 <;> omega)

theorem may_yes (nm : ByteArray) (l t a b : Int) (ht : 1 ≤ t ∧ t ≤ 60) (ha : 1 ≤ a ∧ a ≤ 10) (hb : 1 ≤ b ∧ b ≤ 10) (w : World) :
    Calls Tryz.prog 97 #[.agg #[.string nm, .int .i64 l, .int .i64 t, .int .i64 a, .int .i64 b]] w fun e w' => e = .returned (.bool true) ∧ Gr w w' := by
  have e1 : hld t 1 60 = t := hld_id _ _ _ ht.1 ht.2
  have e2 : hld a 1 10 = a := hld_id _ _ _ ha.1 ha.2
  have e3 : hld b 1 10 = b := hld_id _ _ _ hb.1 hb.2
  go_enter Tryz.func97, Tryz.ntmps97
  go_wp2_with fail
  go_quiet ((go_at_call 132; exact Calls.quiet_of_same (held_any _ _ _ _)))
  go_wp2_with fail
  go_ret
  exact ⟨rfl, ((Gr.refl _).alloc _).drewN _⟩

theorem gcell {a w : World} (h : Gr a w) : ∀ b o, b < a.heap.size → w.cell? ⟨b, o, none⟩ = a.cell? ⟨b, o, none⟩ := fun b o hb => Gr.cell h b o hb

theorem next_any (nm : ByteArray) (l t a b v want : Int) (f : Bool) (ht : 1 ≤ t ∧ t ≤ 60) (ha : 1 ≤ a ∧ a ≤ 10) (hb : 1 ≤ b ∧ b ≤ 10) (w : World) :
    Calls Tryz.prog 98 #[.agg #[.string nm, .int .i64 l, .int .i64 t, .int .i64 a, .int .i64 b], .int .i64 v, .int .i64 want, .bool f] w fun e w' => e = .returned (.int .i64 (nxt t a b v want f)) ∧ Gr w w' := by
  obtain ⟨ht1, ht2⟩ := ht
  obtain ⟨ha1, ha2⟩ := ha
  obtain ⟨hb1, hb2⟩ := hb
  have q1 := hld_bd v 0 t (by omega)
  obtain ⟨q11, q12⟩ := q1
  have q2 := hld_bd want (-b) a (by omega)
  obtain ⟨q21, q22⟩ := q2
  have c1 : IntKind.i64.wrap (hld v 0 t + hld want (-b) a) = hld v 0 t + hld want (-b) a := IntWalk.i64_in _ (by omega)
  have c2 : IntKind.i64.wrap (hld v 0 t + -b) = hld v 0 t + -b := IntWalk.i64_in _ (by omega)
  cases f with
  | false =>
    go_enter Tryz.func98, Tryz.ntmps98
    go_wp2_with fail
    refine (may_yes nm l t a b ⟨ht1, ht2⟩ ⟨ha1, ha2⟩ ⟨hb1, hb2⟩ _).mono ?_
    rintro e w1 ⟨rfl, h1⟩
    have hc1 := gcell h1
    go_wp2_with fail
    refine (held_any _ _ _ _).mono ?_
    rintro e w2 ⟨rfl, rfl⟩
    go_wp2_with fail
    go_quiet ((go_at_call 132; exact Calls.quiet_of_same (held_any _ _ _ _)))
    go_wp2_with fail
    go_ret
    exact ⟨ret_int rfl, (((Gr.refl _).alloc _).trans h1).drewN _⟩
  | true =>
    go_enter Tryz.func98, Tryz.ntmps98
    go_wp2_with fail
    refine (may_yes nm l t a b ⟨ht1, ht2⟩ ⟨ha1, ha2⟩ ⟨hb1, hb2⟩ _).mono ?_
    rintro e w1 ⟨rfl, h1⟩
    have hc1 := gcell h1
    go_wp2_with fail
    refine (held_any _ _ _ _).mono ?_
    rintro e w2 ⟨rfl, rfl⟩
    go_wp2_with fail
    go_quiet ((go_at_call 132; exact Calls.quiet_of_same (held_any _ _ _ _)))
    go_wp2_with fail
    go_ret
    exact ⟨ret_int rfl, (((Gr.refl _).alloc _).trans h1).drewN _⟩

theorem refNext_any (nm : ByteArray) (l t a b v want : Int) (f : Bool) (ht : 1 ≤ t ∧ t ≤ 60) (ha : 1 ≤ a ∧ a ≤ 10) (hb : 1 ≤ b ∧ b ≤ 10) (w : World) :
    Calls Tryz.prog 100 #[.agg #[.string nm, .int .i64 l, .int .i64 t, .int .i64 a, .int .i64 b], .int .i64 v, .int .i64 want, .bool f] w fun e w' => e = .returned (.int .i64 (nxt t a b v want f)) ∧ Gr w w' := by
  obtain ⟨ht1, ht2⟩ := ht
  obtain ⟨ha1, ha2⟩ := ha
  obtain ⟨hb1, hb2⟩ := hb
  have q1 := hld_bd v 0 t (by omega)
  obtain ⟨q11, q12⟩ := q1
  have q2 := hld_bd want (-b) a (by omega)
  obtain ⟨q21, q22⟩ := q2
  have c1 : IntKind.i64.wrap (hld v 0 t + hld want (-b) a) = hld v 0 t + hld want (-b) a := IntWalk.i64_in _ (by omega)
  have c2 : IntKind.i64.wrap (hld v 0 t + -b) = hld v 0 t + -b := IntWalk.i64_in _ (by omega)
  have o1 : (0 : Int) ≤ t := by omega
  have o2 : -b ≤ a := by omega
  cases f with
  | false =>
    go_enter Tryz.func100, Tryz.ntmps100
    go_wp2_with fail
    refine (hold_any _ _ _ o2 _).mono ?_
    rintro e w2 ⟨rfl, rfl⟩
    go_wp2_with fail
    go_quiet ((go_at_call 56; exact Calls.quiet_of_same (hold_any _ _ _ o1 _)))
    go_wp2_with fail
    go_ret
    exact ⟨ret_int rfl, ((Gr.refl _).alloc _).drewN _⟩
  | true =>
    go_enter Tryz.func100, Tryz.ntmps100
    go_wp2_with fail
    refine (hold_any _ _ _ o2 _).mono ?_
    rintro e w2 ⟨rfl, rfl⟩
    go_wp2_with fail
    go_quiet ((go_at_call 56; exact Calls.quiet_of_same (hold_any _ _ _ o1 _)))
    go_wp2_with fail
    go_ret
    exact ⟨ret_int rfl, ((Gr.refl _).alloc _).drewN _⟩
end Go.Proofs.YtaanepadgoefhaaGreatDoor
namespace Go.Proofs.YtaanepadgoefhaaGreatDoor
open Go.ChangeShapes Go.WideShapes Go.ChangeAt Go.RowKit
set_option linter.unusedVariables false
set_option linter.unusedSimpArgs false

theorem planStop_any (v b : Int) (hv : 0 ≤ v ∧ v ≤ 60) (hb : 1 ≤ b ∧ b ≤ 10) (w : World) :
    Calls Tryz.prog 133 #[.int .i64 v, .int .i64 b] w fun e w' => e = .returned (.int .i64 (stp b v)) ∧ w' = w := by
  obtain ⟨hv1, hv2⟩ := hv
  obtain ⟨hb1, hb2⟩ := hb
  go_enter Tryz.func133, Tryz.ntmps133
  go_wp2
  go_loop [5, 0] (fun n x => ∃ (k : Nat) (V N : Int), n = .int .i64 N ∧ x = .int .i64 V ∧ V ≤ k ∧ k ≤ 60 ∧ -10 ≤ V ∧ 0 ≤ N ∧ N ≤ (60 - k) * 60 ∧ Hid (N + tailS b k V = stp b v)) (fun _ x => (intOf x).toNat)
  case atStart => exact ⟨60, v - b, 0, rfl, rfl, by omega, by omega, by omega, by omega, by omega, by unfold Hid stp; omega⟩
  case round =>
    obtain ⟨k, V, N, rfl, rfl, r1, r2, r3, r4, r5, HS⟩ := hrel
    by_cases hp : 0 < V
    · obtain ⟨j, hj, hs⟩ := tailS_pos b k V hp r1
      have HT : Hid (N + V + tailS b j (V - b) = stp b v) := by unfold Hid; rw [← HS.out, hs]; omega
      have r6 : V - b ≤ j := by omega
      have r7 : N + V ≤ (60 - j) * 60 := by omega
      have r8 : j ≤ 60 := by omega
      clear hs hj HS
      go_wp2
      go_round
      case rel => exact ⟨j, V - b, N + V, rfl, rfl, by omega, r8, by omega, by omega, r7, HT⟩
      case measure => simp [intOf]; omega
    · have HT : Hid (N = stp b v) := by unfold Hid; rw [← HS.out, tailS_no b k V hp]; omega
      clear HS
      go_wp2
      go_ret
      exact ⟨ret_int HT.out, rfl⟩

theorem refStop_any (v b : Int) (hv : 0 ≤ v ∧ v ≤ 60) (hb : 1 ≤ b ∧ b ≤ 10) (w : World) :
    Calls Tryz.prog 116 #[.int .i64 v, .int .i64 b] w fun e w' => e = .returned (.int .i64 (stp b v)) ∧ w' = w := by
  obtain ⟨hv1, hv2⟩ := hv
  obtain ⟨hb1, hb2⟩ := hb
  go_enter Tryz.func116, Tryz.ntmps116
  go_wp2
  go_loop [5, 0] (fun n x => ∃ (k : Nat) (V N : Int), n = .int .i64 N ∧ x = .int .i64 V ∧ V ≤ k ∧ k ≤ 60 ∧ -10 ≤ V ∧ 0 ≤ N ∧ N ≤ (60 - k) * 60 ∧ Hid (N + tailS b k V = stp b v)) (fun _ x => (intOf x).toNat)
  case atStart => exact ⟨60, v - b, 0, rfl, rfl, by omega, by omega, by omega, by omega, by omega, by unfold Hid stp; omega⟩
  case round =>
    obtain ⟨k, V, N, rfl, rfl, r1, r2, r3, r4, r5, HS⟩ := hrel
    by_cases hp : 0 < V
    · obtain ⟨j, hj, hs⟩ := tailS_pos b k V hp r1
      have HT : Hid (N + V + tailS b j (V - b) = stp b v) := by unfold Hid; rw [← HS.out, hs]; omega
      have r6 : V - b ≤ j := by omega
      have r7 : N + V ≤ (60 - j) * 60 := by omega
      have r8 : j ≤ 60 := by omega
      clear hs hj HS
      go_wp2
      go_round
      case rel => exact ⟨j, V - b, N + V, rfl, rfl, by omega, r8, by omega, by omega, r7, HT⟩
      case measure => simp [intOf]; omega
    · have HT : Hid (N = stp b v) := by unfold Hid; rw [← HS.out, tailS_no b k V hp]; omega
      clear HS
      go_wp2
      go_ret
      exact ⟨ret_int HT.out, rfl⟩

theorem stop_any (nm : ByteArray) (l t a b v : Int) (ht : 1 ≤ t ∧ t ≤ 60) (ha : 1 ≤ a ∧ a ≤ 10) (hb : 1 ≤ b ∧ b ≤ 10) (w : World) :
    Calls Tryz.prog 99 #[.agg #[.string nm, .int .i64 l, .int .i64 t, .int .i64 a, .int .i64 b], .int .i64 v] w fun e w' => e = .returned (.int .i64 (stopD t b v)) ∧ Gr w w' := by
  have q1 := hld_bd v 0 t (by omega)
  have Q : 0 ≤ hld v 0 t ∧ hld v 0 t ≤ 60 := ⟨q1.1, by omega⟩
  have o1 : (0 : Int) ≤ t := by omega
  go_enter Tryz.func99, Tryz.ntmps99
  go_wp2_with fail
  refine (may_yes nm l t a b ht ha hb _).mono ?_
  rintro e w1 ⟨rfl, h1⟩
  have hc1 := gcell h1
  go_wp2_with fail
  go_quiet ((first | (go_at_call 132; exact Calls.quiet_of_same (held_any _ _ _ _)) | (go_at_call 133; exact Calls.quiet_of_same (planStop_any _ _ Q hb _))))
  go_wp2_with fail
  go_ret
  exact ⟨ret_int rfl, (((Gr.refl _).alloc _).trans h1).drewN _⟩

theorem refStop24_any (nm : ByteArray) (l t a b v : Int) (ht : 1 ≤ t ∧ t ≤ 60) (ha : 1 ≤ a ∧ a ≤ 10) (hb : 1 ≤ b ∧ b ≤ 10) (w : World) :
    Calls Tryz.prog 101 #[.agg #[.string nm, .int .i64 l, .int .i64 t, .int .i64 a, .int .i64 b], .int .i64 v] w fun e w' => e = .returned (.int .i64 (stopD t b v)) ∧ Gr w w' := by
  have q1 := hld_bd v 0 t (by omega)
  have Q : 0 ≤ hld v 0 t ∧ hld v 0 t ≤ 60 := ⟨q1.1, by omega⟩
  have o1 : (0 : Int) ≤ t := by omega
  go_enter Tryz.func101, Tryz.ntmps101
  go_wp2_with fail
  go_quiet ((first | (go_at_call 56; exact Calls.quiet_of_same (hold_any _ _ _ o1 _)) | (go_at_call 116; exact Calls.quiet_of_same (refStop_any _ _ Q hb _))))
  go_wp2_with fail
  go_ret
  exact ⟨ret_int rfl, ((Gr.refl _).alloc _).drewN _⟩
end Go.Proofs.YtaanepadgoefhaaGreatDoor
namespace Go.Proofs.YtaanepadgoefhaaGreatDoor
open Go.ChangeShapes Go.WideShapes Go.ChangeAt Go.RowKit
set_option linter.unusedVariables false
set_option linter.unusedSimpArgs false

/-- a stock in a box -/
structure Box (w : World) (B : Nat) (nm : ByteArray) (l t a b : Int) : Prop where
  lt : B < w.heap.size
  c0 : w.cell? ⟨B, 0, none⟩ = some (.string nm)
  c1 : w.cell? ⟨B, 1, none⟩ = some (.int .i64 l)
  c2 : w.cell? ⟨B, 2, none⟩ = some (.int .i64 t)
  c3 : w.cell? ⟨B, 3, none⟩ = some (.int .i64 a)
  c4 : w.cell? ⟨B, 4, none⟩ = some (.int .i64 b)
theorem Box.gr {w w' : World} {B : Nat} {nm : ByteArray} {l t a b : Int} (h : Box w B nm l t a b) (g : Gr w w') : Box w' B nm l t a b :=
  ⟨Nat.lt_of_lt_of_le h.lt g.size, (g.cell _ _ h.lt).trans h.c0, (g.cell _ _ h.lt).trans h.c1, (g.cell _ _ h.lt).trans h.c2, (g.cell _ _ h.lt).trans h.c3, (g.cell _ _ h.lt).trans h.c4⟩
theorem Box.new (w : World) (nm : ByteArray) (l t a b : Int) (T : TypeId) : Box (w.alloc (.cells #[.string nm, .int .i64 l, .int .i64 t, .int .i64 a, .int .i64 b] T)) w.heap.size nm l t a b :=
  ⟨by simp, by rw [World.cell?_alloc_mark]; rfl, by rw [World.cell?_alloc_mark]; rfl, by rw [World.cell?_alloc_mark]; rfl, by rw [World.cell?_alloc_mark]; rfl, by rw [World.cell?_alloc_mark]; rfl⟩

theorem Box.five {w : World} {B : Nat} {nm : ByteArray} {l t a b : Int} (h : Box w B nm l t a b) :
    w.cell? ⟨B, 0, none⟩ = some (.string nm) ∧ w.cell? ⟨B, 1, none⟩ = some (.int .i64 l) ∧ w.cell? ⟨B, 2, none⟩ = some (.int .i64 t) ∧ w.cell? ⟨B, 3, none⟩ = some (.int .i64 a) ∧ w.cell? ⟨B, 4, none⟩ = some (.int .i64 b) :=
  ⟨h.c0, h.c1, h.c2, h.c3, h.c4⟩

theorem Box.held {w0 W w3 : World} {B : Nat} {nm : ByteArray} {l t a b : Int} (g : Gr W w3)
    (h : Gr w0 W ∧ B < W.heap.size ∧ W.cell? ⟨B, 0, none⟩ = some (.string nm) ∧ W.cell? ⟨B, 1, none⟩ = some (.int .i64 l) ∧ W.cell? ⟨B, 2, none⟩ = some (.int .i64 t) ∧ W.cell? ⟨B, 3, none⟩ = some (.int .i64 a) ∧ W.cell? ⟨B, 4, none⟩ = some (.int .i64 b)) :
    Gr w0 w3 ∧ B < w3.heap.size ∧ w3.cell? ⟨B, 0, none⟩ = some (.string nm) ∧ w3.cell? ⟨B, 1, none⟩ = some (.int .i64 l) ∧ w3.cell? ⟨B, 2, none⟩ = some (.int .i64 t) ∧ w3.cell? ⟨B, 3, none⟩ = some (.int .i64 a) ∧ w3.cell? ⟨B, 4, none⟩ = some (.int .i64 b) := by
  obtain ⟨g0, i0, c0, c1, c2, c3, c4⟩ := h
  have k := Box.gr ⟨i0, c0, c1, c2, c3, c4⟩ g
  exact ⟨g0.trans g, k.lt, k.five⟩

end Go.Proofs.YtaanepadgoefhaaGreatDoor
namespace Go.Proofs.YtaanepadgoefhaaGreatDoor
open Go.ChangeShapes Go.WideShapes Go.ChangeAt Go.RowKit
set_option linter.unusedVariables false
set_option linter.unusedSimpArgs false

set_option maxHeartbeats 400000 in
theorem keeps_any (nm : ByteArray) (l t a b v room : Int) (ht : 1 ≤ t ∧ t ≤ 60) (ha : 1 ≤ a ∧ a ≤ 10) (hb : 1 ≤ b ∧ b ≤ 10) (w : World) :
    Calls Tryz.prog 54 #[.agg #[.string nm, .int .i64 l, .int .i64 t, .int .i64 a, .int .i64 b], .int .i64 v, .int .i64 room] w fun e w' => e = .returned (.int .i64 (kps t a b v room)) ∧ Gr w w' := by
  have wb : IntKind.i64.wrap (-b) = -b := IntWalk.i64_in _ (by omega)
  obtain ⟨L, hL⟩ : ∃ L, L = nxt t a b v (-b) false := ⟨_, rfl⟩
  obtain ⟨M, hM⟩ : ∃ M, M = nxt t a b v a false := ⟨_, rfl⟩
  have l1 : 0 ≤ L := by rw [hL]; exact (nxt_bd _ _ _ _ _ _ ht.1).1
  have l2 : L ≤ M := by rw [hL, hM]; exact nxt_least _ _ _ _ ha.1 hb.1 ht.1
  have l3 : M ≤ t := by rw [hM]; exact (nxt_bd _ _ _ _ _ _ ht.1).2
  have HK : Hid (kpF t b room (M - L).toNat M = kps t a b v room) := by unfold Hid kps; rw [hL, hM]
  have HL := Lib.hid hL
  have HM := Lib.hid hM
  clear hL hM
  have hbox := Box.new w nm l t a b 30
  go_enter Tryz.func54, Tryz.ntmps54
  go_wp2_with fail
  refine (may_yes nm l t a b ht ha hb _).mono ?_
  rintro e w1 ⟨rfl, h1⟩
  have hbox1 := hbox.gr h1
  have hg1 := ((Gr.refl w).alloc _).trans h1
  obtain ⟨i0, c0, c1, c2, c3, c4⟩ := hbox1
  clear hbox h1
  go_wp2_with fail
  go_region_held3 (fun w' => Gr w w' ∧ w.heap.size < w'.heap.size ∧ w'.cell? ⟨w.heap.size, 0, none⟩ = some (.string nm) ∧ w'.cell? ⟨w.heap.size, 1, none⟩ = some (.int .i64 l) ∧ w'.cell? ⟨w.heap.size, 2, none⟩ = some (.int .i64 t) ∧ w'.cell? ⟨w.heap.size, 3, none⟩ = some (.int .i64 a) ∧ w'.cell? ⟨w.heap.size, 4, none⟩ = some (.int .i64 b)) (first | exact ⟨hg1, i0, c0, c1, c2, c3, c4⟩ | exact Box.held h3 (by assumption) | exact ⟨hg1.drew, i0, c0, c1, c2, c3, c4⟩) (first | (go_at_call 98; refine (next_any nm l t a b v _ false ht ha hb _).mono ?_; rintro e w3 ⟨rfl, h3⟩))
  rename_i hS
  obtain ⟨hg2, j0, d0, d1, d2, d3, d4⟩ := hS
  have hbx : Box w3 w.heap.size nm l t a b := ⟨j0, d0, d1, d2, d3, d4⟩
  clear h3 d0 d1 d2 d3 d4 j0 hg1 i0 c0 c1 c2 c3 c4
  rw [← HL.out, ← HM.out]
  go_wp2_with fail
  go_loopw [8] (fun x wr => ∃ X : Int, x = .int .i64 X ∧ L ≤ X ∧ X ≤ t ∧ Hid (kpF t b room (X - L).toNat X = kps t a b v room) ∧ Gr w wr ∧ Box wr w.heap.size nm l t a b) (fun x _ => (intOf x).toNat)
  case atStart => exact ⟨M, rfl, l2, l3, HK, hg2, hbx⟩
  case round =>
    obtain ⟨X, rfl, r1, r2, HS, g, ⟨i0, c0, c1, c2, c3, c4⟩⟩ := hrel
    clear hbx hg2 HK HL HM
    by_cases hx : X = L
    · have HT : Hid (X = kps t a b v room) := by unfold Hid; rw [← HS.out, kpF_end t b room L X (by omega)]
      have hx' : (X == L) = true := by simp [hx]
      clear HS hx
      go_wp2_with fail
      go_ret
      exact ⟨ret_int HT.out, g⟩
    · have hx' : (X == L) = false := by simp [hx]
      have bd := stopD_bd t b X ht hb.1
      obtain ⟨bd1, bd2⟩ := bd
      by_cases hr : X + stopD t b X ≤ room
      · have HT : Hid (X = kps t a b v room) := by unfold Hid; rw [← HS.out, kpF_yes t b room L X hr]
        clear HS
        go_wp2_with fail
        refine (stop_any nm l t a b X ht ha hb _).mono ?_
        rintro e w4 ⟨rfl, h4⟩
        go_wp2_with fail
        go_ret
        exact ⟨ret_int HT.out, g.trans h4⟩
      · have HT : Hid (kpF t b room (X - 1 - L).toNat (X - 1) = kps t a b v room) := by unfold Hid; rw [← HS.out, kpF_no t b room L X (by omega) hr]
        clear HS
        go_wp2_with fail
        refine (stop_any nm l t a b X ht ha hb _).mono ?_
        rintro e w4 ⟨rfl, h4⟩
        have hB : Box w4 w.heap.size nm l t a b := Box.gr ⟨i0, c0, c1, c2, c3, c4⟩ h4
        have hG := g.trans h4
        go_wp2_with fail
        go_roundw
        case rel => exact ⟨X - 1, rfl, by omega, by omega, HT, hG, hB⟩
        case measure => simp [intOf]; omega

set_option maxHeartbeats 400000 in
theorem refKeeps_any (nm : ByteArray) (l t a b v room : Int) (ht : 1 ≤ t ∧ t ≤ 60) (ha : 1 ≤ a ∧ a ≤ 10) (hb : 1 ≤ b ∧ b ≤ 10) (w : World) :
    Calls Tryz.prog 55 #[.agg #[.string nm, .int .i64 l, .int .i64 t, .int .i64 a, .int .i64 b], .int .i64 v, .int .i64 room] w fun e w' => e = .returned (.int .i64 (kps t a b v room)) ∧ Gr w w' := by
  have wb : IntKind.i64.wrap (-b) = -b := IntWalk.i64_in _ (by omega)
  obtain ⟨L, hL⟩ : ∃ L, L = nxt t a b v (-b) false := ⟨_, rfl⟩
  obtain ⟨M, hM⟩ : ∃ M, M = nxt t a b v a false := ⟨_, rfl⟩
  have l1 : 0 ≤ L := by rw [hL]; exact (nxt_bd _ _ _ _ _ _ ht.1).1
  have l2 : L ≤ M := by rw [hL, hM]; exact nxt_least _ _ _ _ ha.1 hb.1 ht.1
  have l3 : M ≤ t := by rw [hM]; exact (nxt_bd _ _ _ _ _ _ ht.1).2
  have HK : Hid (kpF t b room (M - L).toNat M = kps t a b v room) := by unfold Hid kps; rw [hL, hM]
  have HL := Lib.hid hL
  have HM := Lib.hid hM
  clear hL hM
  obtain ⟨w1, hw1⟩ : ∃ w1, w1 = w.alloc (.cells #[.string nm, .int .i64 l, .int .i64 t, .int .i64 a, .int .i64 b] 30) := ⟨_, rfl⟩
  have hbox := Box.new w nm l t a b 30
  have hg1 := ((Gr.refl w).alloc (.cells #[.string nm, .int .i64 l, .int .i64 t, .int .i64 a, .int .i64 b] 30))
  rw [← hw1] at hbox hg1
  have HW := Lib.hid hw1
  clear hw1
  obtain ⟨i0, c0, c1, c2, c3, c4⟩ := hbox
  go_enter Tryz.func55, Tryz.ntmps55
  go_wp2_with fail
  rw [← HW.out]
  go_region_held3 (fun w' => Gr w w' ∧ w.heap.size < w'.heap.size ∧ w'.cell? ⟨w.heap.size, 0, none⟩ = some (.string nm) ∧ w'.cell? ⟨w.heap.size, 1, none⟩ = some (.int .i64 l) ∧ w'.cell? ⟨w.heap.size, 2, none⟩ = some (.int .i64 t) ∧ w'.cell? ⟨w.heap.size, 3, none⟩ = some (.int .i64 a) ∧ w'.cell? ⟨w.heap.size, 4, none⟩ = some (.int .i64 b)) (first | exact ⟨hg1, i0, c0, c1, c2, c3, c4⟩ | exact Box.held h3 (by assumption) | exact ⟨hg1.drew, i0, c0, c1, c2, c3, c4⟩) (first | (go_at_call 100; refine (refNext_any nm l t a b v _ false ht ha hb _).mono ?_; rintro e w3 ⟨rfl, h3⟩))
  rename_i hS
  obtain ⟨hg2, j0, d0, d1, d2, d3, d4⟩ := hS
  have hbx : Box w3 w.heap.size nm l t a b := ⟨j0, d0, d1, d2, d3, d4⟩
  clear h3 d0 d1 d2 d3 d4 j0 hg1 i0 c0 c1 c2 c3 c4
  rw [← HL.out, ← HM.out]
  clear HW
  go_wp2_with fail
  go_loopw [9] (fun x wr => ∃ X : Int, x = .int .i64 X ∧ L ≤ X ∧ X ≤ t ∧ Hid (kpF t b room (X - L).toNat X = kps t a b v room) ∧ Gr w wr ∧ Box wr w.heap.size nm l t a b) (fun x _ => (intOf x).toNat)
  case atStart => exact ⟨M, rfl, l2, l3, HK, hg2, hbx⟩
  case round =>
    obtain ⟨X, rfl, r1, r2, HS, g, ⟨i0, c0, c1, c2, c3, c4⟩⟩ := hrel
    clear hbx hg2 HK HL HM
    by_cases hx : X ≤ L
    · have HT : Hid (L = kps t a b v room) := by unfold Hid; rw [← HS.out, kpF_end t b room L X (by omega)]; omega
      clear HS
      go_wp2_with fail
      go_ret
      exact ⟨ret_int HT.out, g⟩
    · have bd := stopD_bd t b X ht hb.1
      obtain ⟨bd1, bd2⟩ := bd
      by_cases hr : X + stopD t b X ≤ room
      · have HT : Hid (X = kps t a b v room) := by unfold Hid; rw [← HS.out, kpF_yes t b room L X hr]
        clear HS
        go_wp2_with fail
        refine (refStop24_any nm l t a b X ht ha hb _).mono ?_
        rintro e w4 ⟨rfl, h4⟩
        go_wp2_with fail
        go_ret
        exact ⟨ret_int HT.out, g.trans h4⟩
      · have HT : Hid (kpF t b room (X - 1 - L).toNat (X - 1) = kps t a b v room) := by unfold Hid; rw [← HS.out, kpF_no t b room L X (by omega) hr]
        clear HS
        go_wp2_with fail
        refine (refStop24_any nm l t a b X ht ha hb _).mono ?_
        rintro e w4 ⟨rfl, h4⟩
        have hB : Box w4 w.heap.size nm l t a b := Box.gr ⟨i0, c0, c1, c2, c3, c4⟩ h4
        have hG := g.trans h4
        go_wp2_with fail
        go_roundw
        case rel => exact ⟨X - 1, rfl, by omega, by omega, HT, hG, hB⟩
        case measure => simp [intOf]; omega
end Go.Proofs.YtaanepadgoefhaaGreatDoor
namespace Go.Proofs.YtaanepadgoefhaaGreatDoor
open Go.ChangeShapes Go.WideShapes Go.ChangeAt Go.RowKit
set_option linter.unusedVariables false
set_option linter.unusedSimpArgs false

theorem tailS_mono (b b' : Int) (hb : b ≤ b') (hb1 : 1 ≤ b) : ∀ (k : Nat) (V' V : Int), V' ≤ V → tailS b' k V' ≤ tailS b k V
  | 0, _, _, _ => by simp [tailS]
  | k + 1, V', V, h => by
    have ih := tailS_mono b b' hb hb1 k (V' - b') (V - b) (by omega)
    unfold tailS
    split
    · rw [if_pos (by omega)]; omega
    · split
      · have h0 : ∀ (j : Nat) (X : Int), 0 ≤ tailS b j X := by
          intro j
          induction j with
          | zero => intro X; simp [tailS]
          | succ j ihj => intro X; unfold tailS; split
                          · have := ihj (X - b); omega
                          · omega
        have := h0 k (V - b)
        omega
      · omega
theorem tailS_fuel (b : Int) (hb : 1 ≤ b) : ∀ (k j : Nat) (V : Int), V ≤ k → V ≤ j → tailS b k V = tailS b j V
  | 0, j, V, h, _ => by rw [tailS_no b j V (by omega)]; rfl
  | k + 1, 0, V, _, h => by rw [tailS_no b (k + 1) V (by omega)]; rfl
  | k + 1, j + 1, V, h, h' => by
    unfold tailS
    split
    · rw [tailS_fuel b hb k j (V - b) (by omega) (by omega)]
    · rfl
/-- one step of a forced train: what it runs on is its next speed and what it runs on from there -/
theorem stp_step (b V : Int) (hb : 1 ≤ b) (h : V ≤ 60) (h0 : 0 ≤ V) : stp b V = max 0 (V - b) + stp b (max 0 (V - b)) := by
  unfold stp
  by_cases hp : 0 < V - b
  · rw [show max 0 (V - b) = V - b from by omega]
    obtain ⟨j, hj, hs⟩ := tailS_pos b 60 (V - b) hp (by omega)
    rw [hs, tailS_fuel b hb j 60 (V - b - b) (by omega) (by omega)]
  · rw [show max 0 (V - b) = 0 from by omega, tailS_no b 60 (V - b) hp, tailS_no b 60 (0 - b) (by omega)]; rfl
theorem stp_zero (b : Int) (hb : 1 ≤ b) : stp b 0 = 0 := by unfold stp; rw [tailS_no b 60 (0 - b) (by omega)]
theorem stp_mono (b b' v w : Int) (hb : b ≤ b') (hb1 : 1 ≤ b) (h : v ≤ w) : stp b' v ≤ stp b w := tailS_mono b b' hb hb1 60 _ _ (by omega)

theorem hld_mono (v w lo hi : Int) (h : v ≤ w) : hld v lo hi ≤ hld w lo hi := by unfold hld; omega
theorem nxt_forced_val (t a b v want : Int) (ht : 1 ≤ t) (hb : 1 ≤ b) : nxt t a b v want true = max 0 (hld v 0 t - b) := by
  have hw : wnt a b want true = -b := rfl
  have q := hld_bd v 0 t (by omega)
  unfold nxt
  rw [hw]
  show max 0 (min (hld v 0 t + -b) t) = _
  omega
theorem nxt_mono (t a b v w want : Int) (f : Bool) (h : v ≤ w) : nxt t a b v want f ≤ nxt t a b w want f := by
  unfold nxt
  have := hld_mono v w 0 t h
  exact hld_mono _ _ _ _ (by omega)
theorem nxt_forced_le (t a b v want : Int) (ha : 1 ≤ a) (hb : 1 ≤ b) : nxt t a b v want true ≤ nxt t a b v want false := by
  unfold nxt
  have h1 : wnt a b want true = -b := rfl
  have h2 := wnt_bd a b want false ha hb
  exact hld_mono _ _ _ _ (by omega)
theorem tck_mono (t b v w : Int) (hb : 1 ≤ b) (h : v ≤ w) : tck t b v ≤ tck t b w := by
  unfold tck
  have := hld_mono v w 0 t h
  exact Int.ediv_le_ediv (by omega) (by omega)
theorem stopD_mono (t b b' v w : Int) (hb : b ≤ b') (hb1 : 1 ≤ b) (h : v ≤ w) : stopD t b' v ≤ stopD t b w := by
  unfold stopD; exact stp_mono _ _ _ _ hb hb1 (hld_mono _ _ _ _ h)
theorem acc_mono (t a b v w : Int) (h : hld v 0 t ≤ hld w 0 t) : acc t a b v ≤ acc t a b w := by
  unfold acc nxt; exact hld_mono _ _ _ _ (by omega)
theorem rch_mono (t a b : Int) : ∀ (k : Nat) (v w : Int), hld v 0 t ≤ hld w 0 t → rch t a b k v ≤ rch t a b k w
  | 0, _, _, _ => by simp [rch]
  | k + 1, v, w, h => by
    have h1 := acc_mono t a b v w h
    have h2 := rch_mono t a b k _ _ (hld_mono _ _ 0 t h1)
    simp only [rch]; omega
/-- whatever one wants, one is no faster than by wanting most -/
theorem nxt_le_acc (t a b u v want : Int) (f : Bool) (ha : 1 ≤ a) (hb : 1 ≤ b) (h : hld u 0 t ≤ hld v 0 t) : nxt t a b u want f ≤ acc t a b v := by
  unfold acc nxt
  have h1 := wnt_bd a b want f ha hb
  have h2 : wnt a b a false = a := by unfold wnt hld; simp; omega
  rw [h2]
  exact hld_mono _ _ _ _ (by omega)

/-- what Keeps finds: in its bounds; it keeps within the room or is the least; one more is too much or it is the most -/
theorem kpF_law (t b room L : Int) : ∀ (k : Nat) (X : Int), X = L + k →
    L ≤ kpF t b room k X ∧ kpF t b room k X ≤ X ∧ (kpF t b room k X + stopD t b (kpF t b room k X) ≤ room ∨ kpF t b room k X = L) ∧
    (kpF t b room k X = X ∨ ¬ (kpF t b room k X + 1 + stopD t b (kpF t b room k X + 1) ≤ room))
  | 0, X, h => by simp [kpF]; omega
  | k + 1, X, h => by
    unfold kpF
    split
    · rename_i hr
      refine ⟨by omega, by omega, .inl hr, .inl rfl⟩
    · rename_i hr
      have ih := kpF_law t b room L k (X - 1) (by omega)
      obtain ⟨i1, i2, i3, i4⟩ := ih
      refine ⟨i1, by omega, i3, .inr ?_⟩
      rcases i4 with i4 | i4
      · rw [i4, show X - 1 + 1 = X from by omega]; exact hr
      · exact i4
theorem kps_law (t a b v room : Int) (ht : 1 ≤ t) (ha : 1 ≤ a) (hb : 1 ≤ b) :
    nxt t a b v (-b) false ≤ kps t a b v room ∧ kps t a b v room ≤ nxt t a b v a false ∧ (kps t a b v room + stopD t b (kps t a b v room) ≤ room ∨ kps t a b v room = nxt t a b v (-b) false) ∧
    (kps t a b v room = nxt t a b v a false ∨ ¬ (kps t a b v room + 1 + stopD t b (kps t a b v room + 1) ≤ room)) := by
  have hl := nxt_least t a b v ha hb ht
  exact kpF_law t b room (nxt t a b v (-b) false) _ _ (by omega)

theorem nxt_brake (t a b v : Int) (ht : 1 ≤ t) (ha : 1 ≤ a) (hb : 1 ≤ b) : nxt t a b v (-b) false = max 0 (hld v 0 t - b) := by
  have h1 : wnt a b (-b) false = -b := by unfold wnt hld; simp; omega
  have q := hld_bd v 0 t (by omega)
  unfold nxt
  rw [h1]
  show max 0 (min (hld v 0 t + -b) t) = _
  omega
theorem acc_val (t a b v : Int) (ht : 1 ≤ t) (ha : 1 ≤ a) (hb : 1 ≤ b) : acc t a b v = min t (hld v 0 t + a) := by
  have h2 : wnt a b a false = a := by unfold wnt hld; simp; omega
  have q := hld_bd v 0 t (by omega)
  unfold acc nxt
  rw [h2]
  show max 0 (min (hld v 0 t + a) t) = _
  omega

/-- who can stop within the room, and goes by Keeps, can do so still -/
theorem kept_step (t a b v left : Int) (ht : 1 ≤ t ∧ t ≤ 60) (ha : 1 ≤ a) (hb : 1 ≤ b) (h0 : 0 ≤ v) (h1 : v ≤ t) (hs : stopD t b v ≤ left) :
    kps t a b v left + stopD t b (kps t a b v left) ≤ left ∧ kps t a b v left ≤ v + a ∧ v - b ≤ kps t a b v left ∧ 0 ≤ kps t a b v left ∧ kps t a b v left ≤ t := by
  obtain ⟨k1, k2, k3, _⟩ := kps_law t a b v left ht.1 ha hb
  have e1 := nxt_brake t a b v ht.1 ha hb
  have e2 := acc_val t a b v ht.1 ha hb
  have hv : hld v 0 t = v := hld_id _ _ _ h0 h1
  rw [hv] at e1 e2
  have e2' : nxt t a b v a false = min t (v + a) := e2
  refine ⟨?_, by omega, by omega, by omega, by omega⟩
  rcases k3 with k3 | k3
  · exact k3
  · rw [k3, e1]
    unfold stopD at hs ⊢
    rw [hv] at hs
    rw [hld_id (max 0 (v - b)) 0 t (by omega) (by omega)]
    have := stp_step b v hb (by omega) h0
    omega

/-- Least: far enough, and no sooner -/
theorem lstF_law (t a b tgt : Int) (ht : 1 ≤ t) (ha : 1 ≤ a) (hb : 1 ≤ b) : ∀ (k : Nat) (v w : Int), tgt - w ≤ k → ∃ n : Nat, lstF t a b tgt k v w = n ∧ tgt ≤ w + rch t a b n v ∧ (n = 0 ∨ (∃ m : Nat, n = m + 1 ∧ w + rch t a b m v < tgt)) ∧ (n : Int) ≤ max 0 (tgt - w)
  | 0, v, w, h => ⟨0, rfl, by simp [rch]; omega, .inl rfl, by omega⟩
  | k + 1, v, w, h => by
    by_cases hp : tgt ≤ w
    · exact ⟨0, by simp [lstF, hp], by simp [rch]; omega, .inl rfl, by omega⟩
    · have hb' := acc_bd t a b v ht ha hb
      obtain ⟨n, e, h1, h2, h3⟩ := lstF_law t a b tgt ht ha hb k (acc t a b v) (w + acc t a b v) (by omega)
      refine ⟨n + 1, ?_, ?_, .inr ⟨n, rfl, ?_⟩, by omega⟩
      · simp only [lstF, if_neg hp, e]; omega
      · simp only [rch]; omega
      · rcases h2 with h2 | ⟨m, hm, h2⟩
        · subst h2; simp [rch]; omega
        · subst hm; simp only [rch]; omega
end Go.Proofs.YtaanepadgoefhaaGreatDoor
namespace Go.Proofs.YtaanepadgoefhaaGreatDoor
open Go.ChangeShapes Go.WideShapes Go.ChangeAt Go.RowKit Go.Maps
set_option linter.unusedVariables false
set_option linter.unusedSimpArgs false
theorem laidOutAll : laidOutB Tryz.prog = true := by kernel_rfl
theorem prt_row : (68 : TypeId) < Tryz.prog.types.size := of_decide_eq_true (by kernel_rfl)
theorem prt_wide : (match Tryz.prog.underlying 68 with | some (.array _ _) | some (.struct _) => true | _ => false) = true := by rw [Tryz.underlying68]
theorem prt_keyed : Keyed Tryz.prog 68 := Keyed.of_law (deep_law_laid laidOutAll (m := 2) (by omega) prt_row (by kernel_rfl) (by rw [Tryz.underlying68]))
theorem str_keyed : Keyed Tryz.prog 9 := string_keyed Tryz.underlying9
theorem int_key : Keyed Tryz.prog 3 := int_keyed Tryz.underlying3
theorem prt_cells : Tryz.prog.cellsOf 68 = 2 := by kernel_rfl
theorem prt_types : ∃ n, Tryz.prog.types.size + 1 = n + 2 := by
  have h : (68 : Nat) < Tryz.prog.types.size := prt_row
  generalize Tryz.prog.types.size = z at *
  exact ⟨z - 1, by omega⟩
theorem prt_ktype : Tryz.prog.keyType 68 = true := by kernel_rfl
theorem int_cells : Tryz.prog.cellsOf 3 = 1 := by kernel_rfl
theorem prt_key (x : Prt) (wa : (Lit.int .i64 x.e).wf = true) (wb : (Lit.int .i64 x.x).wf = true) : ∃ kl, keyOf Tryz.prog 68 x.v = some kl := by
  obtain ⟨a, b⟩ := x
  obtain ⟨n, hn⟩ := prt_types
  unfold keyOf Prt.v
  rw [hn]
  simp [Tryz.underlying68, Value.formed, prt_cells, prt_ktype, Program.keyLits, Tryz.underlying3, int_cells, Value.cells, mapKey, wa, wb]
end Go.Proofs.YtaanepadgoefhaaGreatDoor
namespace Go.Proofs.YtaanepadgoefhaaGreatDoor
open Go.ChangeShapes Go.WideShapes Go.ChangeAt Go.RowKit
set_option linter.unusedVariables false
set_option linter.unusedSimpArgs false
theorem strs_at {w : World} {A : List ByteArray} {a : Option Addr} {c : Nat} (h : IsVals w (.slice a A.length c) (A.map Value.string)) (k : Nat) (hk : k < A.length) :
    ∃ b o, a = some ⟨b, o, none⟩ ∧ b < w.heap.size ∧ w.cell? ⟨b, o + k, none⟩ = some (.string A[k]) := by
  obtain ⟨a', c', e, _, hx⟩ := h
  simp only [Value.slice.injEq] at e
  obtain ⟨rfl, -, rfl⟩ := e
  rcases hx with hx | ⟨b, o, rfl, hb, hc⟩
  · exfalso
    have := congrArg List.length hx
    simp at this
    rw [this] at hk
    simp at hk
  · exact ⟨b, o, rfl, hb, hc k _ (by rw [List.getElem?_map, List.getElem?_eq_getElem hk]; rfl)⟩
theorem bytes_eq {a b : ByteArray} (h : ¬ a = b) : (a.toList == b.toList) = false := by
  rw [beq_eq_false_iff_ne]
  intro e
  rw [ByteArray.toList_eq, ByteArray.toList_eq] at e
  exact h (ByteArray.ext (Array.toList_inj.1 e))
theorem twice_yes {l : List ByteArray} {i k : Nat} (hi : i < l.length) (hk : k < i) (h : l[i] = l[k]'(by omega)) : twiceB l = true := by
  unfold twiceB
  simp only [Bool.not_eq_true', decide_eq_false_iff_not]
  intro hn
  have := List.pairwise_iff_getElem.1 hn k i (by omega) hi hk
  exact this h.symm
theorem twice_no {l : List ByteArray} (h : ∀ i k (hi : i < l.length) (hk : k < i), l[i] ≠ l[k]'(by omega)) : twiceB l = false := by
  unfold twiceB
  simp only [Bool.not_eq_false', decide_eq_true_eq]
  exact List.pairwise_iff_getElem.2 fun i j hi hj hij e => h j i hj hij e.symm

set_option maxRecDepth 100000 in
theorem refTwice_any (v : Value) (L : List ByteArray) (w : World) (hv : IsVals w v (L.map Value.string)) :
    Calls Tryz.prog 81 #[v] w fun e w' => e = .returned (.bool (twiceB L)) ∧ Gr w w' := by
  have hv' := hv
  obtain ⟨a, c, rfl, hm, -⟩ := hv
  simp only [List.length_map] at hv' hm ⊢
  unfold maxLen at hm
  have HV := Lib.hid hv'
  clear hv'
  go_enter Tryz.func81, Tryz.ntmps81
  go_wp2_with fail
  go_loopg [2, 3, 4] L.length (fun gh _ x2 _ wr => ∃ i : Nat, i + gh = L.length ∧ x2 = .int .i64 i ∧ Hid (∀ p q (hp : p < L.length) (hq : q < p), p < i → L[p] ≠ L[q]'(by omega)) ∧ Gr w wr)
  case atStart => exact ⟨0, by omega, rfl, fun p q _ _ h => by omega, Gr.refl _⟩
  case round =>
    obtain ⟨i, hig, rfl, HA, g⟩ := hrel
    have HIG := Lib.hid hig
    clear hig
    by_cases hlt : i < L.length
    · have i1 : (i : Int) < (L.length : Int) := by omega
      go_wp2_with fail
      go_loopg [4] i (fun g2 x3 wy => ∃ k : Nat, k + g2 = i ∧ x3 = .int .i64 k ∧ Hid (∀ q (hq : q < i), q < k → L[i] ≠ L[q]'(by omega)) ∧ Gr w wy)
      case atStart => exact ⟨0, by omega, rfl, fun q _ h => by omega, g⟩
      case round =>
        obtain ⟨k, hkg, rfl, HB, g3⟩ := hrel
        have HKG := Lib.hid hkg
        clear hkg
        by_cases hk : k < i
        · have k1 : (k : Int) < (i : Int) := by omega
          obtain ⟨b1, o1, rfl, z1, c1⟩ := strs_at (HV.out.gr g3) i hlt
          obtain ⟨b2, o2, e2, z2, c2⟩ := strs_at (HV.out.gr g3) k (by omega)
          simp only [Option.some.injEq, Addr.mk.injEq, and_true] at e2
          obtain ⟨rfl, rfl⟩ := e2
          by_cases he : L[i] = L[k]
          · have HR := Lib.hid (twice_yes hlt hk he)
            rw [he] at c1
            clear he HA HB
            generalize L[k] = y at *
            go_wp2_with fail
            go_quiet (fail)
            go_wp2
            try rw [Exit.noGoto_ret]
            go_ret
            exact ⟨ret_bool HR.out.symm, by first | exact g3.drewN _ | exact g3⟩
          · have hs := bytes_eq he
            have HB' : Hid (∀ q (hq : q < i), q < k + 1 → L[i] ≠ L[q]'(by omega)) := by
              intro q hq h
              by_cases e : q = k
              · subst e; exact he
              · exact HB.out q hq (by omega)
            clear he HB
            obtain ⟨x, hx⟩ : ∃ x, x = L[i] := ⟨_, rfl⟩
            obtain ⟨y, hy⟩ : ∃ y, y = L[k] := ⟨_, rfl⟩
            rw [← hx] at c1 hs
            rw [← hy] at c2 hs
            clear hx hy
            go_wp2_with fail
            go_quiet (fail)
            go_wp2
            go_roundg (i - (k + 1))
            case measure => have := HKG.out; omega
            case rel => exact ⟨k + 1, by have := HKG.out; omega, by go_num, HB'.out, by first | exact g3.drewN _ | exact g3⟩
        · have HA' : Hid (∀ p q (hp : p < L.length) (hq : q < p), p < i + 1 → L[p] ≠ L[q]'(by omega)) := by
            intro p q hp hq h
            by_cases e : p = i
            · subst e; exact HB.out q hq (by omega)
            · exact HA.out p q hp hq (by omega)
          clear HA HB
          go_wp2
          go_roundg (L.length - (i + 1))
          case measure => have := HIG.out; omega
          case rel => exact ⟨i + 1, by have := HIG.out; omega, by go_num, HA'.out, g3⟩
    · have HR := Lib.hid (twice_no fun p q hp hq => HA.out p q hp hq (by omega))
      clear HA
      go_wp2
      go_ret
      exact ⟨ret_bool HR.out.symm, g⟩
end Go.Proofs.YtaanepadgoefhaaGreatDoor
namespace Go.Proofs.YtaanepadgoefhaaGreatDoor
open Go.ChangeShapes Go.WideShapes Go.ChangeAt Go.RowKit
set_option linter.unusedVariables false
set_option linter.unusedSimpArgs false
theorem ints_at {w : World} {A : List Int} {a : Option Addr} {c : Nat} (h : IsVals w (.slice a A.length c) (A.map (Value.int .i64))) (k : Nat) (hk : k < A.length) :
    ∃ b o, a = some ⟨b, o, none⟩ ∧ b < w.heap.size ∧ w.cell? ⟨b, o + k, none⟩ = some (.int .i64 A[k]) := by
  obtain ⟨a', c', e, _, hx⟩ := h
  simp only [Value.slice.injEq] at e
  obtain ⟨rfl, -, rfl⟩ := e
  rcases hx with hx | ⟨b, o, rfl, hb, hc⟩
  · exfalso
    have := congrArg List.length hx
    simp at this
    rw [this] at hk
    simp at hk
  · exact ⟨b, o, rfl, hb, hc k _ (by rw [List.getElem?_map, List.getElem?_eq_getElem hk]; rfl)⟩
theorem refWithin_any (n lo hi : Int) (w : World) : Calls Tryz.prog 112 #[.int .i64 n, .int .i64 lo, .int .i64 hi] w fun e w' => e = .returned (.bool (inB n lo hi)) ∧ w' = w := by
  by_cases h : lo ≤ n
  · have HN : Hid (inB n lo hi = decide (n ≤ hi)) := by unfold Hid inB; simp [h]
    go_enter Tryz.func112, Tryz.ntmps112
    go_wp2
    go_ret
    exact ⟨ret_bool (by rw [HN.out]), rfl⟩
  · have HN : Hid (inB n lo hi = false) := by unfold Hid inB; simp [h]
    go_enter Tryz.func112, Tryz.ntmps112
    go_wp2
    go_ret
    exact ⟨ret_bool (by rw [HN.out]), rfl⟩
theorem refIn_any (v : Value) (L : List Int) (n : Int) (w : World) (hv : IsVals w v (L.map (Value.int .i64))) :
    Calls Tryz.prog 114 #[v, .int .i64 n] w fun e w' => e = .returned (.bool (decide (n ∈ L))) ∧ Gr w w' := by
  have hv' := hv
  obtain ⟨a, c, rfl, hm, -⟩ := hv
  simp only [List.length_map] at hv' hm ⊢
  unfold maxLen at hm
  have HV := Lib.hid hv'
  clear hv'
  go_enter Tryz.func114, Tryz.ntmps114
  go_wp2_with fail
  go_loopg [4, 5] L.length (fun gh _ x wr => ∃ i : Nat, i + gh = L.length ∧ x = .int .i64 i ∧ Hid (∀ p (hp : p < L.length), p < i → L[p] ≠ n) ∧ Gr w wr)
  case atStart => exact ⟨0, by omega, rfl, fun p _ h => by omega, Gr.refl _⟩
  case round =>
    obtain ⟨i, hig, rfl, HA, g⟩ := hrel
    have HIG := Lib.hid hig
    clear hig
    by_cases hlt : i < L.length
    · have i1 : (i : Int) < (L.length : Int) := by omega
      obtain ⟨b, o, rfl, z, cx⟩ := ints_at (HV.out.gr g) i hlt
      by_cases he : L[i] = n
      · have HR : Hid (decide (n ∈ L) = true) := by unfold Hid; simp only [decide_eq_true_eq]; rw [← he]; exact List.getElem_mem hlt
        have t1 : (L[i] == n) = true := by simpa using he
        clear he HA
        go_wp2
        go_ret
        exact ⟨ret_bool HR.out.symm, g⟩
      · have t1 : (L[i] == n) = false := by simpa using he
        have HA' : Hid (∀ p (hp : p < L.length), p < i + 1 → L[p] ≠ n) := by
          intro p hp h
          by_cases e : p = i
          · subst e; exact he
          · exact HA.out p hp (by omega)
        clear he HA
        go_wp2
        go_roundg (L.length - (i + 1))
        case measure => have := HIG.out; omega
        case rel => exact ⟨i + 1, by have := HIG.out; omega, by go_num, HA'.out, g⟩
    · have HR : Hid (decide (n ∈ L) = false) := by
        unfold Hid
        simp only [decide_eq_false_iff_not]
        intro hm
        obtain ⟨p, hp, e⟩ := List.mem_iff_getElem.1 hm
        exact HA.out p hp (by omega) e
      clear HA
      go_wp2
      go_ret
      exact ⟨ret_bool HR.out.symm, g⟩
end Go.Proofs.YtaanepadgoefhaaGreatDoor
namespace Go.Proofs.YtaanepadgoefhaaGreatDoor
open Go.ChangeShapes Go.WideShapes Go.ChangeAt Go.RowKit
set_option linter.unusedVariables false
set_option linter.unusedSimpArgs false
/-- the plan lies in its box -/
def PBox (w : World) (b : Nat) (P : Pln) (e j s l : Value) : Prop :=
  b < w.heap.size ∧ w.cell? ⟨b, 0, none⟩ = some e ∧ w.cell? ⟨b, 1, none⟩ = some j ∧ w.cell? ⟨b, 2, none⟩ = some s ∧ w.cell? ⟨b, 3, none⟩ = some l ∧ w.cell? ⟨b, 4, none⟩ = some (.int .i64 P.top) ∧
    w.cell? ⟨b, 5, none⟩ = some (.int .i64 P.brake) ∧ w.cell? ⟨b, 6, none⟩ = some (.int .i64 P.margin) ∧ w.cell? ⟨b, 7, none⟩ = some (.int .i64 P.throw) ∧ w.cell? ⟨b, 8, none⟩ = some (.bool P.hard)
theorem PBox.gr {w w' : World} {b : Nat} {P : Pln} {e j s l : Value} (h : PBox w b P e j s l) (g : Gr w w') : PBox w' b P e j s l := by
  obtain ⟨hb, c0, c1, c2, c3, c4, c5, c6, c7, c8⟩ := h
  refine ⟨Nat.lt_of_lt_of_le hb g.size, ?_, ?_, ?_, ?_, ?_, ?_, ?_, ?_, ?_⟩ <;> (rw [g.cell _ _ hb]; assumption)
theorem PBox.drewN {w : World} {b : Nat} {P : Pln} {e j s l : Value} (h : PBox w b P e j s l) (n : Nat) : PBox (w.drewN n) b P e j s l := h.gr ((Gr.refl w).drewN n)
theorem PBox.drew {w : World} {b : Nat} {P : Pln} {e j s l : Value} (h : PBox w b P e j s l) : PBox w.drew b P e j s l := h.gr ((Gr.refl w).drew)
theorem PBox.load {w : World} {b : Nat} {P : Pln} {e j s l : Value} (h : PBox w b P e j s l) : (Instr.loadAt 27 (.pointer (some ⟨b, 0, none⟩))).run Tryz.prog w = .ok (plnV P e j s l) w := by
  obtain ⟨hb, c0, c1, c2, c3, c4, c5, c6, c7, c8⟩ := h
  exact run_loadAt_mid w b 0 27 [e, j, s, l, .int .i64 P.top, .int .i64 P.brake, .int .i64 P.margin, .int .i64 P.throw, .bool P.hard] _ (fun i v h => by
    match i, h with
    | 0, h => cases h; exact c0
    | 1, h => cases h; exact c1
    | 2, h => cases h; exact c2
    | 3, h => cases h; exact c3
    | 4, h => cases h; exact c4
    | 5, h => cases h; exact c5
    | 6, h => cases h; exact c6
    | 7, h => cases h; exact c7
    | 8, h => cases h; exact c8) Tryz.underlying27 rfl (by kernel_rfl)
theorem PBox.new (w : World) (P : Pln) (e j s l : Value) : PBox (w.alloc (.cells #[e, j, s, l, .int .i64 P.top, .int .i64 P.brake, .int .i64 P.margin, .int .i64 P.throw, .bool P.hard] 27)) w.heap.size P e j s l := by
  refine ⟨by simp, ?_, ?_, ?_, ?_, ?_, ?_, ?_, ?_, ?_⟩ <;> (rw [World.cell?_alloc_mark]; rfl)
/-- what a region holds of a plan's box -/
def PS (w : World) (b : Nat) (P : Pln) (e j s l : Value) (w' : World) : Prop :=
  Gr w w' ∧ PBox w' b P e j s l ∧ (Instr.loadAt 27 (.pointer (some ⟨b, 0, none⟩))).run Tryz.prog w' = .ok (plnV P e j s l) w'
theorem PS.of {w w' : World} {b : Nat} {P : Pln} {e j s l : Value} (g : Gr w w') (h : PBox w' b P e j s l) : PS w b P e j s l w' := ⟨g, h, h.load⟩
theorem PS.gr {w w1 w2 : World} {b : Nat} {P : Pln} {e j s l : Value} (h : PS w b P e j s l w1) (g : Gr w1 w2) : PS w b P e j s l w2 := PS.of (h.1.trans g) (h.2.1.gr g)
theorem PS.drew {w w1 : World} {b : Nat} {P : Pln} {e j s l : Value} (h : PS w b P e j s l w1) : PS w b P e j s l w1.drew := h.gr ((Gr.refl _).drew)
theorem PBox.ps {w w' : World} {b : Nat} {P : Pln} {e j s l : Value} (h : PBox w' b P e j s l) (g : Gr w w') : PS w b P e j s l w' := PS.of g h
/-- the plan's value anew -/
theorem IsPln.mk {w w' : World} {P : Pln} {a1 a2 a3 a4 : Option Addr} {c1 c2 c3 c4 : Nat} (h1 : IsEles w (.slice a1 P.es.length c1) P.es) (h2 : IsJns w (.slice a2 P.js.length c2) P.js) (h3 : IsSgs w (.slice a3 P.ss.length c3) P.ss) (h4 : IsLns w (.slice a4 P.ls.length c4) P.ls) (g : Gr w w') :
    IsPln w' (.agg #[.slice a1 P.es.length c1, .slice a2 P.js.length c2, .slice a3 P.ss.length c3, .slice a4 P.ls.length c4, .int .i64 P.top, .int .i64 P.brake, .int .i64 P.margin, .int .i64 P.throw, .bool P.hard]) P :=
  ⟨a1, c1, a2, c2, a3, c3, a4, c4, rfl, h1.gr g, h2.gr g, h3.gr g, h4.gr g⟩
end Go.Proofs.YtaanepadgoefhaaGreatDoor
