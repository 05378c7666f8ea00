/- DrY: Lines of a plan's text: sizes of what they tell; the errors are errors. Plain.
DgN: The signal, the element of a name: the program's and the reference's. -/
import Derived.Test.YtknmngejjoohdaaGreatDoorRows
import Derived.Test.YtknmngejjoohdaaGreatDoorB20
import Derived.Test.YtknmngejjoohdaaGreatDoorB2
import Derived.Test.YtknmngejjoohdaaGreatDoorB16
import Derived.Test.YtknmngejjoohdaaGreatDoorB19
import Derived.Test.YtknmngejjoohdaaGreatDoorB17
import Derived.Test.YtknmngejjoohdaaGreatDoorB18
namespace Go.Proofs.YtknmngejjoohdaaGreatDoor
open Go.ChangeShapes Go.WideShapes Go.ChangeAt Go.RowKit Go.Maps
set_option linter.unusedVariables false
set_option linter.unusedSimpArgs false
def portO (P : Pln) (s : ByteArray) : Option Prt := if portB s = true then portP P s else none
structure SzP (n : Nat) (P : Pln) : Prop where
  ok : PlnOk P
  es : P.es.length ≤ n
  js : P.js.length ≤ n
  ss : P.ss.length ≤ n
  ls : P.ls.length ≤ n
  fl : (P.ls.flatMap (·.es)).length ≤ n
def SzO (n : Nat) (S : Option Pln) : Prop := ∀ P, S = some P → SzP n P
theorem SzO.none (n : Nat) : SzO n none := fun P h => by cases h
theorem numN5_bd (s : ByteArray) : 0 ≤ numN s 5 ∧ numN s 5 ≤ 99999 := by
  unfold numN
  by_cases h : numB s 5 = true
  · rw [if_pos h]
    have h' := (numB_iff s 5).1 h
    obtain ⟨-, -, -, h4, -, h6⟩ := h'
    have hb := nvB_bd s s.size h6
    refine ⟨hb.1, ?_⟩
    have hp : (10 : Int) ^ s.size ≤ 10 ^ 5 := by
      have : (10 : Nat) ^ s.size ≤ 10 ^ 5 := Nat.pow_le_pow_right (by omega) (by omega)
      exact_mod_cast this
    have : (10 : Int) ^ 5 = 100000 := by decide
    omega
  · rw [if_neg h]; omega
theorem num5_ok (s : ByteArray) : I64 (numN s 5) := by have := numN5_bd s; exact I64_of (by omega) (by omega)
theorem pln0_ok : PlnOk pln0 := ⟨fun e h => (by cases h), fun e h => (by cases h), fun e h => (by cases h), fun e h => (by cases h), by refine ⟨?_, ?_, ?_, ?_⟩ <;> exact I64_of (by decide) (by decide)⟩
theorem SzP.zero : SzP 0 pln0 := ⟨pln0_ok, Nat.le_refl _, Nat.le_refl _, Nat.le_refl _, Nat.le_refl _, Nat.le_refl _⟩
theorem kindW_bd (v : ByteArray) : 0 ≤ kindW v ∧ kindW v ≤ 4 := by unfold kindW; repeat' split <;> omega
theorem portP_ok {P : Pln} {s : ByteArray} {x : Prt} (h : portP P s = some x) (hm : P.es.length ≤ 1000000) : I64 x.e ∧ I64 x.x := by
  unfold portP at h
  split at h
  · cases h
  · cases h
    have h1 : -1 ≤ eleN P (portNm s) ∧ eleN P (portNm s) < P.es.length := fstN_bd _ _
    have h2 := bt_nonneg s (s.size - 1)
    have h3 := bt_le s (s.size - 1)
    refine ⟨I64_of (by dsimp only; omega) (by dsimp only; omega), I64_of ?_ ?_⟩ <;> (dsimp only; unfold portEn; omega)
theorem head_sz {P : Pln} {h : Int × Int × Int × Int × Bool} {w : List ByteArray} {n : Nat} (hh : headW w = some h) (hz : SzP n P) : SzP n (withH P h) := by
  unfold headW at hh
  split at hh
  · split at hh
    · cases hh
      exact ⟨⟨hz.ok.es, hz.ok.js, hz.ok.ss, hz.ok.ls, num5_ok _, num5_ok _, num5_ok _, num5_ok _⟩, hz.es, hz.js, hz.ss, hz.ls, hz.fl⟩
    · cases hh
  · cases hh
theorem SzP.elem {P : Pln} {n m : Nat} (hz : SzP n P) (hm : n < m) {nm : ByteArray} (h : nm.size ≤ maxLen) {k l : Int} (hk : I64 k) (hl : I64 l) : SzP m { P with es := P.es ++ [⟨nm, k, l⟩] } := by
  refine ⟨⟨fun e he => ?_, hz.ok.js, hz.ok.ss, hz.ok.ls, hz.ok.nums⟩, ?_, ?_, ?_, ?_, ?_⟩
  · rcases List.mem_append.1 he with he | he
    · exact hz.ok.es e he
    · obtain rfl := List.mem_singleton.1 he
      exact ⟨hk, hl, h⟩
  · have := hz.es; simp; omega
  · have := hz.js; show _ ≤ _; dsimp only; omega
  · have := hz.ss; show _ ≤ _; dsimp only; omega
  · have := hz.ls; show _ ≤ _; dsimp only; omega
  · have := hz.fl; show _ ≤ _; dsimp only; omega
theorem SzP.join {P : Pln} {n m : Nat} (hz : SzP n P) (hm : n < m) {a b : Prt} (ha : I64 a.e ∧ I64 a.x) (hb : I64 b.e ∧ I64 b.x) : SzP m { P with js := P.js ++ [⟨a, b⟩] } := by
  refine ⟨⟨hz.ok.es, fun e he => ?_, hz.ok.ss, hz.ok.ls, hz.ok.nums⟩, ?_, ?_, ?_, ?_, ?_⟩
  · rcases List.mem_append.1 he with he | he
    · exact hz.ok.js e he
    · obtain rfl := List.mem_singleton.1 he
      exact ⟨ha.1, ha.2, hb.1, hb.2⟩
  · have := hz.es; show _ ≤ _; dsimp only; omega
  · have := hz.js; simp; omega
  · have := hz.ss; show _ ≤ _; dsimp only; omega
  · have := hz.ls; show _ ≤ _; dsimp only; omega
  · have := hz.fl; show _ ≤ _; dsimp only; omega
theorem SzP.signal {P : Pln} {n m : Nat} (hz : SzP n P) (hm : n < m) {a : Prt} (ha : I64 a.e ∧ I64 a.x) {nm : ByteArray} (h : nm.size ≤ maxLen) {b : Bool} : SzP m { P with ss := P.ss ++ [⟨nm, a, b⟩] } := by
  refine ⟨⟨hz.ok.es, hz.ok.js, fun e he => ?_, hz.ok.ls, hz.ok.nums⟩, ?_, ?_, ?_, ?_, ?_⟩
  · rcases List.mem_append.1 he with he | he
    · exact hz.ok.ss e he
    · obtain rfl := List.mem_singleton.1 he
      exact ⟨ha.1, ha.2, h⟩
  · have := hz.es; show _ ≤ _; dsimp only; omega
  · have := hz.js; show _ ≤ _; dsimp only; omega
  · have := hz.ss; simp; omega
  · have := hz.ls; show _ ≤ _; dsimp only; omega
  · have := hz.fl; show _ ≤ _; dsimp only; omega
theorem SzP.line {P : Pln} {n m : Nat} (hz : SzP n P) {l : Ln} (hm : n + l.es.length < m) (h : l.n.size ≤ maxLen) (he : ∀ e ∈ l.es, I64 e) : SzP m { P with ls := P.ls ++ [l] } := by
  refine ⟨⟨hz.ok.es, hz.ok.js, hz.ok.ss, fun e he' => ?_, hz.ok.nums⟩, ?_, ?_, ?_, ?_, ?_⟩
  · rcases List.mem_append.1 he' with he' | he'
    · exact hz.ok.ls e he'
    · obtain rfl := List.mem_singleton.1 he'
      exact ⟨h, he⟩
  · have := hz.es; show _ ≤ _; dsimp only; omega
  · have := hz.js; show _ ≤ _; dsimp only; omega
  · have := hz.ss; show _ ≤ _; dsimp only; omega
  · have := hz.ls; simp; omega
  · have := hz.fl
    simp only [List.flatMap_append, List.length_append, List.flatMap_cons, List.flatMap_nil, List.append_nil]
    omega
theorem row_sz {P Q : Pln} {w : List ByteArray} {n m : Nat} (h : rowW P w = .inr Q) (hz : SzP n P) (hn : n ≤ 1000000) (hm : n + w.length ≤ m) (hs : ∀ x ∈ w, x.size ≤ maxLen) : SzP m Q := by
  cases w with
  | nil => cases h
  | cons v t =>
    simp only [List.length_cons] at hm
    unfold rowW at h
    dsimp only at h
    split at h
    · -- an element
      unfold elemW at h
      split at h
      · rename_i v' nm he
        injection he with e1 e2
        subst e1 e2
        split at h
        · cases h; exact hz.elem (by omega) (hs nm (by simp)) (I64_of (by decide) (by decide)) (I64_of (by decide) (by decide))
        · cases h
      · rename_i v' nm d he
        injection he with e1 e2
        subst e1 e2
        split at h
        · cases h
          have := kindW_bd v
          exact hz.elem (by omega) (hs nm (by simp)) (I64_of (by omega) (by omega)) (num5_ok _)
        · cases h
      · cases h
    split at h
    · unfold joinW at h
      split at h
      · split at h
        · split at h
          · rename_i x y hx hy
            cases h
            exact hz.join (by omega) (portP_ok hx (by have := hz.es; omega)) (portP_ok hy (by have := hz.es; omega))
          · cases h
        · cases h
      · cases h
    split at h
    · have s3 : ∀ (nm p : ByteArray) (b : Bool), sig3 P nm p b = .inr Q → nm.size ≤ maxLen → SzP m Q := fun nm p b h hn' => by
        unfold sig3 at h
        split at h
        · split at h
          · rename_i x hx
            cases h
            exact hz.signal (by omega) (portP_ok hx (by have := hz.es; omega)) hn'
          · cases h
        · cases h
      unfold signalW at h
      split at h
      · rename_i v' nm p he
        injection he with e1 e2
        subst e1 e2
        exact s3 nm p false h (hs nm (by simp))
      · rename_i v' nm p q he
        injection he with e1 e2
        subst e1 e2
        split at h
        · exact s3 nm p true h (hs nm (by simp))
        · cases h
      · cases h
    split at h
    · unfold lineWd at h
      split at h
      · rename_i v' nm t' he
        injection he with e1 e2
        subst e1 e2
        split at h
        · cases h
        split at h
        · cases h
        · cases h
          simp only [List.length_cons] at hm
          refine hz.line (by simp; omega) (hs nm (by simp)) fun e he => ?_
          obtain ⟨s, -, rfl⟩ := List.mem_map.1 he
          have h1 : -1 ≤ eleN P s ∧ eleN P s < P.es.length := fstN_bd _ _
          have := hz.es
          exact I64_of (by omega) (by omega)
      · cases h
    · cases h
theorem SzP.mono {P : Pln} {n m : Nat} (h : SzP n P) (hm : n ≤ m) : SzP m P := ⟨h.ok, Nat.le_trans h.es hm, Nat.le_trans h.js hm, Nat.le_trans h.ss hm, Nat.le_trans h.ls hm, Nat.le_trans h.fl hm⟩
theorem takeT_sz {S S' : Option Pln} {x : ByteArray} {n : Nat} (h : takeT S x = .inr S') (hz : SzO n S) (hn : n ≤ 1000000) (hs : x.size ≤ 1048576) : SzO (n + x.size + 1) S' := by
  unfold takeT at h
  split at h
  · cases h; exact fun P hP => (hz P hP).mono (by omega)
  · cases hw : wdB x with
    | none => rw [hw] at h; cases h
    | some w =>
      rw [hw] at h
      dsimp only at h
      obtain ⟨-, w1, w2⟩ := wdS_ne hw
      have w3 : ∀ y ∈ w, y.size ≤ maxLen := fun y hy => by have := w2 y hy; unfold maxLen; omega
      unfold takeW at h
      cases S with
      | none =>
        dsimp only at h
        cases hh : headW w with
        | none => rw [hh] at h; cases h
        | some q =>
          rw [hh] at h
          cases h
          intro P hP
          cases hP
          exact (head_sz hh SzP.zero).mono (by omega)
      | some P =>
        dsimp only at h
        cases hr : rowW P w with
        | inl e => rw [hr] at h; cases h
        | inr Q =>
          rw [hr] at h
          cases h
          intro P' hP
          cases hP
          exact row_sz hr (hz P rfl) hn (by omega) w3
theorem elem_err {P : Pln} {e : Int} : ∀ {w : List ByteArray}, elemW P w = .inl e → e = 2
  | [], h => by cases h; rfl
  | [_], h => by cases h; rfl
  | [v, n], h => by
    have h : (if kindW v = 4 ∧ nmB n = true then .inr { P with es := P.es ++ [⟨n, 4, 0⟩] } else .inl 2 : Int ⊕ Pln) = .inl e := h
    split at h <;> cases h
    rfl
  | [v, n, d], h => by
    have h : (if kindW v ≠ 4 ∧ nmB n = true ∧ numB d 5 = true then .inr { P with es := P.es ++ [⟨n, kindW v, numN d 5⟩] } else .inl 2 : Int ⊕ Pln) = .inl e := h
    split at h <;> cases h
    rfl
  | _ :: _ :: _ :: _ :: _, h => by cases h; rfl
theorem join_err {P : Pln} {e : Int} : ∀ {w : List ByteArray}, joinW P w = .inl e → e = 2 ∨ e = 5
  | [], h => by cases h; exact .inl rfl
  | [_], h => by cases h; exact .inl rfl
  | [_, _], h => by cases h; exact .inl rfl
  | [v, a, b], h => by
    unfold joinW at h
    dsimp only at h
    split at h
    · split at h <;> cases h
      exact .inr rfl
    · cases h; exact .inl rfl
  | _ :: _ :: _ :: _ :: _, h => by cases h; exact .inl rfl
theorem sig3_err {P : Pln} {n p : ByteArray} {b : Bool} {e : Int} (h : sig3 P n p b = .inl e) : e = 2 ∨ e = 5 := by
  unfold sig3 at h
  split at h
  · split at h <;> cases h
    exact .inr rfl
  · cases h; exact .inl rfl
theorem signal_err {P : Pln} {e : Int} : ∀ {w : List ByteArray}, signalW P w = .inl e → e = 2 ∨ e = 5
  | [], h => by cases h; exact .inl rfl
  | [_], h => by cases h; exact .inl rfl
  | [_, _], h => by cases h; exact .inl rfl
  | [v, n, p], h => sig3_err h
  | [v, n, p, q], h => by
    have h : (if q = bAuto then sig3 P n p true else .inl 2 : Int ⊕ Pln) = .inl e := h
    split at h
    · exact sig3_err h
    · cases h; exact .inl rfl
  | _ :: _ :: _ :: _ :: _ :: _, h => by cases h; exact .inl rfl
theorem line_err {P : Pln} {e : Int} : ∀ {w : List ByteArray}, lineWd P w = .inl e → e = 2 ∨ e = 5
  | [], h => by cases h; exact .inl rfl
  | [_], h => by cases h; exact .inl rfl
  | v :: n :: t, h => by
    unfold lineWd at h
    dsimp only at h
    split at h
    · cases h; exact .inl rfl
    split at h
    · cases h; exact .inr rfl
    · cases h
theorem row_err {P : Pln} {w : List ByteArray} {e : Int} (h : rowW P w = .inl e) : e = 2 ∨ e = 5 := by
  cases w with
  | nil => cases h; exact .inl rfl
  | cons v t =>
    unfold rowW at h
    dsimp only at h
    split at h
    · exact .inl (elem_err h)
    split at h
    · exact join_err h
    split at h
    · exact signal_err h
    split at h
    · exact line_err h
    · cases h; exact .inl rfl
theorem takeT_err {S : Option Pln} {x : ByteArray} {e : Int} (h : takeT S x = .inl e) : e ≠ 0 := by
  unfold takeT at h
  split at h
  · cases h
  · cases hw : wdB x with
    | none => rw [hw] at h; cases h; decide
    | some w =>
      rw [hw] at h
      dsimp only at h
      unfold takeW at h
      cases S with
      | none =>
        dsimp only at h
        cases hh : headW w with
        | none => rw [hh] at h; cases h; decide
        | some q => rw [hh] at h; cases h
      | some P =>
        dsimp only at h
        cases hr : rowW P w with
        | inl e' =>
          rw [hr] at h
          cases h
          have := row_err hr
          omega
        | inr Q => rw [hr] at h; cases h
theorem unl_take {X : List ByteArray} {k : Nat} (hk : k < X.length) : (unl (X.take (k + 1))).size = (unl (X.take k)).size + X[k].size + 1 := by
  rw [List.take_succ_eq_append_getElem hk, unl_join]
  have h1 : (⟨#[10]⟩ : ByteArray).size = 1 := rfl
  have h2 : (⟨#[]⟩ : ByteArray).size = 0 := rfl
  unfold unl unl
  simp only [size_app, h1, h2]
  omega
theorem unl_take_le (X : List ByteArray) (k : Nat) : (unl (X.take k)).size ≤ (unl X).size := by
  have := congrArg ByteArray.size (unl_join (X.take k) (X.drop k))
  rw [List.take_append_drop, size_app] at this
  omega
theorem unl_lnB_size (s : ByteArray) : (unl (lnB s)).size ≤ s.size + 1 := by
  have h1 : (⟨#[10]⟩ : ByteArray).size = 1 := rfl
  rcases unl_lnB s with e | e
  · rw [e]; omega
  · rw [e, size_app, h1]; exact Nat.le_refl _
end Go.Proofs.YtknmngejjoohdaaGreatDoor
namespace Go.Proofs.YtknmngejjoohdaaGreatDoor
open Go.ChangeShapes Go.WideShapes Go.ChangeAt Go.RowKit Go.Maps
set_option linter.unusedVariables false
set_option linter.unusedSimpArgs false
def Sg.val (s : Sg) : Value := .agg #[.string s.n, .int .i64 s.at_.e, .int .i64 s.at_.x, .bool s.auto]
def Ele.val (e : Ele) : Value := .agg #[.string e.n, .int .i64 e.k, .int .i64 e.l]
theorem ele1_any (s : Ele) (n : ByteArray) (B : Nat) (w : World) (hb : B < w.heap.size) (hc : w.cell? ⟨B, 0, none⟩ = some (.string n)) :
    Calls Tryz.prog 135 #[s.val, .pointer (some ⟨B, 0, none⟩)] w fun e w' => e = .returned (.bool (decide (s.n = n))) ∧ Gr w w' := by
  obtain ⟨nm, ek, el⟩ := s
  unfold Ele.val
  dsimp only
  go_enter Tryz.func135, Tryz.ntmps135
  go_wp2_with fail
  go_ret
  exact ⟨ret_bool (str_dec _ _), (Gr.refl _).alloc _⟩
set_option maxHeartbeats 400000 in
theorem eleidx_any (L : List Ele) (p : Ele → Bool) (v cap : Value) (w : World) (hL : IsEles w v L)
    (hc : ∀ (w' : World), Gr w w' → ∀ (i : Nat) (hi : i < L.length), Calls Tryz.prog 135 #[L[i].val, cap] w' fun e w'' => e = .returned (.bool (p L[i])) ∧ Gr w' w'') :
    Calls Tryz.prog 134 #[v, .func (.func 135) #[] #[cap]] w fun e w' => e = .returned (.int .i64 (fstN p L)) ∧ Gr w w' := by
  have HL := Lib.hid hL
  obtain ⟨a, c, rfl, hm, -⟩ := hL
  unfold maxLen at hm
  have HC := Lib.hid hc
  clear hc
  go_enter Tryz.func134, Tryz.ntmps134
  go_wp2_with fail
  go_loopw [5, 8] (fun _ x wr => ∃ k : Nat, x = .int .i64 k ∧ k ≤ L.length ∧ Gr w wr ∧ Hid (∀ i (hi : i < L.length), i < k → p L[i] = false)) (fun _ x _ => L.length - (intOf x).toNat)
  case atStart => exact ⟨0, rfl, Nat.zero_le _, Gr.refl _, fun i _ h => by omega⟩
  case round =>
    obtain ⟨k, rfl, hk, g, HA⟩ := hrel
    by_cases hlt : k < L.length
    · have hk1 : (k : Int) < (L.length : Int) := by omega
      obtain ⟨bb, o, hs, z, y0, y1, y2⟩ := (IsEles.gr HL.out g).at k hlt
      subst hs
      have HP := Lib.hid (fun w' (h : Gr w w') => HC.out w' h k hlt)
      have HY : Hid (p L[k] = true → fstN p L = k) := fun h => fstN_go p hlt h fun i hi hik => HA.out i hi hik
      have HN : Hid (p L[k] = false → ∀ i (hi : i < L.length), i < k + 1 → p L[i] = false) := fun h i hi hik => by
        by_cases e : i = k
        · subst e; exact h
        · exact HA.out i hi (by omega)
      clear HA
      generalize p L[k] = q at HP HY HN
      generalize L[k] = s at y0 y1 y2 HP
      obtain ⟨nm, ek, el⟩ := s
      unfold Ele.val at HP
      dsimp only at y0 y1 y2 HP
      skip
      cases q
      · have HN2 := Lib.hid (HN.out rfl)
        clear HY HN
        go_wp2_with (first | (go_at_call 135; (with_reducible refine (HP.out _ g).mono ?_); rintro e w2 ⟨rfl, g2⟩) | fail)
        go_roundw
        case rel => exact ⟨k + 1, by go_num, hlt, g.trans g2, HN2.out⟩
        case measure => simp [intOf]; omega
      · have HY2 := Lib.hid (HY.out rfl)
        clear HY HN
        go_wp2_with (first | (go_at_call 135; (with_reducible refine (HP.out _ g).mono ?_); rintro e w2 ⟨rfl, g2⟩) | fail)
        go_ret
        exact ⟨ret_int HY2.out.symm, g.trans g2⟩
    · have hk1 : ¬ (k : Int) < (L.length : Int) := by omega
      have HR := Lib.hid (fstN_no p fun i hi => HA.out i hi (by omega))
      go_wp2_with fail
      go_ret
      exact ⟨ret_int HR.out.symm, g⟩
set_option maxHeartbeats 400000 in
theorem ele_any (v : Value) (P : Pln) (n : ByteArray) (w : World) (hP : IsPln w v P) :
    Calls Tryz.prog 71 #[v, .string n] w fun e w' => e = .returned (.int .i64 (eleN P n)) ∧ Gr w w' := by
  obtain ⟨a1, c1, a2, c2, a3, c3, a4, c4, rfl, h1, h2, h3, h4⟩ := hP
  have g1 : Gr w (w.alloc (.cells #[.slice a1 P.es.length c1, .slice a2 P.js.length c2, .slice a3 P.ss.length c3, .slice a4 P.ls.length c4, .int .i64 P.top, .int .i64 P.brake, .int .i64 P.margin, .int .i64 P.throw, .bool P.hard] 28)) := (Gr.refl _).alloc _
  have g0 : Gr w ((w.alloc (.cells #[.slice a1 P.es.length c1, .slice a2 P.js.length c2, .slice a3 P.ss.length c3, .slice a4 P.ls.length c4, .int .i64 P.top, .int .i64 P.brake, .int .i64 P.margin, .int .i64 P.throw, .bool P.hard] 28)).alloc (.cells #[.string n] 9)) := g1.alloc _
  have hz0 : (w.alloc (.cells #[.slice a1 P.es.length c1, .slice a2 P.js.length c2, .slice a3 P.ss.length c3, .slice a4 P.ls.length c4, .int .i64 P.top, .int .i64 P.brake, .int .i64 P.margin, .int .i64 P.throw, .bool P.hard] 28)).heap.size = w.heap.size + 1 := by simp
  have HI := Lib.hid (eleidx_any P.es (fun s => decide (s.n = n)) _ (.pointer (some ⟨w.heap.size + 1, 0, none⟩)) _ (IsEles.gr h1 g0) (fun w' g i hi => by
    have hz : w.heap.size + 1 < ((w.alloc (.cells #[.slice a1 P.es.length c1, .slice a2 P.js.length c2, .slice a3 P.ss.length c3, .slice a4 P.ls.length c4, .int .i64 P.top, .int .i64 P.brake, .int .i64 P.margin, .int .i64 P.throw, .bool P.hard] 28)).alloc (.cells #[.string n] 9)).heap.size := by simp
    exact ele1_any P.es[i] n (w.heap.size + 1) w' (Nat.lt_of_lt_of_le hz g.size) ((g.cell _ _ hz).trans (by rw [← hz0, World.cell?_alloc_mark]; rfl))))
  have HD : Hid (fstN (fun s => decide (s.n = n)) P.es = eleN P n) := rfl
  generalize eleN P n = R at HD ⊢
  rw [HD.out] at HI
  unfold plnV
  clear h1 h2 h3 h4 HD
  go_enter Tryz.func71, Tryz.ntmps71
  go_wp2_with (first | (go_at_call 134; (with_reducible refine (HI.out).mono ?_); rintro e w2 ⟨rfl, g2⟩) | fail)
  go_ret
  exact ⟨rfl, g0.trans g2⟩
set_option maxHeartbeats 400000 in
theorem eleRef_any (v : Value) (P : Pln) (n : ByteArray) (w : World) (hP : IsPln w v P) :
    Calls Tryz.prog 143 #[v, .string n] w fun e w' => e = .returned (.int .i64 (eleN P n)) ∧ Gr w w' := by
  obtain ⟨a1, c1, a2, c2, a3, c3, a4, c4, rfl, h1, h2, h3, h4⟩ := hP
  have HL := Lib.hid h1
  obtain ⟨-, -, -, hm, -⟩ := HL.out
  unfold maxLen at hm
  have HB := Lib.hid (PBox.new w P (.slice a1 P.es.length c1) (.slice a2 P.js.length c2) (.slice a3 P.ss.length c3) (.slice a4 P.ls.length c4))
  have g1 : Gr w (w.alloc (.cells #[.slice a1 P.es.length c1, .slice a2 P.js.length c2, .slice a3 P.ss.length c3, .slice a4 P.ls.length c4, .int .i64 P.top, .int .i64 P.brake, .int .i64 P.margin, .int .i64 P.throw, .bool P.hard] 28)) := (Gr.refl _).alloc _
  have HF : Hid ((∀ k (hk : k < P.es.length), decide (P.es[k].n = n) = true → (∀ i (hi : i < P.es.length), i < k → decide (P.es[i].n = n) = false) → eleN P n = k) ∧ ((∀ i (hi : i < P.es.length), decide (P.es[i].n = n) = false) → eleN P n = -1)) := ⟨fun k hk h hn => fstN_go _ hk h hn, fun h => fstN_no _ h⟩
  generalize eleN P n = R at HF ⊢
  unfold plnV
  clear h1 h2 h3 h4
  go_enter Tryz.func143, Tryz.ntmps143
  go_wp2_with fail
  go_loopw [5] (fun x wr => ∃ k : Nat, x = .int .i64 k ∧ k ≤ P.es.length ∧ Gr (w.alloc (.cells #[.slice a1 P.es.length c1, .slice a2 P.js.length c2, .slice a3 P.ss.length c3, .slice a4 P.ls.length c4, .int .i64 P.top, .int .i64 P.brake, .int .i64 P.margin, .int .i64 P.throw, .bool P.hard] 28)) wr ∧ Hid (∀ i (hi : i < P.es.length), i < k → decide (P.es[i].n = n) = false)) (fun x _ => P.es.length - (intOf x).toNat)
  case atStart => exact ⟨0, rfl, Nat.zero_le _, Gr.refl _, fun i _ h => by omega⟩
  case round =>
    obtain ⟨k, rfl, hk, g, HA⟩ := hrel
    obtain ⟨zb, b0, b1, b2, b3, b4, b5, b6, b7, b8⟩ := HB.out.gr g
    by_cases hlt : k < P.es.length
    · have hk1 : (k : Int) < (P.es.length : Int) := by omega
      have hl2 := HL.out.gr (g1.trans g)
      obtain ⟨bb, o, hs, z, y0, y1, y2⟩ := IsEles.at hl2 k hlt
      subst hs
      have HY : Hid (decide (P.es[k].n = n) = true → R = k) := fun h => HF.out.1 k hlt h fun i hi hik => HA.out i hi hik
      have HN : Hid (decide (P.es[k].n = n) = false → ∀ i (hi : i < P.es.length), i < k + 1 → decide (P.es[i].n = n) = false) := fun h i hi hik => by
        by_cases e : i = k
        · subst e; exact h
        · exact HA.out i hi (by omega)
      clear HA hl2
      generalize P.es[k] = s at y0 y1 y2 HY HN
      obtain ⟨nm, ek, el⟩ := s
      dsimp only at y0 y1 y2 HY HN
      have hd := str_dec nm n
      cases hq : decide (nm = n)
      · rw [hq] at hd HN
        have HN2 := Lib.hid (HN.out rfl)
        clear HY HN hq
        go_wp2_with fail
        go_roundw
        case rel => exact ⟨k + 1, by go_num, hlt, g, HN2.out⟩
        case measure => simp [intOf]; omega
      · rw [hq] at hd HY
        have HY2 := Lib.hid (HY.out rfl)
        clear HY HN hq
        go_wp2_with fail
        go_ret
        exact ⟨ret_int HY2.out.symm, g1.trans g⟩
    · have hk1 : ¬ (k : Int) < (P.es.length : Int) := by omega
      have HR := Lib.hid (HF.out.2 fun i hi => HA.out i hi (by omega))
      go_wp2_with fail
      go_ret
      exact ⟨ret_int HR.out.symm, g1.trans g⟩
end Go.Proofs.YtknmngejjoohdaaGreatDoor
