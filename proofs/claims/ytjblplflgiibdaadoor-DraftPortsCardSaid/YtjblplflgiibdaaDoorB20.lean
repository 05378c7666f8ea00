/- DgN: The signal, the element of a name: the program's and the reference's.
DrM: The reader of plans: what its box and its rows hold. No walk. -/
import Derived.Test.YtjblplflgiibdaaDoorRows
import Derived.Test.YtjblplflgiibdaaDoorB15
import Derived.Test.YtjblplflgiibdaaDoorB17
import Derived.Test.YtjblplflgiibdaaDoorB16
import Derived.Test.YtjblplflgiibdaaDoorB3
import Derived.Test.YtjblplflgiibdaaDoorB4
import Derived.Test.YtjblplflgiibdaaDoorB12
namespace Go.Proofs.YtjblplflgiibdaaDoor
open Go.ChangeShapes Go.WideShapes Go.ChangeAt Go.RowKit Go.Maps
set_option linter.unusedVariables false
set_option linter.unusedSimpArgs false
def Sg.val (s : Sg) : Value := .agg #[.string s.n, .int .i64 s.at_.e, .int .i64 s.at_.x, .bool s.auto]
def Ele.val (e : Ele) : Value := .agg #[.string e.n, .int .i64 e.k, .int .i64 e.l]
theorem ele1_any (s : Ele) (n : ByteArray) (B : Nat) (w : World) (hb : B < w.heap.size) (hc : w.cell? ⟨B, 0, none⟩ = some (.string n)) :
    Calls Tryd.prog 31 #[s.val, .pointer (some ⟨B, 0, none⟩)] w fun e w' => e = .returned (.bool (decide (s.n = n))) ∧ Gr w w' := by
  obtain ⟨nm, ek, el⟩ := s
  unfold Ele.val
  dsimp only
  go_enter Tryd.func31, Tryd.ntmps31
  go_wp2_with fail
  go_ret
  exact ⟨ret_bool (str_dec _ _), (Gr.refl _).alloc _⟩
set_option maxHeartbeats 400000 in
theorem eleidx_any (L : List Ele) (p : Ele → Bool) (v cap : Value) (w : World) (hL : IsEles w v L)
    (hc : ∀ (w' : World), Gr w w' → ∀ (i : Nat) (hi : i < L.length), Calls Tryd.prog 31 #[L[i].val, cap] w' fun e w'' => e = .returned (.bool (p L[i])) ∧ Gr w' w'') :
    Calls Tryd.prog 30 #[v, .func (.func 31) #[] #[cap]] w fun e w' => e = .returned (.int .i64 (fstN p L)) ∧ Gr w w' := by
  have HL := Lib.hid hL
  obtain ⟨a, c, rfl, hm, -⟩ := hL
  unfold maxLen at hm
  have HC := Lib.hid hc
  clear hc
  go_enter Tryd.func30, Tryd.ntmps30
  go_wp2_with fail
  go_loopw [5, 8] (fun _ x wr => ∃ k : Nat, x = .int .i64 k ∧ k ≤ L.length ∧ Gr w wr ∧ Hid (∀ i (hi : i < L.length), i < k → p L[i] = false)) (fun _ x _ => L.length - (intOf x).toNat)
  case atStart => exact ⟨0, rfl, Nat.zero_le _, Gr.refl _, fun i _ h => by omega⟩
  case round =>
    obtain ⟨k, rfl, hk, g, HA⟩ := hrel
    by_cases hlt : k < L.length
    · have hk1 : (k : Int) < (L.length : Int) := by omega
      obtain ⟨bb, o, hs, z, y0, y1, y2⟩ := (IsEles.gr HL.out g).at k hlt
      subst hs
      have HP := Lib.hid (fun w' (h : Gr w w') => HC.out w' h k hlt)
      have HY : Hid (p L[k] = true → fstN p L = k) := fun h => fstN_go p hlt h fun i hi hik => HA.out i hi hik
      have HN : Hid (p L[k] = false → ∀ i (hi : i < L.length), i < k + 1 → p L[i] = false) := fun h i hi hik => by
        by_cases e : i = k
        · subst e; exact h
        · exact HA.out i hi (by omega)
      clear HA
      generalize p L[k] = q at HP HY HN
      generalize L[k] = s at y0 y1 y2 HP
      obtain ⟨nm, ek, el⟩ := s
      unfold Ele.val at HP
      dsimp only at y0 y1 y2 HP
      skip
      cases q
      · have HN2 := Lib.hid (HN.out rfl)
        clear HY HN
        go_wp2_with (first | (go_at_call 31; (with_reducible refine (HP.out _ g).mono ?_); rintro e w2 ⟨rfl, g2⟩) | fail)
        go_roundw
        case rel => exact ⟨k + 1, by go_num, hlt, g.trans g2, HN2.out⟩
        case measure => simp [intOf]; omega
      · have HY2 := Lib.hid (HY.out rfl)
        clear HY HN
        go_wp2_with (first | (go_at_call 31; (with_reducible refine (HP.out _ g).mono ?_); rintro e w2 ⟨rfl, g2⟩) | fail)
        go_ret
        exact ⟨ret_int HY2.out.symm, g.trans g2⟩
    · have hk1 : ¬ (k : Int) < (L.length : Int) := by omega
      have HR := Lib.hid (fstN_no p fun i hi => HA.out i hi (by omega))
      go_wp2_with fail
      go_ret
      exact ⟨ret_int HR.out.symm, g⟩
set_option maxHeartbeats 400000 in
theorem ele_any (v : Value) (P : Pln) (n : ByteArray) (w : World) (hP : IsPln w v P) :
    Calls Tryd.prog 15 #[v, .string n] w fun e w' => e = .returned (.int .i64 (eleN P n)) ∧ Gr w w' := by
  obtain ⟨a1, c1, a2, c2, a3, c3, a4, c4, rfl, h1, h2, h3, h4⟩ := hP
  have g1 : Gr w (w.alloc (.cells #[.slice a1 P.es.length c1, .slice a2 P.js.length c2, .slice a3 P.ss.length c3, .slice a4 P.ls.length c4, .int .i64 P.top, .int .i64 P.brake, .int .i64 P.margin, .int .i64 P.throw, .bool P.hard] 27)) := (Gr.refl _).alloc _
  have g0 : Gr w ((w.alloc (.cells #[.slice a1 P.es.length c1, .slice a2 P.js.length c2, .slice a3 P.ss.length c3, .slice a4 P.ls.length c4, .int .i64 P.top, .int .i64 P.brake, .int .i64 P.margin, .int .i64 P.throw, .bool P.hard] 27)).alloc (.cells #[.string n] 9)) := g1.alloc _
  have hz0 : (w.alloc (.cells #[.slice a1 P.es.length c1, .slice a2 P.js.length c2, .slice a3 P.ss.length c3, .slice a4 P.ls.length c4, .int .i64 P.top, .int .i64 P.brake, .int .i64 P.margin, .int .i64 P.throw, .bool P.hard] 27)).heap.size = w.heap.size + 1 := by simp
  have HI := Lib.hid (eleidx_any P.es (fun s => decide (s.n = n)) _ (.pointer (some ⟨w.heap.size + 1, 0, none⟩)) _ (IsEles.gr h1 g0) (fun w' g i hi => by
    have hz : w.heap.size + 1 < ((w.alloc (.cells #[.slice a1 P.es.length c1, .slice a2 P.js.length c2, .slice a3 P.ss.length c3, .slice a4 P.ls.length c4, .int .i64 P.top, .int .i64 P.brake, .int .i64 P.margin, .int .i64 P.throw, .bool P.hard] 27)).alloc (.cells #[.string n] 9)).heap.size := by simp
    exact ele1_any P.es[i] n (w.heap.size + 1) w' (Nat.lt_of_lt_of_le hz g.size) ((g.cell _ _ hz).trans (by rw [← hz0, World.cell?_alloc_mark]; rfl))))
  have HD : Hid (fstN (fun s => decide (s.n = n)) P.es = eleN P n) := rfl
  generalize eleN P n = R at HD ⊢
  rw [HD.out] at HI
  unfold plnV
  clear h1 h2 h3 h4 HD
  go_enter Tryd.func15, Tryd.ntmps15
  go_wp2_with (first | (go_at_call 30; (with_reducible refine (HI.out).mono ?_); rintro e w2 ⟨rfl, g2⟩) | fail)
  go_ret
  exact ⟨rfl, g0.trans g2⟩
set_option maxHeartbeats 400000 in
theorem eleRef_any (v : Value) (P : Pln) (n : ByteArray) (w : World) (hP : IsPln w v P) :
    Calls Tryd.prog 17 #[v, .string n] w fun e w' => e = .returned (.int .i64 (eleN P n)) ∧ Gr w w' := by
  obtain ⟨a1, c1, a2, c2, a3, c3, a4, c4, rfl, h1, h2, h3, h4⟩ := hP
  have HL := Lib.hid h1
  obtain ⟨-, -, -, hm, -⟩ := HL.out
  unfold maxLen at hm
  have HB := Lib.hid (PBox.new w P (.slice a1 P.es.length c1) (.slice a2 P.js.length c2) (.slice a3 P.ss.length c3) (.slice a4 P.ls.length c4))
  have g1 : Gr w (w.alloc (.cells #[.slice a1 P.es.length c1, .slice a2 P.js.length c2, .slice a3 P.ss.length c3, .slice a4 P.ls.length c4, .int .i64 P.top, .int .i64 P.brake, .int .i64 P.margin, .int .i64 P.throw, .bool P.hard] 27)) := (Gr.refl _).alloc _
  have HF : Hid ((∀ k (hk : k < P.es.length), decide (P.es[k].n = n) = true → (∀ i (hi : i < P.es.length), i < k → decide (P.es[i].n = n) = false) → eleN P n = k) ∧ ((∀ i (hi : i < P.es.length), decide (P.es[i].n = n) = false) → eleN P n = -1)) := ⟨fun k hk h hn => fstN_go _ hk h hn, fun h => fstN_no _ h⟩
  generalize eleN P n = R at HF ⊢
  unfold plnV
  clear h1 h2 h3 h4
  go_enter Tryd.func17, Tryd.ntmps17
  go_wp2_with fail
  go_loopw [5] (fun x wr => ∃ k : Nat, x = .int .i64 k ∧ k ≤ P.es.length ∧ Gr (w.alloc (.cells #[.slice a1 P.es.length c1, .slice a2 P.js.length c2, .slice a3 P.ss.length c3, .slice a4 P.ls.length c4, .int .i64 P.top, .int .i64 P.brake, .int .i64 P.margin, .int .i64 P.throw, .bool P.hard] 27)) wr ∧ Hid (∀ i (hi : i < P.es.length), i < k → decide (P.es[i].n = n) = false)) (fun x _ => P.es.length - (intOf x).toNat)
  case atStart => exact ⟨0, rfl, Nat.zero_le _, Gr.refl _, fun i _ h => by omega⟩
  case round =>
    obtain ⟨k, rfl, hk, g, HA⟩ := hrel
    obtain ⟨zb, b0, b1, b2, b3, b4, b5, b6, b7, b8⟩ := HB.out.gr g
    by_cases hlt : k < P.es.length
    · have hk1 : (k : Int) < (P.es.length : Int) := by omega
      have hl2 := HL.out.gr (g1.trans g)
      obtain ⟨bb, o, hs, z, y0, y1, y2⟩ := IsEles.at hl2 k hlt
      subst hs
      have HY : Hid (decide (P.es[k].n = n) = true → R = k) := fun h => HF.out.1 k hlt h fun i hi hik => HA.out i hi hik
      have HN : Hid (decide (P.es[k].n = n) = false → ∀ i (hi : i < P.es.length), i < k + 1 → decide (P.es[i].n = n) = false) := fun h i hi hik => by
        by_cases e : i = k
        · subst e; exact h
        · exact HA.out i hi (by omega)
      clear HA hl2
      generalize P.es[k] = s at y0 y1 y2 HY HN
      obtain ⟨nm, ek, el⟩ := s
      dsimp only at y0 y1 y2 HY HN
      have hd := str_dec nm n
      cases hq : decide (nm = n)
      · rw [hq] at hd HN
        have HN2 := Lib.hid (HN.out rfl)
        clear HY HN hq
        go_wp2_with fail
        go_roundw
        case rel => exact ⟨k + 1, by go_num, hlt, g, HN2.out⟩
        case measure => simp [intOf]; omega
      · rw [hq] at hd HY
        have HY2 := Lib.hid (HY.out rfl)
        clear HY HN hq
        go_wp2_with fail
        go_ret
        exact ⟨ret_int HY2.out.symm, g1.trans g⟩
    · have hk1 : ¬ (k : Int) < (P.es.length : Int) := by omega
      have HR := Lib.hid (HF.out.2 fun i hi => HA.out i hi (by omega))
      go_wp2_with fail
      go_ret
      exact ⟨ret_int HR.out.symm, g1.trans g⟩
end Go.Proofs.YtjblplflgiibdaaDoor
namespace Go.Proofs.YtjblplflgiibdaaDoor
open Go.ChangeShapes Go.WideShapes Go.ChangeAt Go.RowKit Go.Maps
set_option linter.unusedVariables false
set_option linter.unusedSimpArgs false
theorem Tryd.infoEl : (Tryd.prog.info? 47).map (fun i => (i.zero, i.size, i.bytes)) = some (some (.agg #[.string ByteArray.empty, .int .i64 0, .int .i64 0]), 3, 32) := by kernel_rfl
theorem Tryd.infoJn : (Tryd.prog.info? 56).map (fun i => (i.zero, i.size, i.bytes)) = some (some (.agg #[.int .i64 0, .int .i64 0, .int .i64 0, .int .i64 0]), 4, 32) := by kernel_rfl
theorem Tryd.infoSg : (Tryd.prog.info? 49).map (fun i => (i.zero, i.size, i.bytes)) = some (some (.agg #[.string ByteArray.empty, .int .i64 0, .int .i64 0, .bool false]), 4, 40) := by kernel_rfl
theorem Tryd.infoLn : (Tryd.prog.info? 45).map (fun i => (i.zero, i.size, i.bytes)) = some (some (.agg #[.string ByteArray.empty, .slice none 0 0]), 2, 40) := by kernel_rfl
def Ele.cs (e : Ele) : List Value := [.string e.n, .int .i64 e.k, .int .i64 e.l]
def Jn.cs (q : Jn) : List Value := [.int .i64 q.a.e, .int .i64 q.a.x, .int .i64 q.b.e, .int .i64 q.b.x]
def Sg.cs (s : Sg) : List Value := [.string s.n, .int .i64 s.at_.e, .int .i64 s.at_.x, .bool s.auto]
def Ln.cs (l : Ln) (u : Value) : List Value := [.string l.n, u]
def lnCs (A : List (Ln × Value)) : List Value := A.flatMap fun x => x.1.cs x.2
def OwnEl (B : Nat) (w : World) (v : Value) (L : List Ele) : Prop := w.ownsRow B 47 3 v L.length (L.flatMap Ele.cs)
def OwnJn (B : Nat) (w : World) (v : Value) (L : List Jn) : Prop := w.ownsRow B 56 4 v L.length (L.flatMap Jn.cs)
def OwnSg (B : Nat) (w : World) (v : Value) (L : List Sg) : Prop := w.ownsRow B 49 4 v L.length (L.flatMap Sg.cs)
def OwnLn (B : Nat) (w : World) (v : Value) (A : List (Ln × Value)) : Prop := w.ownsRow B 45 2 v A.length (lnCs A)
theorem OwnEl.nil (B : Nat) (w : World) : OwnEl B w (.slice none 0 0) [] := ⟨rfl, .inl ⟨rfl, rfl⟩⟩
theorem OwnJn.nil (B : Nat) (w : World) : OwnJn B w (.slice none 0 0) [] := ⟨rfl, .inl ⟨rfl, rfl⟩⟩
theorem OwnSg.nil (B : Nat) (w : World) : OwnSg B w (.slice none 0 0) [] := ⟨rfl, .inl ⟨rfl, rfl⟩⟩
theorem OwnLn.nil (B : Nat) (w : World) : OwnLn B w (.slice none 0 0) [] := ⟨rfl, .inl ⟨rfl, rfl⟩⟩
theorem OwnEl.snoc {B : Nat} {w : World} {v : Value} {L : List Ele} {s : Ele} (h : w.ownsRow B 47 3 v (L.length + 1) (L.flatMap Ele.cs ++ s.cs)) : OwnEl B w v (L ++ [s]) := by unfold OwnEl; simpa using h
theorem OwnJn.snoc {B : Nat} {w : World} {v : Value} {L : List Jn} {s : Jn} (h : w.ownsRow B 56 4 v (L.length + 1) (L.flatMap Jn.cs ++ s.cs)) : OwnJn B w v (L ++ [s]) := by unfold OwnJn; simpa using h
theorem OwnSg.snoc {B : Nat} {w : World} {v : Value} {L : List Sg} {s : Sg} (h : w.ownsRow B 49 4 v (L.length + 1) (L.flatMap Sg.cs ++ s.cs)) : OwnSg B w v (L ++ [s]) := by unfold OwnSg; simpa using h
theorem OwnLn.snoc {B : Nat} {w : World} {v : Value} {A : List (Ln × Value)} {r : Ln} {u : Value} (h : w.ownsRow B 45 2 v (A.length + 1) (lnCs A ++ r.cs u)) : OwnLn B w v (A ++ [(r, u)]) := by unfold OwnLn lnCs at *; simpa using h
theorem ownP_diff {w : World} {B B' : Nat} {e e' : TypeId} {sz sz' n n' : Nat} {v v' : Value} {xs xs' : List Value} (h : w.ownsRow B e sz v n xs) (h' : w.ownsRow B' e' sz' v' n' xs') (hne : e' ≠ e) : v.ownBlock = none ∨ v.ownBlock ≠ v'.ownBlock := by
  rcases h'.2 with ⟨rfl, _⟩ | ⟨g, cap, cur, rfl, _, hh, _⟩
  · cases v.ownBlock with
    | none => exact .inl rfl
    | some k => exact .inr (by simp [Value.ownBlock])
  · exact .inr (fun e => own_ne h hh hne (by rw [e]; rfl))
theorem OwnEl.eles {B : Nat} {w : World} {v : Value} {L : List Ele} (h : OwnEl B w v L) (hl : L.length ≤ maxLen) : IsEles w v L := row_of_own h hl fun i j hi hj => by
  rw [flat_get Ele.cs 3 (fun _ => rfl) L i j hi hj, getD_at _ _ hi]
  match j, hj with
  | 0, _ => rfl
  | 1, _ => rfl
  | 2, _ => rfl
theorem OwnJn.jns {B : Nat} {w : World} {v : Value} {L : List Jn} (h : OwnJn B w v L) (hl : L.length ≤ maxLen) : IsJns w v L := row_of_own h hl fun i j hi hj => by
  rw [flat_get Jn.cs 4 (fun _ => rfl) L i j hi hj, getD_at _ _ hi]
  match j, hj with
  | 0, _ => rfl
  | 1, _ => rfl
  | 2, _ => rfl
  | 3, _ => rfl
theorem OwnSg.sgs {B : Nat} {w : World} {v : Value} {L : List Sg} (h : OwnSg B w v L) (hl : L.length ≤ maxLen) : IsSgs w v L := row_of_own h hl fun i j hi hj => by
  rw [flat_get Sg.cs 4 (fun _ => rfl) L i j hi hj, getD_at _ _ hi]
  match j, hj with
  | 0, _ => rfl
  | 1, _ => rfl
  | 2, _ => rfl
  | 3, _ => rfl
def DrS (b B : Nat) (w : World) (P : Pln) (e j s l : Value) : Prop :=
  b < B ∧ B ≤ w.heap.size ∧ OwnEl B w e P.es ∧ OwnJn B w j P.js ∧ OwnSg B w s P.ss ∧ ∃ A, OwnLn B w l A ∧ (∀ x ∈ A, OwnI B w x.2 x.1.es ∧ x.1.es.length ≤ maxLen) ∧ A.map Prod.fst = P.ls
def Bp (T : TypeId) (b : Nat) (w : World) (P : Pln) (e j s l : Value) (m : Option Bool) : Prop :=
  (∃ cs, w.heap[b]? = some (.cells cs T) ∧ cs.size ≤ 10) ∧ PBox w b P e j s l ∧ ∀ x, m = some x → w.cell? ⟨b, 9, none⟩ = some (.bool x)
theorem Bp.block {T : TypeId} {b : Nat} {w w' : World} {P : Pln} {e j s l : Value} {m : Option Bool} (h : Bp T b w P e j s l m) (hb : w'.heap[b]? = w.heap[b]?) (hz : w.heap.size ≤ w'.heap.size) : Bp T b w' P e j s l m := by
  obtain ⟨⟨cs, hh, hcs⟩, ⟨h0, c0, c1, c2, c3, c4, c5, c6, c7, c8⟩, hm⟩ := h
  have k : ∀ o, w'.cell? ⟨b, o, none⟩ = w.cell? ⟨b, o, none⟩ := fun o => World.cell?_of_block (a := ⟨b, o, none⟩) hb
  exact ⟨⟨cs, hb.trans hh, hcs⟩, ⟨Nat.lt_of_lt_of_le h0 hz, (k 0).trans c0, (k 1).trans c1, (k 2).trans c2, (k 3).trans c3, (k 4).trans c4, (k 5).trans c5, (k 6).trans c6, (k 7).trans c7, (k 8).trans c8⟩, fun x hx => (k 9).trans (hm x hx)⟩
theorem Bp.gr {T : TypeId} {b : Nat} {w w' : World} {P : Pln} {e j s l : Value} {m : Option Bool} (h : Bp T b w P e j s l m) (g : Gr w w') : Bp T b w' P e j s l m := h.block (g.block b h.2.1.1) g.size
theorem Bp.lt {T : TypeId} {b : Nat} {w : World} {P : Pln} {e j s l : Value} {m : Option Bool} (h : Bp T b w P e j s l m) : b < w.heap.size := h.2.1.1
theorem Bp.frozen {T : TypeId} {b : Nat} {w : World} {P : Pln} {e j s l : Value} {m : Option Bool} (h : Bp T b w P e j s l m) (o : Nat) : w.frozen? ⟨b, o, none⟩ = false := by
  obtain ⟨⟨cs, hh, -⟩, -⟩ := h
  exact frozen_of_row w b o cs T hh
theorem heap_set_own {w : World} {b o : Nat} {u : Value} {T : TypeId} (h : ∃ cs, w.heap[b]? = some (.cells cs T) ∧ cs.size ≤ 10) : ∃ cs, (w.setCell ⟨b, o, none⟩ u).heap[b]? = some (.cells cs T) ∧ cs.size ≤ 10 := by
  obtain ⟨cs, hh, hc⟩ := h
  exact ⟨_, heap_setCell_same w b o cs T u hh, by simpa using hc⟩
theorem DrS.gr {b B : Nat} {w w' : World} {P : Pln} {e j s l : Value} (h : DrS b B w P e j s l) (g : Gr w w') : DrS b B w' P e j s l := by
  obtain ⟨h0, hz, h1, h2, h3, A, h4, h5, h6⟩ := h
  exact ⟨h0, Nat.le_trans hz g.size, own_gr h1 g, own_gr h2 g, own_gr h3 g, A, own_gr h4 g, fun x hx => ⟨own_gr (h5 x hx).1 g, (h5 x hx).2⟩, h6⟩
theorem DrS.set {b B : Nat} {w : World} {P : Pln} {e j s l : Value} (h : DrS b B w P e j s l) (o : Nat) (u : Value) : DrS b B (w.setCell ⟨b, o, none⟩ u) P e j s l := by
  obtain ⟨h0, hz, h1, h2, h3, A, h4, h5, h6⟩ := h
  have q : ∀ {e : TypeId} {sz n : Nat} {v : Value} {xs : List Value}, w.ownsRow B e sz v n xs → (w.setCell ⟨b, o, none⟩ u).ownsRow B e sz v n xs := fun h => ownsRow_setCell_below h h0 u
  exact ⟨h0, by simpa using hz, q h1, q h2, q h3, A, q h4, fun x hx => ⟨q (h5 x hx).1, (h5 x hx).2⟩, h6⟩
theorem DrS.nil {b B : Nat} {w : World} (h : b < B) (hB : B ≤ w.heap.size) : DrS b B w pln0 (.slice none 0 0) (.slice none 0 0) (.slice none 0 0) (.slice none 0 0) :=
  ⟨h, hB, OwnEl.nil _ _, OwnJn.nil _ _, OwnSg.nil _ _, [], OwnLn.nil _ _, fun x hx => (by cases hx), rfl⟩
def RdP (T : TypeId) (b B : Nat) (w : World) (P : Pln) (m : Option Bool) : Prop := ∃ e j s l, Bp T b w P e j s l m ∧ DrS b B w P e j s l
theorem RdP.gr {T : TypeId} {b B : Nat} {w w' : World} {P : Pln} {m : Option Bool} (h : RdP T b B w P m) (g : Gr w w') : RdP T b B w' P m := by
  obtain ⟨e, j, s, l, h1, h2⟩ := h
  exact ⟨e, j, s, l, h1.gr g, h2.gr g⟩
theorem RdP.elem {T : TypeId} {b B : Nat} {w w3 : World} {P : Pln} {e j s l v' : Value} {m : Option Bool} {x : Ele} (hT : T ≠ 47) (h1 : Bp T b w P e j s l m) (h2 : DrS b B w P e j s l) (hg : w.grownBy w3 e.ownBlock)
    (hown : w3.ownsRow B 47 3 v' (P.es.length + 1) (P.es.flatMap Ele.cs ++ x.cs)) : RdP T b B (w3.setCell ⟨b, 0, none⟩ v') { P with es := P.es ++ [x] } m := by
  obtain ⟨h0, hz, k1, k2, k3, A, k4, k5, k6⟩ := h2
  obtain ⟨cs, hh, -⟩ := h1.1
  have hb := hg.block b h1.lt (own_ne k1 hh hT)
  have h1' := h1.block hb hg.size
  have d : DrS b B w3 { P with es := P.es ++ [x] } v' j s l := ⟨h0, Nat.le_trans hz hg.size, OwnEl.snoc hown, k2.kept hg (ownP_diff k2 k1 (by decide)), k3.kept hg (ownP_diff k3 k1 (by decide)), A, k4.kept hg (ownP_diff k4 k1 (by decide)), fun y hy => ⟨(k5 y hy).1.kept hg (ownP_diff (k5 y hy).1 k1 (by decide)), (k5 y hy).2⟩, k6⟩
  obtain ⟨hc, ⟨z, c0, c1, c2, c3, c4, c5, c6, c7, c8⟩, hm⟩ := h1'
  have q : ∀ o, o ≠ 0 → (w3.setCell ⟨b, 0, none⟩ v').cell? ⟨b, o, none⟩ = w3.cell? ⟨b, o, none⟩ := fun o ho => World.cell?_setCell_other _ _ _ _ (by intro e; injection e with _ e2; omega)
  exact ⟨v', j, s, l, ⟨heap_set_own hc, ⟨by simpa using z, World.cell?_setCell_same _ _ _ c0, (q 1 (by omega)).trans c1, (q 2 (by omega)).trans c2, (q 3 (by omega)).trans c3, (q 4 (by omega)).trans c4, (q 5 (by omega)).trans c5, (q 6 (by omega)).trans c6, (q 7 (by omega)).trans c7, (q 8 (by omega)).trans c8⟩, fun x hx => (q 9 (by omega)).trans (hm x hx)⟩, d.set _ _⟩
theorem RdP.join {T : TypeId} {b B : Nat} {w w3 : World} {P : Pln} {e j s l v' : Value} {m : Option Bool} {x : Jn} (hT : T ≠ 56) (h1 : Bp T b w P e j s l m) (h2 : DrS b B w P e j s l) (hg : w.grownBy w3 j.ownBlock)
    (hown : w3.ownsRow B 56 4 v' (P.js.length + 1) (P.js.flatMap Jn.cs ++ x.cs)) : RdP T b B (w3.setCell ⟨b, 1, none⟩ v') { P with js := P.js ++ [x] } m := by
  obtain ⟨h0, hz, k1, k2, k3, A, k4, k5, k6⟩ := h2
  obtain ⟨cs, hh, -⟩ := h1.1
  have hb := hg.block b h1.lt (own_ne k2 hh hT)
  have h1' := h1.block hb hg.size
  have d : DrS b B w3 { P with js := P.js ++ [x] } e v' s l := ⟨h0, Nat.le_trans hz hg.size, k1.kept hg (ownP_diff k1 k2 (by decide)), OwnJn.snoc hown, k3.kept hg (ownP_diff k3 k2 (by decide)), A, k4.kept hg (ownP_diff k4 k2 (by decide)), fun y hy => ⟨(k5 y hy).1.kept hg (ownP_diff (k5 y hy).1 k2 (by decide)), (k5 y hy).2⟩, k6⟩
  obtain ⟨hc, ⟨z, c0, c1, c2, c3, c4, c5, c6, c7, c8⟩, hm⟩ := h1'
  have q : ∀ o, o ≠ 1 → (w3.setCell ⟨b, 1, none⟩ v').cell? ⟨b, o, none⟩ = w3.cell? ⟨b, o, none⟩ := fun o ho => World.cell?_setCell_other _ _ _ _ (by intro e; injection e with _ e2; omega)
  exact ⟨e, v', s, l, ⟨heap_set_own hc, ⟨by simpa using z, (q 0 (by omega)).trans c0, World.cell?_setCell_same _ _ _ c1, (q 2 (by omega)).trans c2, (q 3 (by omega)).trans c3, (q 4 (by omega)).trans c4, (q 5 (by omega)).trans c5, (q 6 (by omega)).trans c6, (q 7 (by omega)).trans c7, (q 8 (by omega)).trans c8⟩, fun x hx => (q 9 (by omega)).trans (hm x hx)⟩, d.set _ _⟩
theorem RdP.signal {T : TypeId} {b B : Nat} {w w3 : World} {P : Pln} {e j s l v' : Value} {m : Option Bool} {x : Sg} (hT : T ≠ 49) (h1 : Bp T b w P e j s l m) (h2 : DrS b B w P e j s l) (hg : w.grownBy w3 s.ownBlock)
    (hown : w3.ownsRow B 49 4 v' (P.ss.length + 1) (P.ss.flatMap Sg.cs ++ x.cs)) : RdP T b B (w3.setCell ⟨b, 2, none⟩ v') { P with ss := P.ss ++ [x] } m := by
  obtain ⟨h0, hz, k1, k2, k3, A, k4, k5, k6⟩ := h2
  obtain ⟨cs, hh, -⟩ := h1.1
  have hb := hg.block b h1.lt (own_ne k3 hh hT)
  have h1' := h1.block hb hg.size
  have d : DrS b B w3 { P with ss := P.ss ++ [x] } e j v' l := ⟨h0, Nat.le_trans hz hg.size, k1.kept hg (ownP_diff k1 k3 (by decide)), k2.kept hg (ownP_diff k2 k3 (by decide)), OwnSg.snoc hown, A, k4.kept hg (ownP_diff k4 k3 (by decide)), fun y hy => ⟨(k5 y hy).1.kept hg (ownP_diff (k5 y hy).1 k3 (by decide)), (k5 y hy).2⟩, k6⟩
  obtain ⟨hc, ⟨z, c0, c1, c2, c3, c4, c5, c6, c7, c8⟩, hm⟩ := h1'
  have q : ∀ o, o ≠ 2 → (w3.setCell ⟨b, 2, none⟩ v').cell? ⟨b, o, none⟩ = w3.cell? ⟨b, o, none⟩ := fun o ho => World.cell?_setCell_other _ _ _ _ (by intro e; injection e with _ e2; omega)
  exact ⟨e, j, v', l, ⟨heap_set_own hc, ⟨by simpa using z, (q 0 (by omega)).trans c0, (q 1 (by omega)).trans c1, World.cell?_setCell_same _ _ _ c2, (q 3 (by omega)).trans c3, (q 4 (by omega)).trans c4, (q 5 (by omega)).trans c5, (q 6 (by omega)).trans c6, (q 7 (by omega)).trans c7, (q 8 (by omega)).trans c8⟩, fun x hx => (q 9 (by omega)).trans (hm x hx)⟩, d.set _ _⟩
theorem RdP.line {T : TypeId} {b B : Nat} {w w3 : World} {P : Pln} {e j s l v' u : Value} {m : Option Bool} {x : Ln} {A : List (Ln × Value)} (hT : T ≠ 45) (h1 : Bp T b w P e j s l m) (h0 : b < B) (hz : B ≤ w.heap.size) (k1 : OwnEl B w e P.es) (k2 : OwnJn B w j P.js) (k3 : OwnSg B w s P.ss) (k4 : OwnLn B w l A) (k5 : ∀ x ∈ A, OwnI B w x.2 x.1.es ∧ x.1.es.length ≤ maxLen) (k6 : A.map Prod.fst = P.ls)
    (k7 : OwnI B w u x.es) (k8 : x.es.length ≤ maxLen) (hg : w.grownBy w3 l.ownBlock) (hown : w3.ownsRow B 45 2 v' (A.length + 1) (lnCs A ++ x.cs u)) : RdP T b B (w3.setCell ⟨b, 3, none⟩ v') { P with ls := P.ls ++ [x] } m := by
  obtain ⟨cs, hh, -⟩ := h1.1
  have hb := hg.block b h1.lt (own_ne k4 hh hT)
  have h1' := h1.block hb hg.size
  have d : DrS b B w3 { P with ls := P.ls ++ [x] } e j s v' := ⟨h0, Nat.le_trans hz hg.size, k1.kept hg (ownP_diff k1 k4 (by decide)), k2.kept hg (ownP_diff k2 k4 (by decide)), k3.kept hg (ownP_diff k3 k4 (by decide)), A ++ [(x, u)], OwnLn.snoc hown, fun y hy => by
    rcases List.mem_append.1 hy with hy | hy
    · exact ⟨(k5 y hy).1.kept hg (ownP_diff (k5 y hy).1 k4 (by decide)), (k5 y hy).2⟩
    · obtain rfl := List.mem_singleton.1 hy
      exact ⟨k7.kept hg (ownP_diff k7 k4 (by decide)), k8⟩, by simp [k6]⟩
  obtain ⟨hc, ⟨z, c0, c1, c2, c3, c4, c5, c6, c7, c8⟩, hm⟩ := h1'
  have q : ∀ o, o ≠ 3 → (w3.setCell ⟨b, 3, none⟩ v').cell? ⟨b, o, none⟩ = w3.cell? ⟨b, o, none⟩ := fun o ho => World.cell?_setCell_other _ _ _ _ (by intro e; injection e with _ e2; omega)
  exact ⟨e, j, s, v', ⟨heap_set_own hc, ⟨by simpa using z, (q 0 (by omega)).trans c0, (q 1 (by omega)).trans c1, (q 2 (by omega)).trans c2, World.cell?_setCell_same _ _ _ c3, (q 4 (by omega)).trans c4, (q 5 (by omega)).trans c5, (q 6 (by omega)).trans c6, (q 7 (by omega)).trans c7, (q 8 (by omega)).trans c8⟩, fun x hx => (q 9 (by omega)).trans (hm x hx)⟩, d.set _ _⟩
theorem DrS.pln {b B : Nat} {w : World} {P : Pln} {e j s l : Value} (h : DrS b B w P e j s l) (n1 : P.es.length ≤ maxLen) (n2 : P.js.length ≤ maxLen) (n3 : P.ss.length ≤ maxLen) (n4 : P.ls.length ≤ maxLen) : IsPln w (plnV P e j s l) P := by
  obtain ⟨h0, hz, k1, k2, k3, A, k4, k5, k6⟩ := h
  have hl : A.length = P.ls.length := by rw [← k6]; simp
  have i1 := OwnEl.eles k1 n1
  have i2 := OwnJn.jns k2 n2
  have i3 := OwnSg.sgs k3 n3
  have gd : ∀ i (hi : i < A.length), P.ls.getD i default = (A[i]).1 := fun i hi => by
    rw [getD_at _ _ (by omega)]
    simp only [← k6, List.getElem_map]
  have gs : ∀ i (hi : i < A.length), (A.map Prod.snd).getD i (.slice none 0 0) = (A[i]).2 := fun i hi => by
    rw [List.getD_eq_getElem?_getD, List.getElem?_map, List.getElem?_eq_getElem hi]; rfl
  have i4 : IsLns w l P.ls := by
    refine ⟨fun i => (A.map Prod.snd).getD i (.slice none 0 0), ?_, fun i hi => ?_⟩
    · rw [← hl]
      refine row_of_own k4 (by omega) fun i j hi hj => ?_
      unfold lnCs
      rw [flat_get (fun x : Ln × Value => x.1.cs x.2) 2 (fun _ => rfl) A i j hi hj, gd i hi]
      dsimp only
      rw [gs i hi]
      match j, hj with
      | 0, _ => rfl
      | 1, _ => rfl
    · dsimp only
      rw [gd i (by omega), gs i (by omega)]
      exact OwnI.vals (k5 _ (List.getElem_mem _)).1 (k5 _ (List.getElem_mem _)).2
  obtain ⟨a1, c1, rfl, -⟩ := id i1
  obtain ⟨a2, c2, rfl, -⟩ := id i2
  obtain ⟨a3, c3, rfl, -⟩ := id i3
  have i4' := i4
  obtain ⟨S, ⟨a4, c4, rfl, -⟩, -⟩ := i4
  exact ⟨a1, c1, a2, c2, a3, c3, a4, c4, rfl, i1, i2, i3, i4'⟩
end Go.Proofs.YtjblplflgiibdaaDoor
