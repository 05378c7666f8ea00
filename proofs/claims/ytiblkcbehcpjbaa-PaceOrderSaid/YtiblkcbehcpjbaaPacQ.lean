/- Pace: the plain laws. No program. -/
import Derived.Test.YtiblkcbehcpjbaaPacP
namespace Go.Proofs.Ytiblkcbehcpjbaa
open Go.ChangeShapes Go.WideShapes Go.ChangeAt Go.RowKit
set_option linter.unusedVariables false
set_option linter.unusedSimpArgs false

theorem tailS_mono (b b' : Int) (hb : b ≤ b') (hb1 : 1 ≤ b) : ∀ (k : Nat) (V' V : Int), V' ≤ V → tailS b' k V' ≤ tailS b k V
  | 0, _, _, _ => by simp [tailS]
  | k + 1, V', V, h => by
    have ih := tailS_mono b b' hb hb1 k (V' - b') (V - b) (by omega)
    unfold tailS
    split
    · rw [if_pos (by omega)]; omega
    · split
      · have h0 : ∀ (j : Nat) (X : Int), 0 ≤ tailS b j X := by
          intro j
          induction j with
          | zero => intro X; simp [tailS]
          | succ j ihj => intro X; unfold tailS; split
                          · have := ihj (X - b); omega
                          · omega
        have := h0 k (V - b)
        omega
      · omega
theorem tailS_fuel (b : Int) (hb : 1 ≤ b) : ∀ (k j : Nat) (V : Int), V ≤ k → V ≤ j → tailS b k V = tailS b j V
  | 0, j, V, h, _ => by rw [tailS_no b j V (by omega)]; rfl
  | k + 1, 0, V, _, h => by rw [tailS_no b (k + 1) V (by omega)]; rfl
  | k + 1, j + 1, V, h, h' => by
    unfold tailS
    split
    · rw [tailS_fuel b hb k j (V - b) (by omega) (by omega)]
    · rfl
/-- one step of a forced train: what it runs on is its next speed and what it runs on from there -/
theorem stp_step (b V : Int) (hb : 1 ≤ b) (h : V ≤ 60) (h0 : 0 ≤ V) : stp b V = max 0 (V - b) + stp b (max 0 (V - b)) := by
  unfold stp
  by_cases hp : 0 < V - b
  · rw [show max 0 (V - b) = V - b from by omega]
    obtain ⟨j, hj, hs⟩ := tailS_pos b 60 (V - b) hp (by omega)
    rw [hs, tailS_fuel b hb j 60 (V - b - b) (by omega) (by omega)]
  · rw [show max 0 (V - b) = 0 from by omega, tailS_no b 60 (V - b) hp, tailS_no b 60 (0 - b) (by omega)]; rfl
theorem stp_zero (b : Int) (hb : 1 ≤ b) : stp b 0 = 0 := by unfold stp; rw [tailS_no b 60 (0 - b) (by omega)]
theorem stp_mono (b b' v w : Int) (hb : b ≤ b') (hb1 : 1 ≤ b) (h : v ≤ w) : stp b' v ≤ stp b w := tailS_mono b b' hb hb1 60 _ _ (by omega)

theorem hld_mono (v w lo hi : Int) (h : v ≤ w) : hld v lo hi ≤ hld w lo hi := by unfold hld; omega
theorem nxt_forced_val (t a b v want : Int) (ht : 1 ≤ t) (hb : 1 ≤ b) : nxt t a b v want true = max 0 (hld v 0 t - b) := by
  have hw : wnt a b want true = -b := rfl
  have q := hld_bd v 0 t (by omega)
  unfold nxt
  rw [hw]
  show max 0 (min (hld v 0 t + -b) t) = _
  omega
theorem nxt_mono (t a b v w want : Int) (f : Bool) (h : v ≤ w) : nxt t a b v want f ≤ nxt t a b w want f := by
  unfold nxt
  have := hld_mono v w 0 t h
  exact hld_mono _ _ _ _ (by omega)
theorem nxt_forced_le (t a b v want : Int) (ha : 1 ≤ a) (hb : 1 ≤ b) : nxt t a b v want true ≤ nxt t a b v want false := by
  unfold nxt
  have h1 : wnt a b want true = -b := rfl
  have h2 := wnt_bd a b want false ha hb
  exact hld_mono _ _ _ _ (by omega)
theorem tck_mono (t b v w : Int) (hb : 1 ≤ b) (h : v ≤ w) : tck t b v ≤ tck t b w := by
  unfold tck
  have := hld_mono v w 0 t h
  exact Int.ediv_le_ediv (by omega) (by omega)
theorem stopD_mono (t b b' v w : Int) (hb : b ≤ b') (hb1 : 1 ≤ b) (h : v ≤ w) : stopD t b' v ≤ stopD t b w := by
  unfold stopD; exact stp_mono _ _ _ _ hb hb1 (hld_mono _ _ _ _ h)
theorem acc_mono (t a b v w : Int) (h : hld v 0 t ≤ hld w 0 t) : acc t a b v ≤ acc t a b w := by
  unfold acc nxt; exact hld_mono _ _ _ _ (by omega)
theorem rch_mono (t a b : Int) : ∀ (k : Nat) (v w : Int), hld v 0 t ≤ hld w 0 t → rch t a b k v ≤ rch t a b k w
  | 0, _, _, _ => by simp [rch]
  | k + 1, v, w, h => by
    have h1 := acc_mono t a b v w h
    have h2 := rch_mono t a b k _ _ (hld_mono _ _ 0 t h1)
    simp only [rch]; omega
/-- whatever one wants, one is no faster than by wanting most -/
theorem nxt_le_acc (t a b u v want : Int) (f : Bool) (ha : 1 ≤ a) (hb : 1 ≤ b) (h : hld u 0 t ≤ hld v 0 t) : nxt t a b u want f ≤ acc t a b v := by
  unfold acc nxt
  have h1 := wnt_bd a b want f ha hb
  have h2 : wnt a b a false = a := by unfold wnt hld; simp; omega
  rw [h2]
  exact hld_mono _ _ _ _ (by omega)

/-- what Keeps finds: in its bounds; it keeps within the room or is the least; one more is too much or it is the most -/
theorem kpF_law (t b room L : Int) : ∀ (k : Nat) (X : Int), X = L + k →
    L ≤ kpF t b room k X ∧ kpF t b room k X ≤ X ∧ (kpF t b room k X + stopD t b (kpF t b room k X) ≤ room ∨ kpF t b room k X = L) ∧
    (kpF t b room k X = X ∨ ¬ (kpF t b room k X + 1 + stopD t b (kpF t b room k X + 1) ≤ room))
  | 0, X, h => by simp [kpF]; omega
  | k + 1, X, h => by
    unfold kpF
    split
    · rename_i hr
      refine ⟨by omega, by omega, .inl hr, .inl rfl⟩
    · rename_i hr
      have ih := kpF_law t b room L k (X - 1) (by omega)
      obtain ⟨i1, i2, i3, i4⟩ := ih
      refine ⟨i1, by omega, i3, .inr ?_⟩
      rcases i4 with i4 | i4
      · rw [i4, show X - 1 + 1 = X from by omega]; exact hr
      · exact i4
theorem kps_law (t a b v room : Int) (ht : 1 ≤ t) (ha : 1 ≤ a) (hb : 1 ≤ b) :
    nxt t a b v (-b) false ≤ kps t a b v room ∧ kps t a b v room ≤ nxt t a b v a false ∧ (kps t a b v room + stopD t b (kps t a b v room) ≤ room ∨ kps t a b v room = nxt t a b v (-b) false) ∧
    (kps t a b v room = nxt t a b v a false ∨ ¬ (kps t a b v room + 1 + stopD t b (kps t a b v room + 1) ≤ room)) := by
  have hl := nxt_least t a b v ha hb ht
  exact kpF_law t b room (nxt t a b v (-b) false) _ _ (by omega)

theorem nxt_brake (t a b v : Int) (ht : 1 ≤ t) (ha : 1 ≤ a) (hb : 1 ≤ b) : nxt t a b v (-b) false = max 0 (hld v 0 t - b) := by
  have h1 : wnt a b (-b) false = -b := by unfold wnt hld; simp; omega
  have q := hld_bd v 0 t (by omega)
  unfold nxt
  rw [h1]
  show max 0 (min (hld v 0 t + -b) t) = _
  omega
theorem acc_val (t a b v : Int) (ht : 1 ≤ t) (ha : 1 ≤ a) (hb : 1 ≤ b) : acc t a b v = min t (hld v 0 t + a) := by
  have h2 : wnt a b a false = a := by unfold wnt hld; simp; omega
  have q := hld_bd v 0 t (by omega)
  unfold acc nxt
  rw [h2]
  show max 0 (min (hld v 0 t + a) t) = _
  omega

/-- who can stop within the room, and goes by Keeps, can do so still -/
theorem kept_step (t a b v left : Int) (ht : 1 ≤ t ∧ t ≤ 60) (ha : 1 ≤ a) (hb : 1 ≤ b) (h0 : 0 ≤ v) (h1 : v ≤ t) (hs : stopD t b v ≤ left) :
    kps t a b v left + stopD t b (kps t a b v left) ≤ left ∧ kps t a b v left ≤ v + a ∧ v - b ≤ kps t a b v left ∧ 0 ≤ kps t a b v left ∧ kps t a b v left ≤ t := by
  obtain ⟨k1, k2, k3, _⟩ := kps_law t a b v left ht.1 ha hb
  have e1 := nxt_brake t a b v ht.1 ha hb
  have e2 := acc_val t a b v ht.1 ha hb
  have hv : hld v 0 t = v := hld_id _ _ _ h0 h1
  rw [hv] at e1 e2
  have e2' : nxt t a b v a false = min t (v + a) := e2
  refine ⟨?_, by omega, by omega, by omega, by omega⟩
  rcases k3 with k3 | k3
  · exact k3
  · rw [k3, e1]
    unfold stopD at hs ⊢
    rw [hv] at hs
    rw [hld_id (max 0 (v - b)) 0 t (by omega) (by omega)]
    have := stp_step b v hb (by omega) h0
    omega

/-- Least: far enough, and no sooner -/
theorem lstF_law (t a b tgt : Int) (ht : 1 ≤ t) (ha : 1 ≤ a) (hb : 1 ≤ b) : ∀ (k : Nat) (v w : Int), tgt - w ≤ k → ∃ n : Nat, lstF t a b tgt k v w = n ∧ tgt ≤ w + rch t a b n v ∧ (n = 0 ∨ (∃ m : Nat, n = m + 1 ∧ w + rch t a b m v < tgt)) ∧ (n : Int) ≤ max 0 (tgt - w)
  | 0, v, w, h => ⟨0, rfl, by simp [rch]; omega, .inl rfl, by omega⟩
  | k + 1, v, w, h => by
    by_cases hp : tgt ≤ w
    · exact ⟨0, by simp [lstF, hp], by simp [rch]; omega, .inl rfl, by omega⟩
    · have hb' := acc_bd t a b v ht ha hb
      obtain ⟨n, e, h1, h2, h3⟩ := lstF_law t a b tgt ht ha hb k (acc t a b v) (w + acc t a b v) (by omega)
      refine ⟨n + 1, ?_, ?_, .inr ⟨n, rfl, ?_⟩, by omega⟩
      · simp only [lstF, if_neg hp, e]; omega
      · simp only [rch]; omega
      · rcases h2 with h2 | ⟨m, hm, h2⟩
        · subst h2; simp [rch]; omega
        · subst hm; simp only [rch]; omega
end Go.Proofs.Ytiblkcbehcpjbaa
