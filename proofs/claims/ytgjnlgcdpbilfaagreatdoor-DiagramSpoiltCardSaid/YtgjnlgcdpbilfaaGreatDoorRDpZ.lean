/- The reference's reader of timetables: the ends: what the diagram's box holds behind the append and the store. No walk. -/
import Derived.Test.YtgjnlgcdpbilfaaGreatDoorRows
import Derived.Test.YtgjnlgcdpbilfaaGreatDoorB9
namespace Go.Proofs.YtgjnlgcdpbilfaaGreatDoor
open Go.ChangeShapes Go.WideShapes Go.ChangeAt Go.RowKit Go.Maps
set_option linter.unusedVariables false
set_option linter.unusedSimpArgs false
def RetLr (T : TypeId) (w0 : World) (b o B : Nat) (r : Int ⊕ Dgm) (x : Ending) (w' : World) : Prop := RetLn T w0 b o B (fun _ => True) r x w'
theorem RetLr.no {T : TypeId} {w0 w' : World} {b o B : Nat} {r : Int ⊕ Dgm} {n : Int} (h : r = .inl n) (g : Gr w0 w') : RetLr T w0 b o B r (.returned (.int .i64 n)) w' := RetLn.no h g
theorem train_endR {T : TypeId} (hT : T ≠ 51) {b o B gg cap rc : Nat} {ra : Option Addr} {D : Dgm} {w0 w wq w9 : World} {sv : Value} {A : List (Rn × Value)} {M : Nat} {R : Int ⊕ Dgm} {r : Rn}
    (hbx : Bx T b o w D.beg sv (.slice ra A.length rc)) (k1 : OwnK B w sv D.st) (k2 : OwnRn B w (.slice ra A.length rc) A) (k3 : Lgs B M w A) (k4 : A.map Prod.fst = D.runs) (k5 : M ≤ w.heap.size) (k6 : B ≤ M) (hbB : b < B)
    (g0 : Gr w0 w) (hb : w0.heap.size ≤ b) (gq : Gr w wq) (hr : r.legs = []) (hR : R = .inr { D with runs := D.runs ++ [r] })
    (hgrow : wq.grownBy w9 (Value.slice ra A.length rc).ownBlock) (hown : w9.ownsRow B 51 5 (.slice (some ⟨gg, 0, none⟩) (A.length + 1) cap) (A.length + 1) (runCs A ++ r.cs (.slice none 0 0))) :
    RetLr T w0 b o B R (.returned (.int .i64 0)) (w9.setCell ⟨b, o + 2, none⟩ (.slice (some ⟨gg, 0, none⟩) (A.length + 1) cap)) := by
  have hd := Rd.run hT (hbx.gr gq) (own_gr k1 gq) (own_gr k2 gq) (k3.gr gq) k4 (Nat.le_trans k5 gq.size) k6 hbB hgrow hr hown
  refine RetLn.yes hR ?_ trivial hd
  exact (Gr.grown (g0.trans gq) hgrow (own_base_le k2 (show w0.heap.size ≤ B by omega))).setCell hb _
theorem leg_endR {T : TypeId} (hT : T ≠ 54) (hT2 : T ≠ 51) {b o B g c gg cap uc : Nat} {ua : Option Addr} {D : Dgm} {w0 w wq w9 : World} {sv : Value} {A : List (Rn × Value)} {M : Nat} {R : Int ⊕ Dgm} {r : Rn} {x : Leg}
    (hbx : Bx T b o w D.beg sv (.slice (some ⟨g, 0, none⟩) (A.length + 1) c)) (k1 : OwnK B w sv D.st) (k2 : OwnRn B w (.slice (some ⟨g, 0, none⟩) (A.length + 1) c) (A ++ [(r, .slice ua r.legs.length uc)]))
    (k3 : ∀ x ∈ A, OwnLg B w x.2 x.1.legs ∧ x.1.legs.length ≤ maxLen ∧ ∀ k, x.2.ownBlock = some k → k < M) (k7 : OwnLg M w (.slice ua r.legs.length uc) r.legs) (k8 : r.legs.length + 1 ≤ maxLen) (k4 : (A ++ [(r, Value.slice ua r.legs.length uc)]).map Prod.fst = D.runs) (k5 : M ≤ w.heap.size) (k6 : B ≤ M) (hbB : b < B)
    (hgb : B ≤ g) (g0 : Gr w0 w) (hb : w0.heap.size ≤ b) (gq : Gr w wq) (hR : R = .inr { D with runs := addLeg D.runs x })
    (hgrow : wq.grownBy w9 (Value.slice ua r.legs.length uc).ownBlock) (hown : w9.ownsRow M 54 4 (.slice (some ⟨gg, 0, none⟩) (r.legs.length + 1) cap) (r.legs.length + 1) (r.legs.flatMap Leg.cs ++ x.cs)) :
    RetLr T w0 b o B R (.returned (.int .i64 0)) (w9.setCell ⟨g, A.length * 5 + 4, none⟩ (.slice (some ⟨gg, 0, none⟩) (r.legs.length + 1) cap)) := by
  have hd' := Rd.leg hT hT2 (hbx.gr gq) (own_gr k1 gq) (own_gr k2 gq) (fun x hx => ⟨own_gr (k3 x hx).1 gq, (k3 x hx).2⟩) (own_gr k7 gq) k8 k4 (Nat.le_trans k5 gq.size) k6 hbB hgrow hown
  refine RetLn.yes hR ?_ trivial hd'
  exact (Gr.grown (g0.trans gq) hgrow (own_base_le k7 (show w0.heap.size ≤ M by omega))).setCell (by simp; omega) _
theorem rd_cells0 {T : TypeId} {b : Nat} {w : World} {D : Dgm} {sv rv : Value} (h : Bx T b 0 w D.beg sv rv) : ∀ w', Gr w w' → b < w'.heap.size ∧ w'.cell? ⟨b, 0, none⟩ = some (.int .i64 D.beg) ∧ w'.cell? ⟨b, 1, none⟩ = some sv ∧ w'.cell? ⟨b, 2, none⟩ = some rv := fun w' g => ⟨(h.gr g).lt, (h.gr g).2.1, (h.gr g).2.2.1, (h.gr g).2.2.2⟩
end Go.Proofs.YtgjnlgcdpbilfaaGreatDoor
