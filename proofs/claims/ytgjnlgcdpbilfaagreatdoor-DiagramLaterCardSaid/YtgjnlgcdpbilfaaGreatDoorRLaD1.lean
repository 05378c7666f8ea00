/- DiagramChecks, DiagramStock. -/
import Derived.Test.YtgjnlgcdpbilfaaGreatDoorRows
import Derived.Test.YtgjnlgcdpbilfaaGreatDoorB16
import Derived.Test.YtgjnlgcdpbilfaaGreatDoorB17
import Derived.Test.YtgjnlgcdpbilfaaGreatDoorB13
import Derived.Test.YtgjnlgcdpbilfaaGreatDoorB11
namespace Go.Proofs.YtgjnlgcdpbilfaaGreatDoor
open Go.ChangeShapes Go.WideShapes Go.ChangeAt Go.RowKit Go.Maps
set_option linter.unusedVariables false
set_option linter.unusedSimpArgs false
theorem box_pd (P : Pln) (D : Dgm) (a1 a2 a3 a4 d1 d2 : Option Addr) (c1 c2 c3 c4 k1 k2 : Nat) (w w' : World) (g : Gr ((w.alloc (.cells #[.slice a1 P.es.length c1, .slice a2 P.js.length c2, .slice a3 P.ss.length c3, .slice a4 P.ls.length c4, .int .i64 P.top, .int .i64 P.brake, .int .i64 P.margin, .int .i64 P.throw, .bool P.hard] 27)).alloc (.cells #[.int .i64 D.beg, .slice d1 D.st.length k1, .slice d2 D.runs.length k2] 31)) w') : w.heap.size < w'.heap.size ∧ w'.cell? ⟨w.heap.size, 0, none⟩ = some (.slice a1 P.es.length c1) ∧ w'.cell? ⟨w.heap.size, 1, none⟩ = some (.slice a2 P.js.length c2) ∧ w'.cell? ⟨w.heap.size, 2, none⟩ = some (.slice a3 P.ss.length c3) ∧ w'.cell? ⟨w.heap.size, 3, none⟩ = some (.slice a4 P.ls.length c4) ∧ w'.cell? ⟨w.heap.size, 4, none⟩ = some (.int .i64 P.top) ∧ w'.cell? ⟨w.heap.size, 5, none⟩ = some (.int .i64 P.brake) ∧ w'.cell? ⟨w.heap.size, 6, none⟩ = some (.int .i64 P.margin) ∧ w'.cell? ⟨w.heap.size, 7, none⟩ = some (.int .i64 P.throw) ∧ w'.cell? ⟨w.heap.size, 8, none⟩ = some (.bool P.hard) ∧ w.heap.size + 1 < w'.heap.size ∧ w'.cell? ⟨w.heap.size + 1, 0, none⟩ = some (.int .i64 D.beg) ∧ w'.cell? ⟨w.heap.size + 1, 1, none⟩ = some (.slice d1 D.st.length k1) ∧ w'.cell? ⟨w.heap.size + 1, 2, none⟩ = some (.slice d2 D.runs.length k2) := by
  have z1 : w.heap.size + 1 < (((w.alloc (.cells #[.slice a1 P.es.length c1, .slice a2 P.js.length c2, .slice a3 P.ss.length c3, .slice a4 P.ls.length c4, .int .i64 P.top, .int .i64 P.brake, .int .i64 P.margin, .int .i64 P.throw, .bool P.hard] 27)).alloc (.cells #[.int .i64 D.beg, .slice d1 D.st.length k1, .slice d2 D.runs.length k2] 31))).heap.size := by simp
  have z0 : w.heap.size < (((w.alloc (.cells #[.slice a1 P.es.length c1, .slice a2 P.js.length c2, .slice a3 P.ss.length c3, .slice a4 P.ls.length c4, .int .i64 P.top, .int .i64 P.brake, .int .i64 P.margin, .int .i64 P.throw, .bool P.hard] 27)).alloc (.cells #[.int .i64 D.beg, .slice d1 D.st.length k1, .slice d2 D.runs.length k2] 31))).heap.size := by omega
  refine ⟨Nat.lt_of_lt_of_le z0 g.size, (g.cell _ _ z0).trans ?_, (g.cell _ _ z0).trans ?_, (g.cell _ _ z0).trans ?_, (g.cell _ _ z0).trans ?_, (g.cell _ _ z0).trans ?_, (g.cell _ _ z0).trans ?_, (g.cell _ _ z0).trans ?_, (g.cell _ _ z0).trans ?_, (g.cell _ _ z0).trans ?_, Nat.lt_of_lt_of_le z1 g.size, (g.cell _ _ z1).trans ?_, (g.cell _ _ z1).trans ?_, (g.cell _ _ z1).trans ?_⟩
  all_goals go_simp
end Go.Proofs.YtgjnlgcdpbilfaaGreatDoor
