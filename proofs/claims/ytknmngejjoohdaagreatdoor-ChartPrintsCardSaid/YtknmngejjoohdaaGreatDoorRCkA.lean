/- Helps: CkA. -/
import Derived.Test.YtknmngejjoohdaaGreatDoorRows
import Derived.Test.YtknmngejjoohdaaGreatDoorB33
import Derived.Test.YtknmngejjoohdaaGreatDoorRCiM
import Derived.Test.YtknmngejjoohdaaGreatDoorB9
namespace Go.Proofs.YtknmngejjoohdaaGreatDoor
open Go.ChangeShapes Go.WideShapes Go.ChangeAt Go.RowKit Go.Maps
set_option linter.unusedVariables false
set_option linter.unusedSimpArgs false
theorem enW_size9 {e l:Int} (hl:l = 0 ∨ l = -1):(enW e l).size ≤ 100:=by
 unfold enW
 by_cases h:e < l ∨ 3 < e
 ·rw [if_pos h];decide
 rw [if_neg h]
 by_cases h2:e < 0
 ·rw [if_pos h2];decide
 rw [if_neg h2]
 have h3:e = 0 ∨ e = 1 ∨ e = 2 ∨ e = 3:=by omega
 rcases h3 with rfl | rfl | rfl | rfl <;> exact of_decide_eq_true (by kernel_rfl)
theorem elW_size9 {P:Pln} (h:∀ e ∈ P.es,e.n.size ≤ 100) (e:Int):(elW P e).size ≤ 100:=by
 unfold elW
 split
 ·rename_i hc
  have hl:e.toNat < P.es.length:=by omega
  rw [getD_at _ _ hl]
  exact h _ (List.getElem_mem hl)
 ·decide
theorem sgW_size9 {P:Pln} (h:∀ e ∈ P.ss,e.n.size ≤ 100) (e:Int):(sgW P e).size ≤ 100:=by
 unfold sgW
 split
 ·rename_i hc
  have hl:e.toNat < P.ss.length:=by omega
  rw [getD_at _ _ hl]
  exact h _ (List.getElem_mem hl)
 ·decide
theorem poW_size9 (p:Int):(poW p).size ≤ 100:=by
 unfold poW
 split
 ·decide
 split
 ·decide
 ·decide
theorem road_words9 {P:Pln} (he:∀ e ∈ P.es,e.n.size ≤ 100) (hs:∀ e ∈ P.ss,e.n.size ≤ 100) {r:Rod} {e:List ByteArray} (h:endW P r = some e):∀ x ∈ roadW P r e,x.size ≤ 100:=by
 have h2:∀ x ∈ e,x.size ≤ 100:=by
  intro x hx
  unfold endW at h
  split at h
  ·cases h
   rcases List.mem_cons.1 hx with rfl | hx
   ·decide
   ·rw [List.mem_singleton.1 hx];exact sgW_size9 hs _
  split at h
  ·cases h
   rw [List.mem_singleton.1 hx];decide
  split at h
  ·cases h
   rw [List.mem_singleton.1 hx];decide
  ·cases h
 intro x hx
 unfold roadW at hx
 simp only [List.mem_append,List.mem_flatMap] at hx
 rcases hx with ((((((hx | hx) | ⟨a,-,hx⟩) | ⟨a,-,hx⟩) | ⟨a,-,hx⟩) | ⟨a,-,hx⟩) | ⟨a,-,hx⟩) | hx
 ·simp only [List.mem_cons,List.not_mem_nil,or_false] at hx
  rcases hx with rfl | rfl
  ·decide
  ·exact sgW_size9 hs _
 ·exact h2 x hx
 ·simp only [stpW,List.mem_cons,List.not_mem_nil,or_false] at hx
  rcases hx with rfl | rfl | rfl | rfl
  ·decide
  ·exact elW_size9 he _
  ·exact enW_size9 (.inl rfl)
  ·exact enW_size9 (.inr rfl)
 ·simp only [ndW,List.mem_cons,List.not_mem_nil,or_false] at hx
  rcases hx with rfl | rfl | rfl
  ·decide
  ·exact elW_size9 he _
  ·exact poW_size9 _
 ·simp only [ndW,List.mem_cons,List.not_mem_nil,or_false] at hx
  rcases hx with rfl | rfl | rfl
  ·decide
  ·exact elW_size9 he _
  ·exact poW_size9 _
 ·simp only [znW,List.mem_cons,List.not_mem_nil,or_false] at hx
  rcases hx with rfl | rfl
  ·decide
  ·exact elW_size9 he _
 ·simp only [hdW,List.mem_cons,List.not_mem_nil,or_false] at hx
  rcases hx with rfl | rfl
  ·decide
  ·exact sgW_size9 hs _
 ·unfold bareW at hx
  split at hx
  ·rw [List.mem_singleton.1 hx];decide
  ·cases hx
theorem light_rodB {P:Pln} (hf:fewB P = true) {r:Rod} (hl:lightB r = true):RodB P r:=by
 obtain ⟨-,-,-,-,-,he,hs⟩:=few_bd hf
 obtain ⟨l1,l2,l3,l4,l5⟩:=lightB_yes hl
 refine ⟨by omega,fun e h=>?_⟩
 have h1:=jnW_le 100 (roadW P r e) (road_words9 he hs h)
 have h2:=roadWl_len h
 omega
theorem lights_rodB {P:Pln} (hf:fewB P = true) {L:List Rod} (hl:lightsB L = true):L.length ≤ 1000∧∀ r ∈ L,RodB P r:=by
 unfold lightsB at hl
 simp only [Bool.and_eq_true,decide_eq_true_eq,List.all_eq_true] at hl
 exact ⟨by omega,fun r hr=>light_rodB hf (hl.2 r hr)⟩
end Go.Proofs.YtknmngejjoohdaaGreatDoor
