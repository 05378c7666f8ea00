/- Helps: CiM. -/
import Derived.Test.YtknmngejjoohdaaGreatDoorRows
import Derived.Test.YtknmngejjoohdaaGreatDoorB16
import Derived.Test.YtknmngejjoohdaaGreatDoorB2
import Derived.Deep.LoopGhost
namespace Go.Proofs.YtknmngejjoohdaaGreatDoor
open Go.ChangeShapes Go.WideShapes Go.ChangeAt Go.RowKit Go.Maps
set_option linter.unusedVariables false
set_option linter.unusedSimpArgs false
def lightB (r:Rod):Bool:=decide (r.st.length ≤ 40) && decide (r.nd.length ≤ 40) && decide (r.gd.length ≤ 40) && decide (r.zn.length ≤ 60) && decide (r.hd.length ≤ 60)
def lightsB (L:List Rod):Bool:=decide (L.length ≤ 100) && L.all lightB
theorem lightB_yes {r:Rod} (h:lightB r = true):r.st.length ≤ 40∧r.nd.length ≤ 40∧r.gd.length ≤ 40∧r.zn.length ≤ 60∧r.hd.length ≤ 60:=by
 unfold lightB at h
 simp only [Bool.and_eq_true,decide_eq_true_eq] at h
 omega
set_option maxRecDepth 100000 in
set_option maxHeartbeats 4000000 in
theorem light_any (v:Value) (r:Rod) (w:World) (hv:IsRod w v r) :
  Calls Tryz.prog 19 #[v] w fun e w'=>e = .returned (.bool (lightB r))∧Gr w w':=by
 obtain ⟨⟨V1,V2,V3,V4,V5⟩,rfl,hS⟩:=hv
 obtain ⟨sa0,sc0,sv0,-⟩:=hS.st.form
 dsimp only at sv0
 subst sv0
 obtain ⟨sa1,sc1,sv1,-⟩:=hS.nd.form
 dsimp only at sv1
 subst sv1
 obtain ⟨sa2,sc2,sv2,-⟩:=hS.gd.form
 dsimp only at sv2
 subst sv2
 obtain ⟨sa3,sc3,sv3,-⟩:=hS.zn.form
 dsimp only at sv3
 subst sv3
 obtain ⟨sa4,sc4,sv4,-⟩:=hS.hd.form
 dsimp only at sv4
 subst sv4
 unfold rodV
 dsimp only
 have HL0:Hid (lightB r = (decide (r.st.length ≤ 40) && decide (r.nd.length ≤ 40) && decide (r.gd.length ≤ 40) && decide (r.zn.length ≤ 60) && decide (r.hd.length ≤ 60))):=rfl
 clear hS
 by_cases q0:r.st.length ≤ 40
 rotate_left
 ·have HL:Hid (lightB r = false):=Lib.hid (by rw [HL0.out];simp [q0])
  have i0:¬ (r.st.length:Int) ≤ 40:=by omega
  clear HL0
  (go_enter Tryz.func19,Tryz.ntmps19;go_wp2_with fail;go_ret;rw [HL.out];exact ⟨rfl,(Gr.refl _).alloc _⟩)
 have i0:(r.st.length:Int) ≤ 40:=by omega
 by_cases q1:r.nd.length ≤ 40
 rotate_left
 ·have HL:Hid (lightB r = false):=Lib.hid (by rw [HL0.out];simp [q1])
  have i1:¬ (r.nd.length:Int) ≤ 40:=by omega
  clear HL0
  (go_enter Tryz.func19,Tryz.ntmps19;go_wp2_with fail;go_ret;rw [HL.out];exact ⟨rfl,(Gr.refl _).alloc _⟩)
 have i1:(r.nd.length:Int) ≤ 40:=by omega
 by_cases q2:r.gd.length ≤ 40
 rotate_left
 ·have HL:Hid (lightB r = false):=Lib.hid (by rw [HL0.out];simp [q2])
  have i2:¬ (r.gd.length:Int) ≤ 40:=by omega
  clear HL0
  (go_enter Tryz.func19,Tryz.ntmps19;go_wp2_with fail;go_ret;rw [HL.out];exact ⟨rfl,(Gr.refl _).alloc _⟩)
 have i2:(r.gd.length:Int) ≤ 40:=by omega
 by_cases q3:r.zn.length ≤ 60
 rotate_left
 ·have HL:Hid (lightB r = false):=Lib.hid (by rw [HL0.out];simp [q3])
  have i3:¬ (r.zn.length:Int) ≤ 60:=by omega
  clear HL0
  (go_enter Tryz.func19,Tryz.ntmps19;go_wp2_with fail;go_ret;rw [HL.out];exact ⟨rfl,(Gr.refl _).alloc _⟩)
 have i3:(r.zn.length:Int) ≤ 60:=by omega
 by_cases q4:r.hd.length ≤ 60
 rotate_left
 ·have HL:Hid (lightB r = false):=Lib.hid (by rw [HL0.out];simp [q4])
  have i4:¬ (r.hd.length:Int) ≤ 60:=by omega
  clear HL0
  (go_enter Tryz.func19,Tryz.ntmps19;go_wp2_with fail;go_ret;rw [HL.out];exact ⟨rfl,(Gr.refl _).alloc _⟩)
 have i4:(r.hd.length:Int) ≤ 60:=by omega
 have HL:Hid (lightB r = true):=Lib.hid (by rw [HL0.out];simp [q0,q1,q2,q3,q4])
 clear HL0
 (go_enter Tryz.func19,Tryz.ntmps19;go_wp2_with fail;go_ret;rw [HL.out];exact ⟨rfl,(Gr.refl _).alloc _⟩)
set_option maxRecDepth 100000 in
set_option maxHeartbeats 4000000 in
theorem lights_any (v:Value) (L:List Rod) (w:World) (hv:IsRods w v L) :
  Calls Tryz.prog 62 #[v] w fun e w'=>e = .returned (.bool (lightsB L))∧Gr w w':=by
 have HV:=Lib.hid hv
 obtain ⟨a,c,rfl,hm,-⟩:=hv.form
 unfold maxLen at hm
 clear hv
 by_cases h100:L.length ≤ 100
 rotate_left
 ·have h1:(100:Int) < (L.length:Int):=by omega
  have HE:Hid (lightsB L = false):=Lib.hid (by unfold lightsB;simp [h100])
  go_enter Tryz.func62,Tryz.ntmps62
  go_wp2_with fail
  go_ret
  rw [HE.out]
  exact ⟨rfl,Gr.refl _⟩
 have h1:¬ (100:Int) < (L.length:Int):=by omega
 have HE:Hid (lightsB L = L.all lightB):=Lib.hid (by unfold lightsB;simp [h100])
 go_enter Tryz.func62,Tryz.ntmps62
 go_wp2_with fail
 go_loopg [3] L.length (fun n v3 wr=>∃ k:Nat,v3 = .int .i64 k∧k + n = L.length∧Gr w wr∧∀ r ∈ L.take k,lightB r = true)
 case atStart=>exact ⟨0,rfl,by omega,Gr.refl _,fun r hr=>absurd hr (by simp)⟩
 case round =>
  obtain ⟨k,rfl,hkn,g,hal⟩:=hrel
  have HAL:=Lib.hid hal
  clear hal
  by_cases hlt:k < L.length
  ·have hk1:(k:Int) < (L.length:Int):=by omega
   obtain ⟨n,rfl⟩:∃ n,gk = n + 1:=⟨gk - 1,by omega⟩
   obtain ⟨b1,o1,⟨V1,V2,V3,V4,V5⟩,hs1,z1,⟨y0,y1,y2,y3,y4,y5,y6,y7,y8⟩,hS⟩:=(HV.out.gr g).at k hlt
   subst hs1
   dsimp only at y3 y4 y5 y6 y7
   have HTK:Hid (∀ r ∈ L.take (k + 1),r ∈ L.take k ∨ r = L[k]):=Lib.hid (fun r hr=>by
    rw [List.take_add_one,List.getElem?_eq_getElem hlt] at hr
    rcases List.mem_append.1 hr with h | h
    ·exact .inl h
    ·exact .inr (by simpa using h))
   have HNO:Hid (lightB L[k] = false → L.all lightB = false):=Lib.hid fun h=>by
    rw [List.all_eq_false]
    exact ⟨L[k],List.getElem_mem hlt,by rw [h];simp⟩
   generalize L[k] = r at *
   obtain ⟨sa0,sc0,sv0,-⟩:=hS.st.form
   dsimp only at sv0
   subst sv0
   obtain ⟨sa1,sc1,sv1,-⟩:=hS.nd.form
   dsimp only at sv1
   subst sv1
   obtain ⟨sa2,sc2,sv2,-⟩:=hS.gd.form
   dsimp only at sv2
   subst sv2
   obtain ⟨sa3,sc3,sv3,-⟩:=hS.zn.form
   dsimp only at sv3
   subst sv3
   obtain ⟨sa4,sc4,sv4,-⟩:=hS.hd.form
   dsimp only at sv4
   subst sv4
   have HC:=Lib.hid (light_any _ r wr ⟨_,rfl,hS⟩)
   unfold rodV at HC
   dsimp only at HC
   clear hS
   cases hq:lightB r with
   | false =>
    rw [hq] at HC
    have HN:=Lib.hid (HNO.out hq)
    clear hq HTK HNO HAL
    go_wp2_with (first | (go_at_call 19;(with_reducible refine (HC.out).mono ?_);rintro e w2 ⟨rfl,g2⟩) | fail)
    go_ret
    rw [HE.out,HN.out]
    exact ⟨rfl,g.trans g2⟩
   | true =>
    rw [hq] at HC
    have HN:Hid (∀ r ∈ L.take (k + 1),lightB r = true):=Lib.hid (fun r' hr'=>by
     rcases HTK.out r' hr' with h | h
     ·exact HAL.out r' h
     ·rw [h];exact hq)
    clear hq HTK HNO HAL
    go_wp2_with (first | (go_at_call 19;(with_reducible refine (HC.out).mono ?_);rintro e w2 ⟨rfl,g2⟩) | fail)
    go_roundg n
    case rel=>exact ⟨k + 1,by go_num,by omega,g.trans g2,HN.out⟩
    case measure=>omega
  ·have hk1:¬ (k:Int) < (L.length:Int):=by omega
   have HN:Hid (L.all lightB = true):=Lib.hid (by
    rw [List.all_eq_true]
    intro r hr
    exact HAL.out r (by rw [List.take_of_length_le (by omega)];exact hr))
   go_wp2_with fail
   go_ret
   rw [HE.out,HN.out]
   exact ⟨rfl,g⟩
end Go.Proofs.YtknmngejjoohdaaGreatDoor
