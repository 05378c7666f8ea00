/- Helps: ChF. -/
import Derived.Test.YtknmngejjoohdaaGreatDoorRows
import Derived.Test.YtknmngejjoohdaaGreatDoorB16
import Derived.Test.YtknmngejjoohdaaGreatDoorB15
namespace Go.Proofs.YtknmngejjoohdaaGreatDoor
open Go.ChangeShapes Go.WideShapes Go.ChangeAt Go.RowKit Go.Maps
set_option linter.unusedVariables false
set_option linter.unusedSimpArgs false
theorem jnW_more:∀ (A:List ByteArray) (x:ByteArray),A ≠ [] → jnW (A ++ [x]) = jnW A ++ ⟨#[32]⟩ ++ x
 | [],x,h=>absurd rfl h
 | [a],x,_=>by rw [List.cons_append,List.nil_append,jnW_cons,jnW_lone,jnW_lone]
 | a :: b :: t,x,_=>by
  have ih:=jnW_more (b :: t) x (by simp)
  rw [List.cons_append,List.cons_append,jnW_cons]
  rw [List.cons_append] at ih
  rw [ih,jnW_cons]
  apply ByteArray.ext
  simp [ByteArray.data_append]
theorem jnW_zero {L:List ByteArray} (h:badW L = false) (hs:(jnW L).size = 0):L = []:=by
 cases L with
 | nil=>rfl
 | cons a t =>
  exfalso
  have ha:a.size ≠ 0:=by
   unfold badW at h
   rw [List.any_eq_false] at h
   simpa using h a (by simp)
  cases t with
  | nil=>rw [jnW_lone] at hs;exact ha hs
  | cons b t=>rw [jnW_cons,ByteArray.size_append,ByteArray.size_append] at hs;omega
def LotS (w0:World) (b:Nat) (w:World) (L:List ByteArray):Prop :=
 (Gr w0 w∧w0.heap.size ≤ b)∧∃ s:ByteArray,w.heap[b]? = some (.cells #[.string s,.bool (badW L)] 107)∧(badW L = false → s = jnW L)∧s.size ≤ 102 * L.length
theorem LotS.gr {w0 w w':World} {b:Nat} {L:List ByteArray} (h:LotS w0 b w L) (g:Gr w w'):LotS w0 b w' L:=by
 obtain ⟨⟨h1,h2⟩,s,h3,h4,h5⟩:=h
 exact ⟨⟨h1.trans g,h2⟩,s,(g.block b (heap_lt h3)).trans h3,h4,h5⟩
theorem LotS.new (w:World):LotS w w.heap.size (w.alloc (.cells #[.string ⟨#[]⟩,.bool false] 107)) [] :=
 ⟨⟨(Gr.refl _).alloc _,Nat.le_refl _⟩,⟨#[]⟩,heap_alloc_new w _,fun _=>rfl,Nat.le_refl _⟩
theorem LotS.end_ {w0 w:World} {b:Nat} {L:List ByteArray} {s x s':ByteArray} {q:Bool} {a1:World} (h1:Gr w0 w) (h2:w0.heap.size ≤ b) (hh:a1.heap[b]? = some (.cells #[.string s',.bool q] 107)) (hg:Gr w0 a1) (hs:badW L = false → s = jnW L) (hz:s.size ≤ 102 * L.length) (hq:q = badW (L ++ [x])) (hx:x.size ≤ 101)
  (he:s' = if s.size = 0 then s ++ x else s ++ ⟨#[32]⟩ ++ x):LotS w0 b a1 (L ++ [x]):=by
 subst hq
 refine ⟨⟨hg,h2⟩,s',hh,fun hb=>?_,?_⟩
 ·rw [badW_one] at hb
  simp only [Bool.or_eq_false_iff,decide_eq_false_iff_not] at hb
  have e:=hs hb.1
  subst e
  rw [he]
  by_cases h0:(jnW L).size = 0
  ·have:=jnW_zero hb.1 h0
   subst this
   rw [if_pos h0,List.nil_append,jnW_lone]
   apply ByteArray.ext
   simp [ByteArray.data_append]
   rfl
  ·rw [if_neg h0,jnW_more L x (fun e=>h0 (by rw [e];rfl))]
 ·rw [List.length_append,List.length_singleton,he]
  split
  ·rw [ByteArray.size_append];omega
  ·rw [ByteArray.size_append,ByteArray.size_append]
   show s.size + 1 + x.size ≤ _
   omega
theorem two_set {w:World} {b:Nat} {u0 u1:Value} {T:TypeId} (hh:w.heap[b]? = some (.cells #[u0,u1] T)) (v1 v0:Value):((w.setCell ⟨b,1,none⟩ v1).setCell ⟨b,0,none⟩ v0).heap[b]? = some (.cells #[v0,v1] T):=by
 rw [heap_setCell_same _ b 0 _ _ _ (heap_setCell_same w b 1 _ _ _ hh)];rfl
theorem one_set {w:World} {b:Nat} {u0 u1:Value} {T:TypeId} (hh:w.heap[b]? = some (.cells #[u0,u1] T)) (v0:Value):(w.setCell ⟨b,0,none⟩ v0).heap[b]? = some (.cells #[v0,u1] T):=by
 rw [heap_setCell_same _ b 0 _ _ _ hh];rfl
set_option maxRecDepth 100000 in
set_option maxHeartbeats 2000000 in
theorem lotPut_any (w0:World) (b:Nat) (w:World) (L:List ByteArray) (x:ByteArray) (h:LotS w0 b w L) (hl:L.length ≤ 9000) (hx:x.size ≤ 101) :
  Calls Tryz.prog 57 #[.pointer (some ⟨b,0,none⟩),.string x] w fun e' w'=>e' = .returned (.tuple #[])∧LotS w0 b w' (L ++ [x]):=by
 obtain ⟨⟨g0,hb0⟩,s,hh,hs,hz⟩:=h
 have hbz:=heap_lt hh
 have c0:w.cell? ⟨b,0,none⟩ = some (.string s):=by rw [cell_of_row _ _ _ _ _ _ hh];rfl
 have c1:w.cell? ⟨b,1,none⟩ = some (.bool (badW L)):=by rw [cell_of_row _ _ _ _ _ _ hh];rfl
 have f0:=frozen_of_row w b 0 _ _ hh
 have f1:=frozen_of_row w b 1 _ _ hh
 have e1:(x.toList == []) = decide (x.size = 0):=by
  by_cases h0:x.size = 0
  ·rw [decide_eq_true h0,toList_nil.2 h0];rfl
  ·rw [decide_eq_false h0];have:¬ x.toList = []:=fun e=>h0 (toList_nil.1 e);simpa using this
 have e2:x.toList.isEmpty = decide (x.size = 0):=by
  by_cases h0:x.size = 0
  ·rw [decide_eq_true h0,toList_nil.2 h0];rfl
  ·rw [decide_eq_false h0];have:¬ x.toList = []:=fun e=>h0 (toList_nil.1 e);simp [List.isEmpty_iff,this]
 have s1:(s.toList != []) = !decide (s.size = 0):=by
  by_cases h0:s.size = 0
  ·rw [decide_eq_true h0,toList_nil.2 h0];rfl
  ·rw [decide_eq_false h0];have:¬ s.toList = []:=fun e=>h0 (toList_nil.1 e);simpa using this
 have s2:s.toList.isEmpty = decide (s.size = 0):=by
  by_cases h0:s.size = 0
  ·rw [decide_eq_true h0,toList_nil.2 h0];rfl
  ·rw [decide_eq_false h0];have:¬ s.toList = []:=fun e=>h0 (toList_nil.1 e);simp [List.isEmpty_iff,this]
 have HB:=badW_one L x
 have hsz:s.size ≤ 1000000:=by omega
 have HS:=Lib.hid hs
 have HZ:=Lib.hid hz
 have HBQ:=Lib.hid HB
 have HG:=Lib.hid g0
 have HHH:=Lib.hid hh
 clear hs hz HB g0 hh
 have q1:¬ 9223372036854775807 < s.size + 1:=by omega
 have q2:¬ 9223372036854775807 < s.size + 1 + x.size:=by omega
 have q3:¬ 9223372036854775807 < s.size + x.size:=by omega
 by_cases h0:s.size = 0
 ·rw [decide_eq_true h0] at s1 s2
  have HE:Hid (s ++ x = if s.size = 0 then s ++ x else s ++ ⟨#[32]⟩ ++ x):=by show _ = _;rw [if_pos h0]
  clear h0
  obtain ⟨q,hbq⟩:∃ q,badW L = q:=⟨_,rfl⟩
  rw [hbq] at c1 HBQ
  clear hbq
  generalize decide (x.size = 0) = qx at *
  cases q <;> cases qx
  all_goals
   go_enter Tryz.func57,Tryz.ntmps57
   go_wp2_with fail
   ((try simp only [Exit.inBlock,Exit.then]);(first | refine bodyPost_ret (results_none rfl _ _ _) rfl ?_ | refine bodyPost_end (results_none rfl _ _ _) rfl ?_))
   exact ⟨rfl,LotS.end_ HG.out hb0 (two_set HHH.out _ _) ((HG.out.setCell hb0 _).setCell hb0 _) HS.out HZ.out HBQ.out.symm hx HE.out⟩
 ·rw [decide_eq_false h0] at s1 s2
  have HE:Hid (s ++ ⟨#[32]⟩ ++ x = if s.size = 0 then s ++ x else s ++ ⟨#[32]⟩ ++ x):=by show _ = _;rw [if_neg h0]
  clear h0
  obtain ⟨q,hbq⟩:∃ q,badW L = q:=⟨_,rfl⟩
  rw [hbq] at c1 HBQ
  clear hbq
  generalize decide (x.size = 0) = qx at *
  cases q <;> cases qx
  all_goals
   go_enter Tryz.func57,Tryz.ntmps57
   go_wp2_with fail
   ((try simp only [Exit.inBlock,Exit.then]);(first | refine bodyPost_ret (results_none rfl _ _ _) rfl ?_ | refine bodyPost_end (results_none rfl _ _ _) rfl ?_))
   exact ⟨rfl,LotS.end_ HG.out hb0 (one_set (two_set HHH.out _ _) _) (((HG.out.setCell hb0 _).setCell hb0 _).setCell hb0 _) HS.out HZ.out HBQ.out.symm hx HE.out⟩
set_option maxRecDepth 100000 in
set_option maxHeartbeats 2000000 in
theorem elW12_any (pv:Value) (P:Pln) (x:Int) (w:World) (hP:IsPln w pv P) :
  Calls Tryz.prog 59 #[pv,.int .i64 x] w fun e w'=>e = .returned (.string (elW P x))∧Gr w w':=by
 obtain ⟨a1,k1,a2,k2,a3,k3,a4,k4,rfl,he,-⟩:=hP
 unfold plnV
 have hm:=IsRow.len he
 unfold maxLen at hm
 have g1:Gr w (w.alloc (.cells #[.slice a1 P.es.length k1,.slice a2 P.js.length k2,.slice a3 P.ss.length k3,.slice a4 P.ls.length k4,.int .i64 P.top,.int .i64 P.brake,.int .i64 P.margin,.int .i64 P.throw,.bool P.hard] 28)):=(Gr.refl _).alloc _
 by_cases h0:x < 0
 ·have hq:elW P x = bNil:=by unfold elW;rw [if_neg (by omega)]
  rw [hq]
  go_enter Tryz.func59,Tryz.ntmps59
  go_wp2_with fail
  go_ret
  exact ⟨rfl,g1⟩
 by_cases h1:(P.es.length:Int) ≤ x
 ·have hq:elW P x = bNil:=by unfold elW;rw [if_neg (by omega)]
  rw [hq]
  go_enter Tryz.func59,Tryz.ntmps59
  go_wp2_with fail
  go_ret
  exact ⟨rfl,g1⟩
 obtain ⟨k,rfl⟩:∃ k:Nat,x = k:=⟨x.toNat,by omega⟩
 have hk:k < P.es.length:=by omega
 have hq:elW P (k:Int) = P.es[k].n:=by unfold elW;rw [if_pos ⟨by omega,by omega⟩,show ((k:Int)).toNat = k by omega,getD_at _ _ hk]
 rw [hq]
 obtain ⟨eb,eo,hs,z,y0,-⟩:=(IsEles.gr he g1).at k hk
 subst hs
 have jk:((k:Int)).toNat = k:=by omega
 have hk1:(k:Int) < (P.es.length:Int):=by omega
 have hk2:(0:Int) ≤ (k:Int):=by omega
 generalize P.es[k].n = xx at *
 clear hq he
 go_enter Tryz.func59,Tryz.ntmps59
 go_wp2_with fail
 go_ret
 exact ⟨rfl,g1⟩
set_option maxRecDepth 100000 in
set_option maxHeartbeats 2000000 in
theorem sgW12_any (pv:Value) (P:Pln) (x:Int) (w:World) (hP:IsPln w pv P) :
  Calls Tryz.prog 58 #[pv,.int .i64 x] w fun e w'=>e = .returned (.string (sgW P x))∧Gr w w':=by
 obtain ⟨a1,k1,a2,k2,a3,k3,a4,k4,rfl,-,-,he,-⟩:=hP
 unfold plnV
 have hm:=IsRow.len he
 unfold maxLen at hm
 have g1:Gr w (w.alloc (.cells #[.slice a1 P.es.length k1,.slice a2 P.js.length k2,.slice a3 P.ss.length k3,.slice a4 P.ls.length k4,.int .i64 P.top,.int .i64 P.brake,.int .i64 P.margin,.int .i64 P.throw,.bool P.hard] 28)):=(Gr.refl _).alloc _
 by_cases h0:x < 0
 ·have hq:sgW P x = bNil:=by unfold sgW;rw [if_neg (by omega)]
  rw [hq]
  go_enter Tryz.func58,Tryz.ntmps58
  go_wp2_with fail
  go_ret
  exact ⟨rfl,g1⟩
 by_cases h1:(P.ss.length:Int) ≤ x
 ·have hq:sgW P x = bNil:=by unfold sgW;rw [if_neg (by omega)]
  rw [hq]
  go_enter Tryz.func58,Tryz.ntmps58
  go_wp2_with fail
  go_ret
  exact ⟨rfl,g1⟩
 obtain ⟨k,rfl⟩:∃ k:Nat,x = k:=⟨x.toNat,by omega⟩
 have hk:k < P.ss.length:=by omega
 have hq:sgW P (k:Int) = P.ss[k].n:=by unfold sgW;rw [if_pos ⟨by omega,by omega⟩,show ((k:Int)).toNat = k by omega,getD_at _ _ hk]
 rw [hq]
 obtain ⟨eb,eo,hs,z,y0,-⟩:=(IsSgs.gr he g1).at k hk
 subst hs
 have jk:((k:Int)).toNat = k:=by omega
 have hk1:(k:Int) < (P.ss.length:Int):=by omega
 have hk2:(0:Int) ≤ (k:Int):=by omega
 generalize P.ss[k].n = xx at *
 clear hq he
 go_enter Tryz.func58,Tryz.ntmps58
 go_wp2_with fail
 go_ret
 exact ⟨rfl,g1⟩
set_option maxRecDepth 100000 in
theorem enW12_any (x y:Int) (w:World) (hy : -1 ≤ y) :
  Calls Tryz.prog 60 #[.int .i64 x,.int .i64 y] w fun e w'=>e = .returned (.string (enW x y))∧Gr w w':=by
 unfold enW
 by_cases h0:x < y
 ·rw [if_pos (.inl h0)]
  go_enter Tryz.func60,Tryz.ntmps60
  go_wp2_with fail
  go_ret
  exact ⟨rfl,Gr.refl _⟩
 by_cases h1:3 < x
 ·rw [if_pos (.inr h1)]
  go_enter Tryz.func60,Tryz.ntmps60
  go_wp2_with fail
  go_ret
  exact ⟨rfl,Gr.refl _⟩
 rw [if_neg (by omega)]
 by_cases h2:x < 0
 ·rw [if_pos h2]
  go_enter Tryz.func60,Tryz.ntmps60
  go_wp2_with fail
  go_ret
  exact ⟨rfl,Gr.refl _⟩
 rw [if_neg h2]
 have HD:=Lib.hid (refDigits_any x.natAbs x w (Nat.le_refl _) (by omega) (by omega))
 generalize dgs x = d at *
 go_enter Tryz.func60,Tryz.ntmps60
 go_wp2_with (first | (go_at_call 123;(with_reducible refine (HD.out).mono ?_);rintro e5 w5 ⟨rfl,g5⟩) | fail)
 go_ret
 exact ⟨rfl,g5⟩
theorem poW12_any (x:Int) (w:World):Calls Tryz.prog 61 #[.int .i64 x] w fun e w'=>e = .returned (.string (poW x))∧Gr w w':=by
 unfold poW
 by_cases h1:x = 1
 ·subst h1
  rw [if_pos rfl]
  go_enter Tryz.func61,Tryz.ntmps61
  go_wp2_with fail
  go_ret
  exact ⟨rfl,Gr.refl _⟩
 rw [if_neg h1]
 have t1:=beqF h1
 by_cases h2:x = 2
 ·subst h2
  rw [if_pos rfl]
  go_enter Tryz.func61,Tryz.ntmps61
  go_wp2_with fail
  go_ret
  exact ⟨rfl,Gr.refl _⟩
 rw [if_neg h2]
 have t2:=beqF h2
 clear h1 h2
 go_enter Tryz.func61,Tryz.ntmps61
 go_wp2_with fail
 go_ret
 exact ⟨rfl,Gr.refl _⟩
end Go.Proofs.YtknmngejjoohdaaGreatDoor
