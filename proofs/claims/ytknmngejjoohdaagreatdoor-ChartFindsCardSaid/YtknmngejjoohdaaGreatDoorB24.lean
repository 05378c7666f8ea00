/- Helps:
CjH
CjG
ChQ
DrL
-/
import Derived.Test.YtknmngejjoohdaaGreatDoorRows
import Derived.Test.YtknmngejjoohdaaGreatDoorB23
import Derived.Deep.AppendLies
import Derived.Test.YtknmngejjoohdaaGreatDoorB10
import Derived.Test.YtknmngejjoohdaaGreatDoorB16
namespace Go.Proofs.YtknmngejjoohdaaGreatDoor
open Go.ChangeShapes Go.WideShapes Go.ChangeAt Go.RowKit Go.Maps
set_option linter.unusedVariables false
set_option linter.unusedSimpArgs false
def OfX (b b7:Nat) (v1 v2 v3 vo:Value) (k:Nat):Prop:=PaX b v1 v2 v3 k ∨ (vo.ownBlock = some k ∨ k = b7)
structure OfS (w0:World) (b b7:Nat) (be:Int) (Q:List (Fr × Value)) (O:List (Rod × S5)) (v1 v2 v3 vo:Value) (x:Prt) (w:World):Prop where
 gr:Gr w0 w
 lo:w0.heap.size ≤ b∧w0.heap.size ≤ b7
 pa:PaS w0.heap.size w b be Q v1 v2 v3
 ways:WaysQ (OfX b b7 v1 v2 v3 vo) w Q
 out:OwnRd w0.heap.size w vo O
 rods:Frz (OfX b b7 v1 v2 v3 vo) w fun w'=>RodsN w0.heap.size w' O
 x7:w.heap[b7]? = some (.cells #[.int .i64 x.e,.int .i64 x.x] 67)
section
variable {w0 w w' w2 w9 wq:World} {b b7:Nat} {be:Int} {Q:List (Fr × Value)} {O:List (Rod × S5)} {v1 v2 v3 vo:Value} {x:Prt}
theorem OfS.lt (h:OfS w0 b b7 be Q O v1 v2 v3 vo x w):∀ k,OfX b b7 v1 v2 v3 vo k → k < w.heap.size:=fun k hk=>by
 rcases hk with hk | hk | hk
 ·exact h.pa.toR.lt k hk
 ·exact own_lt h.out k hk
 ·rw [hk];exact heap_lt h.x7
theorem OfS.grow (h:OfS w0 b b7 be Q O v1 v2 v3 vo x w) (g:Gr w w'):OfS w0 b b7 be Q O v1 v2 v3 vo x w' :=
 ⟨h.gr.trans g,h.lo,h.pa.gr g,h.ways.sub (Kp.gr g) fun i hi=>.inl hi,own_gr h.out g,h.rods.gr g,(g.block b7 (heap_lt h.x7)).trans h.x7⟩
theorem OfS.push {P:Pln} (h:OfS w0 b b7 be Q O v1 v2 v3 vo x w) (hp:PushD w0 w b be Q v1 v2 v3 P x (fun k=>vo.ownBlock = some k ∨ k = b7) w'):∃ v u1 u2 u3,OfS w0 b b7 be (Q ++ [(pushF P x,v)]) O u1 u2 u3 vo x w':=by
 obtain ⟨g,v,u1,u2,u3,p1,k1,s1,f1,c1⟩:=hp
 have hR:=h.pa.toR
 have kX:Kp (OfX b b7 v1 v2 v3 vo) w w':=k1.mono fun k _ hk=>.inl hk
 have sX:∀ k,OfX b b7 u1 u2 u3 vo k → OfX b b7 v1 v2 v3 vo k ∨ w.heap.size ≤ k:=fun k hk=>by
  rcases hk with hk | hk
  ·rcases s1 k hk with h | h
   ·exact .inl (.inl h)
   ·exact .inr h
  ·exact .inl (.inr hk)
 refine ⟨v,u1,u2,u3,g,h.lo,p1,fun q hq=>?_,?_,h.rods.sub kX sX,?_⟩
 ·rcases List.mem_append.1 hq with hq | hq
  ·exact ⟨(h.ways q hq).1.sub kX sX,(h.ways q hq).2⟩
  ·rw [List.mem_singleton.1 hq]
   exact ⟨f1,c1⟩
 ·refine own_at h.out fun k hk=>k1.2 k (own_lt h.out k hk) fun hx=>?_
  rcases hx with hx | hx | hx | hx
  ·exact own_ne h.out h.pa.box (by decide) (by rw [hk,hx])
  ·exact own_two h.out h.pa.st (by decide) hk hx rfl
  ·exact own_two h.out h.pa.po (by decide) hk hx rfl
  ·exact own_two h.out h.pa.le (by decide) hk hx rfl
 ·refine (k1.2 b7 (heap_lt h.x7) fun hx=>?_).trans h.x7
  rcases hx with hx | hx | hx | hx
  ·have h1:=h.pa.box
   rw [← hx,h.x7] at h1
   simp at h1
  ·exact own_ne h.pa.st h.x7 (by decide) hx.symm
  ·exact own_ne h.pa.po h.x7 (by decide) hx.symm
  ·exact own_ne h.pa.le h.x7 (by decide) hx.symm
theorem OfS.put {r:Rod} {V:S5} {gg n c M:Nat} (h:OfS w0 b b7 be Q O v1 v2 v3 vo x w) (hM:∀ k,OfX b b7 v1 v2 v3 vo k → k < M) (hM0:w0.heap.size ≤ M) (hr:RodN M w V r) (hl:RodLe r) (gq:Gr w wq) (hgrow:wq.grownBy w9 vo.ownBlock)
  (hown:w9.ownsRow w0.heap.size 45 9 (.slice (some ⟨gg,0,none⟩) n c) (O.length + 1) ((O.flatMap fun p=>rodCs p.1 p.2) ++ rodCs r V)) (hat:vo.ownBlock = some gg ∨ gg = wq.heap.size):OfS w0 b b7 be Q (O ++ [(r,V)]) v1 v2 v3 (.slice (some ⟨gg,0,none⟩) n c) x w9:=by
 have hq:=h.grow gq
 have kX:Kp (OfX b b7 v1 v2 v3 vo) w w9:=(Kp.gr gq).trans (Kp.grown hgrow fun k hk=>.inr (.inl hk))
 have zq:=gq.size
 have sX:∀ k,OfX b b7 v1 v2 v3 (.slice (some ⟨gg,0,none⟩) n c) k → OfX b b7 v1 v2 v3 vo k ∨ w.heap.size ≤ k:=fun k hk=>by
  rcases hk with hk | hk | hk
  ·exact .inl (.inl hk)
  ·rcases grown_at (W:=w) hat zq k hk with h | h
   ·exact .inl (.inr (.inl h))
   ·exact .inr h
  ·exact .inl (.inr (.inr hk))
 refine ⟨Gr.grown hq.gr hgrow hq.out,h.lo,⟨?_,?_,?_,?_⟩,h.ways.sub kX sX,OwnRd.snoc hown,?_,?_⟩
 ·exact (hgrow.block b (heap_lt hq.pa.box) (own_ne hq.out hq.pa.box (by decide))).trans hq.pa.box
 ·exact own_keep hq.pa.st hgrow hq.out (by decide)
 ·exact own_keep hq.pa.po hgrow hq.out (by decide)
 ·exact own_keep hq.pa.le hgrow hq.out (by decide)
 ·intro w3 k3
  have h1:=(h.rods.sub kX sX) w3 k3
  have h2:Frz (OfX b b7 v1 v2 v3 vo) w fun w'=>RodN M w' V r:=hr.frzB hM
  have h3:=(h2.sub kX sX) w3 k3
  exact h1.snoc (h3.base hM0) hl
 ·exact (hgrow.block b7 (heap_lt hq.x7) (own_ne hq.out hq.x7 (by decide))).trans hq.x7
theorem OfS.pop {q:Fr × Value} {a1 a2 a3:Option Addr} {c1 c2 c3:Nat} (h:OfS w0 b b7 be (Q ++ [q]) O (.slice a1 (Q.length + 1) c1) (.slice a2 (Q.length + 1) c2) (.slice a3 (Q.length + 1) c3) vo x w)
  (hw:w' = ((w.drew.setCell ⟨b,1,none⟩ (.slice a1 Q.length c1)).setCell ⟨b,2,none⟩ (.slice a2 Q.length c2)).setCell ⟨b,3,none⟩ (.slice a3 Q.length c3)):OfS w0 b b7 be Q O (.slice a1 Q.length c1) (.slice a2 Q.length c2) (.slice a3 Q.length c3) vo x w':=by
 subst hw
 obtain ⟨p1,k1⟩:=h.pa.pop
 have kX:Kp (OfX b b7 (.slice a1 (Q.length + 1) c1) (.slice a2 (Q.length + 1) c2) (.slice a3 (Q.length + 1) c3) vo) w _:=k1.mono fun k _ hk=>.inl (.inl hk)
 have e1:∀ {a:Option Addr} {n m c:Nat} {k:Nat},(Value.slice a n c).ownBlock = some k → (Value.slice a m c).ownBlock = some k:=fun {a n m c k} h=>by cases a <;> exact h
 have sX:∀ k,OfX b b7 (.slice a1 Q.length c1) (.slice a2 Q.length c2) (.slice a3 Q.length c3) vo k → OfX b b7 (.slice a1 (Q.length + 1) c1) (.slice a2 (Q.length + 1) c2) (.slice a3 (Q.length + 1) c3) vo k ∨ w.heap.size ≤ k:=fun k hk=>by
  rcases hk with (hk | hk | hk | hk) | hk
  ·exact .inl (.inl (.inl hk))
  ·exact .inl (.inl (.inr (.inl (e1 hk))))
  ·exact .inl (.inl (.inr (.inr (.inl (e1 hk)))))
  ·exact .inl (.inl (.inr (.inr (.inr (e1 hk)))))
  ·exact .inl (.inr hk)
 have nb:∀ k,vo.ownBlock = some k → k ≠ b:=fun k hk e=>own_ne h.out h.pa.box (by decide) (by rw [hk,e])
 have n7:b7 ≠ b:=fun e=>by
  have h1:=h.pa.box
  rw [← e,h.x7] at h1
  simp at h1
 have hw:WaysQ (OfX b b7 (.slice a1 Q.length c1) (.slice a2 Q.length c2) (.slice a3 Q.length c3) vo) (((w.drew.setCell ⟨b,1,none⟩ (.slice a1 Q.length c1)).setCell ⟨b,2,none⟩ (.slice a2 Q.length c2)).setCell ⟨b,3,none⟩ (.slice a3 Q.length c3)) Q:=by
  intro q' hq
  exact ⟨((h.ways q' (List.mem_append_left _ hq)).1).sub kX sX,(h.ways q' (List.mem_append_left _ hq)).2⟩
 refine ⟨(((h.gr.drew.setCell h.lo.1 _).setCell h.lo.1 _).setCell h.lo.1 _),h.lo,p1,hw,own_at h.out fun k hk=>k1.2 k (own_lt h.out k hk) (nb k hk),h.rods.sub kX sX,(k1.2 b7 (heap_lt h.x7) n7).trans h.x7⟩
theorem flat_set2 (L:List Stp) (s:Stp) (o:Int):((L ++ [s]).flatMap Stp.cs).set (L.length * 3 + 2) (.int .i64 o) = ((L ++ [(⟨s.e,s.i,o⟩:Stp)]).flatMap Stp.cs):=by
 rw [List.flatMap_append,List.flatMap_append,List.set_append_right _ _ (by rw [flatS_len];omega),flatS_len]
 have:L.length * 3 + 2 - L.length * 3 = 2:=by omega
 rw [this]
 rfl
theorem OfS.take {q:Fr × Value} {a:Int × Int} {l:List (Int × Int)} {g1 g2 g3 c1 c2 c3 gw ow nw cw:Nat} {A:Option Addr}
  (h:OfS w0 b b7 be (Q ++ [q]) O (.slice (some ⟨g1,0,none⟩) (Q.length + 1) c1) (.slice (some ⟨g2,0,none⟩) (Q.length + 1) c2) (.slice (some ⟨g3,0,none⟩) (Q.length + 1) c3) vo x w) (hq:q.1.l = a :: l) (hv:q.2 = .slice (some ⟨gw,ow,none⟩) nw cw) (hA:1 < nw → A = some ⟨gw,ow + 2,none⟩) (hn:1 ≤ nw) :
  OfS w0 b b7 be (Q ++ [(tookF q.1 a l,.slice A (nw - 1) (cw - 1))]) O (.slice (some ⟨g1,0,none⟩) (Q.length + 1) c1) (.slice (some ⟨g2,0,none⟩) (Q.length + 1) c2) (.slice (some ⟨g3,0,none⟩) (Q.length + 1) c3) vo x
   (((w.setCell ⟨g3,Q.length,none⟩ (.slice A (nw - 1) (cw - 1))).setCell ⟨g1,Q.length * 3 + 2,none⟩ (.int .i64 a.1)).setCell ⟨g2,Q.length,none⟩ (.int .i64 a.2)):=by
 obtain ⟨hb,o1,o2,o3⟩:=h.pa
 rw [List.length_append,List.length_singleton] at o1 o2 o3
 have x1:OfX b b7 (.slice (some ⟨g1,0,none⟩) (Q.length + 1) c1) (.slice (some ⟨g2,0,none⟩) (Q.length + 1) c2) (.slice (some ⟨g3,0,none⟩) (Q.length + 1) c3) vo g1:=.inl (.inr (.inl rfl))
 have x2:OfX b b7 (.slice (some ⟨g1,0,none⟩) (Q.length + 1) c1) (.slice (some ⟨g2,0,none⟩) (Q.length + 1) c2) (.slice (some ⟨g3,0,none⟩) (Q.length + 1) c3) vo g2:=.inl (.inr (.inr (.inl rfl)))
 have x3:OfX b b7 (.slice (some ⟨g1,0,none⟩) (Q.length + 1) c1) (.slice (some ⟨g2,0,none⟩) (Q.length + 1) c2) (.slice (some ⟨g3,0,none⟩) (Q.length + 1) c3) vo g3:=.inl (.inr (.inr (.inr rfl)))
 have kX:Kp (OfX b b7 (.slice (some ⟨g1,0,none⟩) (Q.length + 1) c1) (.slice (some ⟨g2,0,none⟩) (Q.length + 1) c2) (.slice (some ⟨g3,0,none⟩) (Q.length + 1) c3) vo) w (((w.setCell ⟨g3,Q.length,none⟩ (.slice A (nw - 1) (cw - 1))).setCell ⟨g1,Q.length * 3 + 2,none⟩ (.int .i64 a.1)).setCell ⟨g2,Q.length,none⟩ (.int .i64 a.2)) :=
  ((Kp.set x3).trans (Kp.set x1)).trans (Kp.set x2)
 have p1:=own_setT (o:=Q.length) (u:=.slice A (nw - 1) (cw - 1)) o1 o3 (by decide)
 have r1:=(World.ownsRow.stored p1 (Q.length * 3 + 2) (.int .i64 a.1)).1
 have e1:((stsQ (Q ++ [q])).flatMap Stp.cs).set (Q.length * 3 + 2) (.int .i64 a.1) = (stsQ (Q ++ [(tookF q.1 a l,.slice A (nw - 1) (cw - 1))])).flatMap Stp.cs:=by
  rw [stsQ_snoc,stsQ_snoc]
  have:=flat_set2 (stsQ Q) (stF q.1) a.1
  rw [stsQ_len] at this
  exact this
 rw [e1] at r1
 have o2':=own_setT (o:=Q.length * 3 + 2) (u:=.int .i64 a.1) (own_setT (o:=Q.length) (u:=.slice A (nw - 1) (cw - 1)) o2 o3 (by decide)) p1 (by decide)
 have r2:=(World.ownsRow.stored o2' Q.length (.int .i64 a.2)).1
 have e2:(posQ (Q ++ [q])).set Q.length (.int .i64 a.2) = posQ (Q ++ [(tookF q.1 a l,.slice A (nw - 1) (cw - 1))]):=by
  unfold posQ
  rw [List.map_append,List.map_append,List.set_append_right _ _ (by rw [List.length_map];omega),List.length_map,Nat.sub_self]
  rfl
 rw [e2] at r2
 have r3:=(World.ownsRow.stored o3 Q.length (.slice A (nw - 1) (cw - 1))).1
 have e3:((Q ++ [q]).map Prod.snd).set Q.length (.slice A (nw - 1) (cw - 1)) = (Q ++ [(tookF q.1 a l,Value.slice A (nw - 1) (cw - 1))]).map Prod.snd:=by
  rw [List.map_append,List.map_append,List.set_append_right _ _ (by rw [List.length_map];omega),List.length_map,Nat.sub_self]
  rfl
 rw [e3] at r3
 have z1:=own_base o1 g1 rfl
 have z2:=own_base o2 g2 rfl
 have z3:=own_base o3 g3 rfl
 have m:∀ (k:Nat) (T:TypeId) (cs:Array Value),w.heap[k]? = some (.cells cs T) → T ≠ 101 → T ≠ 3 → T ≠ 218 → (((w.setCell ⟨g3,Q.length,none⟩ (.slice A (nw - 1) (cw - 1))).setCell ⟨g1,Q.length * 3 + 2,none⟩ (.int .i64 a.1)).setCell ⟨g2,Q.length,none⟩ (.int .i64 a.2)).heap[k]? = w.heap[k]?:=fun k T cs hk t1 t2 t3=>by
  have n1:k ≠ g1:=fun e=>own_ne o1 hk t1 (by rw [e];rfl)
  have n2:k ≠ g2:=fun e=>own_ne o2 hk t2 (by rw [e];rfl)
  have n3:k ≠ g3:=fun e=>own_ne o3 hk t3 (by rw [e];rfl)
  rw [heap_setCell_other _ ⟨g2,Q.length,none⟩ k _ n2,heap_setCell_other _ ⟨g1,Q.length * 3 + 2,none⟩ k _ n1,heap_setCell_other _ ⟨g3,Q.length,none⟩ k _ n3]
 refine ⟨((h.gr.setCell z3 _).setCell z1 _).setCell z2 _,h.lo,⟨(m b _ _ hb (by decide) (by decide) (by decide)).trans hb,?_,?_,?_⟩,fun q' hq'=>?_,?_,h.rods.kp kX,(m b7 _ _ h.x7 (by decide) (by decide) (by decide)).trans h.x7⟩
 ·rw [List.length_append,List.length_singleton]
  exact own_setT r1 o2' (by decide)
 ·rw [List.length_append,List.length_singleton]
  exact r2
 ·rw [List.length_append,List.length_singleton]
  exact own_setT (own_setT r3 p1 (by decide)) o2' (by decide)
 ·rcases List.mem_append.1 hq' with hq' | hq'
  ·exact ⟨((h.ways q' (List.mem_append_left _ hq')).1).kp kX,(h.ways q' (List.mem_append_left _ hq')).2⟩
  ·rw [List.mem_singleton.1 hq']
   obtain ⟨f1,f2⟩:=h.ways q (by simp)
   rw [hv] at f2
   refine ⟨fun w3 k3=>?_,fun a n c e=>by cases e;have:=f2 _ _ _ rfl;omega⟩
   have:=(f1.kp kX) w3 k3
   rw [hv,hq] at this
   exact ways_tail this hA
 ·refine own_at h.out fun k hk=>?_
  rcases h.out.2 with ⟨e,_⟩ | ⟨g,cap,cur,e,_,hh,_⟩
  ·rw [e] at hk;simp [Value.ownBlock] at hk
  ·have:g = k:=by rw [e] at hk;simpa [Value.ownBlock] using hk
   subst this
   exact m g _ _ hh (by decide) (by decide) (by decide)
theorem OfS.setX (h:OfS w0 b b7 be Q O v1 v2 v3 vo x w) (z:Prt):OfS w0 b b7 be Q O v1 v2 v3 vo z ((w.setCell ⟨b7,0,none⟩ (.int .i64 z.e)).setCell ⟨b7,1,none⟩ (.int .i64 z.x)):=by
 have kX:Kp (OfX b b7 v1 v2 v3 vo) w ((w.setCell ⟨b7,0,none⟩ (.int .i64 z.e)).setCell ⟨b7,1,none⟩ (.int .i64 z.x)):=(Kp.set (.inr (.inr rfl))).trans (Kp.set (.inr (.inr rfl)))
 have hx1:=heap_setCell_same w b7 0 _ _ (.int .i64 z.e) h.x7
 have hx2:=heap_setCell_same (w.setCell ⟨b7,0,none⟩ (.int .i64 z.e)) b7 1 _ _ (.int .i64 z.x) hx1
 have n7:b ≠ b7:=fun e=>by
  have h1:=h.pa.box
  rw [e,h.x7] at h1
  simp at h1
 refine ⟨(h.gr.setCell h.lo.2 _).setCell h.lo.2 _,h.lo,⟨?_,?_,?_,?_⟩,h.ways.sub kX fun i hi=>.inl hi,?_,h.rods.kp kX,hx2⟩
 ·rw [heap_setCell_other _ ⟨b7,1,none⟩ b _ n7,heap_setCell_other _ ⟨b7,0,none⟩ b _ n7];exact h.pa.box
 ·exact own_setB (own_setB h.pa.st h.x7 (by decide)) hx1 (by decide)
 ·exact own_setB (own_setB h.pa.po h.x7 (by decide)) hx1 (by decide)
 ·exact own_setB (own_setB h.pa.le h.x7 (by decide)) hx1 (by decide)
 ·exact own_setB (own_setB h.out h.x7 (by decide)) hx1 (by decide)
end
end Go.Proofs.YtknmngejjoohdaaGreatDoor
namespace Go.Proofs.YtknmngejjoohdaaGreatDoor
open Go.ChangeShapes Go.WideShapes Go.ChangeAt Go.RowKit Go.Maps
set_option linter.unusedVariables false
set_option linter.unusedSimpArgs false
theorem RqS.new {w w2:World} {L:List Stp} {u:Value} {s d en:Int} (g:Gr (w.alloc (.cells #[.int .i64 0,.int .i64 0,.int .i64 0,.slice none 0 0,.slice none 0 0,.slice none 0 0,.slice none 0 0,.slice none 0 0,.bool false] 45)) w2) (h:OwnSt ((w.alloc (.cells #[.int .i64 0,.int .i64 0,.int .i64 0,.slice none 0 0,.slice none 0 0,.slice none 0 0,.slice none 0 0,.slice none 0 0,.bool false] 45))).heap.size w2 u L) :
  RqS w w2.heap.size w.heap.size (w2.alloc (.cells #[.int .i64 s,.int .i64 d,.int .i64 en,u,.slice none 0 0,.slice none 0 0,.slice none 0 0,.slice none 0 0,.bool false] 45)) ⟨s,d,en,L,[],[],[],[],false⟩ ⟨u,.slice none 0 0,.slice none 0 0,.slice none 0 0,.slice none 0 0⟩:=by
 have hz:w.heap.size < ((w.alloc (.cells #[.int .i64 0,.int .i64 0,.int .i64 0,.slice none 0 0,.slice none 0 0,.slice none 0 0,.slice none 0 0,.slice none 0 0,.bool false] 45))).heap.size:=by simp
 have h1:=g.size
 have ga:Gr w2 (w2.alloc (.cells #[.int .i64 s,.int .i64 d,.int .i64 en,u,.slice none 0 0,.slice none 0 0,.slice none 0 0,.slice none 0 0,.bool false] 45)):=(Gr.refl _).alloc _
 refine ⟨(((Gr.refl w).alloc _).trans g).trans ga,⟨by omega,Nat.le_refl _,by omega⟩,heap_alloc_new _ _,?_,⟨own_base_le (own_gr h ga) (by omega),OwnNd.nil _ _,OwnNd.nil _ _,OwnI.nil _ _,OwnI.nil _ _⟩,fun k hk=>by simp [Value.ownBlock] at hk,fun k hk=>by simp [Value.ownBlock] at hk⟩
 rw [ga.block _ (by omega),g.block _ hz]
 exact heap_alloc_new _ _
theorem ndsQ_take (Q:List (Fr × Value)) (k:Nat) (hk:k < Q.length):ndsQ (Q.take (k + 1)) = withN (ndsQ (Q.take k)) Q[k].1.x.e Q[k].1.p:=by
 rw [List.take_add_one,List.getElem?_eq_getElem hk]
 exact ndsQ_snoc _ _
theorem ndsQ_len (Q:List (Fr × Value)):(ndsQ Q).length ≤ Q.length:=by
 unfold ndsQ
 have:=flat_le (fun q:Fr × Value=>if q.1.p = 0 then ([]:List Nd) else [⟨q.1.x.e,q.1.p⟩]) 1 Q (fun q _=>by split <;> simp)
 omega
set_option maxRecDepth 100000 in
set_option maxHeartbeats 4000000 in
theorem road_path (B b:Nat) (be:Int) (Q:List (Fr × Value)) (v1 v2 v3:Value) (s d en:Int) (w:World) (h:PaS B w b be Q v1 v2 v3) (hq:Q.length ≤ 100) :
  Calls Tryz.prog 170 #[.pointer (some ⟨b,0,none⟩),.int .i64 s,.int .i64 d,.int .i64 en] w fun e w'=>∃ V,e = .returned (rodV (roadQ s d en Q) V)∧RodN w.heap.size w' V (roadQ s d en Q)∧Gr w w':=by
 have hR:=h.toR
 have hst:OwnSt B w v1 (stsQ Q):=hR.st
 have hls:(stsQ Q).length = Q.length:=stsQ_len Q
 have HIS:=Lib.hid (hst.stps (by rw [hls];unfold maxLen;omega))
 have HCL:=Lib.hid (fun (w':World) (g:Gr w w')=>stps_clone (stsQ Q) v1 w' (HIS.out.gr g) (by rw [hls];omega))
 obtain ⟨i0,hi0,hi1,hi2,hi3⟩:=info_parts Tryz.infoNd
 have HPO:=Lib.hid h.po
 obtain ⟨a1,a2,a3,c1',c2',c3',e1,e2,e3⟩:=h.len
 subst e1 e2 e3
 obtain ⟨zb,⟨b0,b1,b2,b3⟩,-⟩:=h.cells
 have HB:=Lib.hid (fun (w':World) (g:Gr w w')=>(⟨Nat.lt_of_lt_of_le zb g.size,(g.cell _ _ zb).trans b1,(g.cell _ _ zb).trans b2⟩:b < w'.heap.size∧w'.cell? ⟨b,1,none⟩ = some (.slice a1 Q.length c1')∧w'.cell? ⟨b,2,none⟩ = some (.slice a2 Q.length c2')))
 have G0:Gr w (w.alloc (.cells #[.int .i64 0,.int .i64 0,.int .i64 0,.slice none 0 0,.slice none 0 0,.slice none 0 0,.slice none 0 0,.slice none 0 0,.bool false] 45)):=(Gr.refl _).alloc _
 obtain ⟨zb0,b10,-⟩:=HB.out _ G0
 have HG0:=Lib.hid G0
 have HNW:=Lib.hid (fun (w2:World) (u:Value)=>@RqS.new w w2 (stsQ Q) u s d en)
 clear h hR hst b0 b1 b2 b3 zb G0
 go_enter Tryz.func170,Tryz.ntmps170
 go_upto_region 2 with (first | (go_at_call 105;(with_reducible refine (HCL.out _ HG0.out).mono ?_);rintro e w2 ⟨u,rfl,g2,o2⟩;obtain ⟨ua,uc,rfl⟩:=own_form o2;have HQ0:=Lib.hid (HNW.out w2 _ g2 o2);clear g2 o2) | fail)
 try rw [hls] at HQ0
 clear HCL HNW zb0 b10
 have hgz:=HQ0.out.gr
 generalize w2.alloc (.cells #[.int .i64 s,.int .i64 d,.int .i64 en,.slice ua Q.length uc,.slice none 0 0,.slice none 0 0,.slice none 0 0,.slice none 0 0,.bool false] 45) = w3 at *
 generalize w2.heap.size = rb at *
 generalize hrz:w.heap.size = rz at HQ0 ⊢
 obtain ⟨zb,b1,b2⟩:=HB.out _ hgz
 clear hgz
 go_wp2_with fail
 go_loopw [26] (fun i wr=>∃ (k:Nat) (nv:Value),i = .int .i64 k∧k ≤ Q.length∧RqS w rb rz wr ⟨s,d,en,stsQ Q,ndsQ (Q.take k),[],[],[],false⟩ ⟨.slice ua Q.length uc,nv,.slice none 0 0,.slice none 0 0,.slice none 0 0⟩) (fun i _=>Q.length - (intOf i).toNat)
 case atStart=>exact ⟨0,.slice none 0 0,rfl,Nat.zero_le _,HQ0.out⟩
 case round =>
  obtain ⟨k,nv,rfl,hk,hq'⟩:=hrel
  clear zb b1 b2 HQ0
  have HQ:=Lib.hid hq'
  have g:=hq'.gr
  obtain ⟨zb,b1,b2⟩:=HB.out _ g
  clear hq'
  by_cases hlt:k < Q.length
  ·have hk1:(k:Int) < (Q.length:Int):=by omega
   have hkl:k < (stsQ Q).length:=by rw [hls];exact hlt
   obtain ⟨g2,c2'',e2,-,hg2⟩:=own_addr HPO.out (by omega)
   cases e2
   have yp:wr.cell? ⟨g2,k,none⟩ = some (.int .i64 Q[k].1.p):=by
    rw [g.cell _ _ hg2,World.ownsRow.cellAt HPO.out k (by omega)]
    unfold posQ
    rw [List.getElem?_map,List.getElem?_eq_getElem hlt]
    rfl
   have zg2:=Nat.lt_of_lt_of_le hg2 g.size
   have his:IsStps wr (.slice a1 (stsQ Q).length c1') (stsQ Q):=by rw [hls];exact HIS.out.gr g
   obtain ⟨bb,o,hs,z,y0,y1,y2⟩:=his.at k hkl
   subst hs
   have hsk:(stsQ Q)[k] = stF Q[k].1:=by simp [stsQ]
   rw [hsk] at y0 y1 y2
   have HTK:=Lib.hid (ndsQ_take Q k hlt)
   have hnl:(ndsQ (Q.take k)).length ≤ 100:=by have:=ndsQ_len (Q.take k);rw [List.length_take] at this;omega
   unfold stF at y0 y1 y2
   dsimp only at y0 y1 y2
   generalize Q[k].1.x.e = E at *
   generalize Q[k].1.x.x = I at *
   generalize Q[k].1.o = O at *
   generalize Q[k].1.p = N at *
   by_cases hn:N = 0
   ·subst hn
    have HT2:Hid (ndsQ (Q.take (k + 1)) = ndsQ (Q.take k)):=by show _ = _;rw [HTK.out];unfold withN;rw [if_pos rfl]
    clear HTK hkl hsk his
    go_wp2_with fail
    go_roundw
    case rel=>exact ⟨k + 1,nv,by go_num,hlt,by rw [HT2.out];exact HQ.out.grow ((Gr.refl _).alloc _)⟩
    case measure=>simp [intOf];omega
   ·have HT2:Hid (ndsQ (Q.take (k + 1)) = ndsQ (Q.take k) ++ [⟨E,N⟩]):=by show _ = _;rw [HTK.out];unfold withN;rw [if_neg hn]
    have hn2:(N != 0) = true:=bneT hn
    clear HTK hkl hsk his hn
    go_upto_region 6 with fail
    have gA:Gr wr (wr.alloc (.cells #[.int .i64 E,.int .i64 I,.int .i64 O] 101)):=(Gr.refl _).alloc _
    have HQA:=Lib.hid (HQ.out.grow gA)
    have x0:(wr.alloc (.cells #[.int .i64 E,.int .i64 I,.int .i64 O] 101)).cell? ⟨wr.heap.size,0,none⟩ = some (.int .i64 E):=by rw [World.cell?_alloc_mark];rfl
    have zx:wr.heap.size < (wr.alloc (.cells #[.int .i64 E,.int .i64 I,.int .i64 O] 101)).heap.size:=by simp
    have yp':=(gA.cell _ _ zg2).trans yp
    have b2':=(gA.cell _ _ zb).trans b2
    have zb':=Nat.lt_of_lt_of_le zb gA.size
    have zg2':=Nat.lt_of_lt_of_le zg2 gA.size
    clear yp b2 zb zg2 b1 y0 y1 y2 z HQ g gA
    generalize wr.alloc (.cells #[.int .i64 E,.int .i64 I,.int .i64 O] 101) = wq at *
    generalize wr.heap.size = xb at *
    obtain ⟨na,nc,hnv⟩:=own_form HQA.out.rn.nd
    dsimp only at hnv
    subst hnv
    (obtain ⟨zr,⟨c0,c1,c2,c3,c4,c5,c6,c7,c8⟩,fr⟩:=HQA.out.cells;have q4:=fr 4;clear fr;dsimp only at c0 c1 c2 c3 c4 c5 c6 c7 c8)
    have far4:=own_ne HQA.out.rn.nd HQA.out.hb (by decide)
    have z0:=HQA.out.gr.size
    go_region_law ((refine step_append_lies _ (by rfl) _ _ _ (by rfl) w.heap.size 112 i0 _ 2 16 Tryz.underlying42 hi0 hi1 hi2 hi3 rfl (by decide) (.slice na (ndsQ (Q.take k)).length nc) (ndsQ (Q.take k)).length ((ndsQ (Q.take k)).flatMap Nd.cs) (by rfl) ((own_gr HQA.out.rn.nd ((Gr.refl _).alloc _)).drew) ⟨wq.heap.size,0,none⟩ 1 1 [.int .i64 E,.int .i64 N] (by rfl) (by rfl) (World.news_of_block (heap_alloc_new wq _)) (by simp [Value.oneCell']) (by omega) (by unfold maxLen;omega) (by omega) (by simp;omega) (wq.heap.size + 1) (by simp) ?_;intro gg cap w9 hown hgrow hat hlt9;have cu9:=(hgrow.cell_far ⟨rb,4,none⟩ (by simp;omega) (by simpa using far4));have fu9:=(hgrow.frozen_far ⟨rb,4,none⟩ (by simp;omega) (by simpa using far4))))
    all_goals go_wp2_with fail
    all_goals go_roundw
    all_goals try (case measure=>(simp [intOf];omega))
    all_goals
     case rel =>
      refine ⟨k + 1,.slice (some ⟨gg,0,none⟩) ((ndsQ (Q.take k)).length + 1) cap,by go_num,hlt,?_⟩
      rw [HT2.out]
      exact (HQA.out.putNd (x:=⟨E,N⟩) (((Gr.refl wq).alloc _).drew) hgrow hown (by simpa using hat)).1
  ·have hk1:¬ (k:Int) < (Q.length:Int):=by omega
   have hk2:k = Q.length:=by omega
   subst hk2
   rw [List.take_length] at HQ
   obtain ⟨na,nc,hnv⟩:=own_form HQ.out.rn.nd
   dsimp only at hnv
   subst hnv
   have HF:=Lib.hid (fun w9=>HQ.out.fin w9)
   obtain ⟨zz,⟨z0,z1,z2,z3,z4,z5,z6,z7,z8⟩,f0,f1,f2,f3,f4,f5,f6,f7,f8⟩:=rod_zero HQ.out.hz
   (obtain ⟨zr,⟨c0,c1,c2,c3,c4,c5,c6,c7,c8⟩,fr⟩:=HQ.out.cells;have q4:=fr 4;clear fr;dsimp only at c0 c1 c2 c3 c4 c5 c6 c7 c8)
   go_wp2_with fail
   try simp only [Exit.inBlock,Exit.then]
   obtain ⟨hzz,q1,q2⟩:=HF.out _ rfl
   rw [hrz] at q1
   refine bodyPost_ret (results_cell_row rfl _ _ rz 45 _ _ _ rfl hzz Tryz.underlying45 rfl (by kernel_rfl)) rfl ?_
   exact ⟨⟨.slice ua Q.length uc,.slice na (ndsQ Q).length nc,.slice none 0 0,.slice none 0 0,.slice none 0 0⟩,rfl,q1,q2⟩
theorem nextL_memF:∀ (l:List Jn) {x y:Prt},nextL l x = some y → y ∈ portsL l
 | [],x,y,h=>by simp [nextL] at h
 | j :: t,x,y,h=>by
  rw [portsL_cons]
  unfold nextL at h
  split at h
  ·cases h;simp
  split at h
  ·cases h;simp
  ·exact List.mem_cons_of_mem _ (List.mem_cons_of_mem _ (nextL_memF t h))
theorem goF_mem {P:Pln} {e i:Int} {y:Prt} (h:y ∈ goF P e i):y ∈ portsP P:=by
 unfold goF at h
 rw [portsP_eq]
 exact nextL_memF P.js (by simpa using h)
theorem goF_len (P:Pln) (e i:Int):(goF P e i).length ≤ 1:=by
 unfold goF
 cases nextL P.js ⟨e,i⟩ <;> simp
theorem zoneF_met (s:Fk) (e:Int):(zoneF s e).1.met = s.met:=by
 unfold zoneF
 split
 ·rfl
 split <;> rfl
theorem zoneG_met (s:Fk) (e:Int) (l:List Prt):(zoneG s e l).1.met = s.met:=zoneF_met s e
theorem zoneG_sub {s:Fk} {e:Int} {l:List Prt} {y:Prt} (h:y ∈ (zoneG s e l).2):y ∈ l:=by
 unfold zoneG at h
 dsimp only at h
 split at h
 ·exact h
 ·cases h
theorem zoneG_len (s:Fk) (e:Int) (l:List Prt):(zoneG s e l).2.length ≤ l.length:=by
 unfold zoneG
 dsimp only
 split
 ·exact Nat.le_refl _
 ·simp
structure StepK (P:Pln) (s:Fk) (z:Fk × List Prt):Prop where
 met:z.1.met = s.met
 sub:∀ y ∈ z.2,y ∈ portsP P
 len:z.2.length ≤ 2
theorem StepK.zone {P:Pln} {s:Fk} {e:Int} {l:List Prt} (h:∀ y ∈ l,y ∈ portsP P) (hl:l.length ≤ 2):StepK P s (zoneG s e l) :=
 ⟨zoneG_met s e l,fun y hy=>h y (zoneG_sub hy),Nat.le_trans (zoneG_len s e l) hl⟩
theorem StepK.none {P:Pln} {s:Fk} {z:Fk} (h:z.met = s.met):StepK P s (z,[]):=⟨h,fun y hy=>by simp at hy,by simp⟩
theorem comeF_k (P:Pln) (r:Rod) (s:Fk) (y:Prt):StepK P s (comeF P r s y):=by
 unfold comeF
 split
 ·refine StepK.none ?_
  unfold holdF;split <;> rfl
 split
 ·exact StepK.none rfl
 split
 ·unfold pointsF
  split
  ·refine StepK.zone (fun y hy=>?_) ?_
   ·rcases List.mem_append.1 hy with h | h <;> exact goF_mem h
   ·have h1:=goF_len P y.e 1
    have h2:=goF_len P y.e 2
    rw [List.length_append];omega
  split
  ·exact StepK.zone (fun y hy=>goF_mem hy) (Nat.le_trans (goF_len P y.e 0) (by omega))
  ·refine StepK.none ?_
   unfold guardF;split <;> rfl
 ·split
  ·exact StepK.none rfl
  ·exact StepK.zone (fun y hy=>goF_mem hy) (Nat.le_trans (goF_len P _ _) (by omega))
theorem filter_lt {α:Type} (p q:α → Bool):∀ (l:List α) (x:α),x ∈ l → p x = true → q x = false → (∀ z,q z = true → p z = true) → (l.filter q).length < (l.filter p).length
 | [],x,h,_,_,_=>by cases h
 | a :: t,x,h,hp,hq,hs=>by
  have hle:(t.filter q).length ≤ (t.filter p).length:=by
   clear h
   induction t with
   | nil=>simp
   | cons b t ih =>
    rw [List.filter_cons,List.filter_cons]
    by_cases hb:q b = true
    ·rw [if_pos hb,if_pos (hs b hb)];simpa using ih
    ·rw [if_neg hb];split
     ·simp;omega
     ·exact ih
  rcases List.mem_cons.1 h with rfl | h
  ·rw [List.filter_cons,List.filter_cons,if_pos hp,if_neg (by rw [hq];simp)]
   simp;omega
  ·have ih:=filter_lt p q t x h hp hq hs
   rw [List.filter_cons,List.filter_cons]
   by_cases hb:q a = true
   ·rw [if_pos hb,if_pos (hs a hb)];simpa using ih
   ·rw [if_neg hb];split
    ·simp;omega
    ·exact ih
theorem newF_lt {P:Pln} {s:Fk} {y:Prt} (h:y ∈ portsP P) (hn:y ∉ s.met):newF P (metF s y) < newF P s:=by
 unfold newF metF
 refine filter_lt _ _ _ y h (by simpa using hn) (by simp) fun z hz=>?_
 simp only [List.mem_append,List.mem_singleton,Bool.not_eq_true',decide_eq_false_iff_not,not_or] at hz ⊢
 exact hz.1
theorem newF_met {P:Pln} {s z:Fk} (h:z.met = s.met):newF P z = newF P s:=by unfold newF;rw [h]
theorem stepF_sub {P:Pln} {r:Rod} {s:Fk} {y:Prt}:∀ x ∈ (stepF P r s y).2,x ∈ portsP P:=by
 unfold stepF
 split
 ·intro x hx;simp at hx
 ·exact (comeF_k P r _ y).sub
theorem stepF_mu {P:Pln} {r:Rod} {s:Fk} {y:Prt} {t:List Prt} (h:y ∈ portsP P):muF P (stepF P r s y).1 ((stepF P r s y).2 ++ t) < muF P s (y :: t):=by
 unfold stepF muF
 by_cases hc:ownB r y.e = true ∨ y ∈ s.met
 ·rw [if_pos hc];simp
 ·rw [if_neg hc]
  have k:=comeF_k P r (metF s y) y
  have h1:=newF_lt h (fun e=>hc (.inr e))
  rw [newF_met k.met,List.length_append,List.length_cons]
  have:=k.len
  omega
theorem run_exists {P:Pln} {r:Rod}:∀ (n:Nat) (s:Fk) (l:List Prt),(∀ y ∈ l,y ∈ portsP P) → muF P s l ≤ n → Run P r s l (runF P r n s l)
 | 0,s,l,hl,hm=>by
  cases l with
  | nil=>exact .nil s
  | cons y t=>unfold muF at hm;simp at hm
 | n + 1,s,l,hl,hm=>by
  cases l with
  | nil=>exact .nil s
  | cons y t =>
   have h1:=stepF_mu (r:=r) (s:=s) (t:=t) (hl y (by simp))
   refine .cons (run_exists n _ _ (fun x hx=>?_) (by omega))
   rcases List.mem_append.1 hx with h | h
   ·exact stepF_sub x h
   ·exact hl x (by simp [h])
theorem toF_mem {P:Pln} {r:Rod} {y:Prt} (h:y ∈ toF P r):y ∈ portsP P:=by
 unfold toF sideR at h
 obtain ⟨x,hx,rfl⟩:=List.mem_map.1 h
 rw [List.mem_filter] at hx
 obtain ⟨z,hz⟩:=Option.isSome_iff_exists.1 hx.2
 rw [hz,portsP_eq]
 exact nextL_memF P.js hz
theorem flank_run (P:Pln) (r:Rod):Run P r fk0 (toF P r) (flankF P r):=by
 refine run_exists _ _ _ (fun y hy=>toF_mem hy) ?_
 unfold muF
 have:newF P fk0 ≤ (portsP P).length:=List.length_filter_le _ _
 omega
def sizF (s:Fk):Nat:=s.gd.length + s.zn.length + s.hd.length + s.met.length
theorem zoneG_siz (s:Fk) (e:Int) (l:List Prt):sizF (zoneG s e l).1 ≤ sizF s + 1:=by
 unfold zoneG zoneF sizF
 dsimp only
 split
 ·dsimp only;omega
 split
 ·dsimp only;omega
 ·dsimp only;rw [List.length_append,List.length_singleton];omega
theorem comeF_siz (P:Pln) (r:Rod) (s:Fk) (y:Prt):sizF (comeF P r s y).1 ≤ sizF s + 1:=by
 unfold comeF
 split
 ·unfold holdF sizF
  dsimp only
  split
  ·omega
  ·dsimp only;rw [List.length_append,List.length_singleton];omega
 split
 ·unfold sizF;dsimp only;omega
 split
 ·unfold pointsF
  split
  ·exact zoneG_siz _ _ _
  split
  ·exact zoneG_siz _ _ _
  ·unfold guardF sizF
   dsimp only
   split
   ·omega
   ·dsimp only;rw [List.length_append,List.length_singleton];omega
 ·split
  ·dsimp only;omega
  ·exact zoneG_siz _ _ _
theorem stepF_siz (P:Pln) (r:Rod) (s:Fk) (y:Prt):sizF (stepF P r s y).1 ≤ sizF s + 2:=by
 unfold stepF
 split
 ·dsimp only;omega
 ·have h1:=comeF_siz P r (metF s y) y
  have h2:sizF (metF s y) = sizF s + 1:=by unfold sizF metF;dsimp only;rw [List.length_append,List.length_singleton];omega
  omega
theorem stepF_all {P:Pln} {r:Rod} {s:Fk} {y:Prt} {t:List Prt} (h:y ∈ portsP P):sizF (stepF P r s y).1 + 4 * muF P (stepF P r s y).1 ((stepF P r s y).2 ++ t) ≤ sizF s + 4 * muF P s (y :: t):=by
 have h1:=stepF_siz P r s y
 have h2:=stepF_mu (r:=r) (s:=s) (t:=t) h
 omega
theorem joined_hasP {P:Pln} (h:chk P = 0) {y:Prt} (hy:y ∈ portsP P):hasP P y = true:=by
 have hk:=chk_okL h
 exact hk.2 y (by rwa [portsP_eq] at hy)
theorem offF_some {P:Pln} {y:Prt} (h:hasP P y = true) (h4:kindP P y.e ≠ 4) (h2:kindP P y.e ≠ 2):∃ o,offF P y = some o:=by
 unfold hasP at h
 simp only [Bool.and_eq_true,decide_eq_true_eq] at h
 obtain ⟨⟨⟨_,_⟩,h0⟩,h1⟩:=h
 unfold offF outsK
 rw [if_neg (by omega)]
 unfold endsK at h1
 by_cases k1:kindP P y.e = 1
 ·rw [if_pos k1];exact ⟨_,by unfold throughL;rw [if_pos (.inl rfl)]⟩
 by_cases k3:kindP P y.e = 3
 ·rw [if_neg k1,if_pos k3];exact ⟨_,by unfold throughL;rw [if_pos (.inl rfl)]⟩
 ·rw [if_neg k1,if_neg h2,if_neg k3,if_neg h4] at h1
  omega
end Go.Proofs.YtknmngejjoohdaaGreatDoor
