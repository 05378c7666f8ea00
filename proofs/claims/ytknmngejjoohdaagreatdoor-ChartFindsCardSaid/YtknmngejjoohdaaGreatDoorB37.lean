/- Helps:
CiJ
CiK
-/
import Derived.Test.YtknmngejjoohdaaGreatDoorRows
import Derived.Test.YtknmngejjoohdaaGreatDoorB36
import Derived.Test.YtknmngejjoohdaaGreatDoorB35
namespace Go.Proofs.YtknmngejjoohdaaGreatDoor
open Go.ChangeShapes Go.WideShapes Go.ChangeAt Go.RowKit Go.Maps
set_option linter.unusedVariables false
set_option linter.unusedSimpArgs false
set_option maxRecDepth 100000 in
set_option maxHeartbeats 4000000 in
theorem lnSame_any (n:ByteArray) (es:List Int) (a b:Option Addr) (c d:Nat) (w:World) (h1:IsIs w (.slice a es.length c) es) (h2:IsIs w (.slice b es.length d) es) :
  Calls Tryz.prog 158 #[.agg #[.string n,.slice a es.length c],.agg #[.string n,.slice b es.length d]] w fun e w'=>e = .returned (.bool true)∧Gr w w':=by
 have g0:Gr w ((w.alloc (.cells #[.string n,.slice a es.length c] 86)).alloc (.cells #[.string n,.slice b es.length d] 86)):=((Gr.refl _).alloc _).alloc _
 have HE:=Lib.hid (eqIs_any _ _ es _ (IsVals.gr h1 g0) (IsVals.gr h2 g0))
 have t1:(n.toList == n.toList) = true:=by simp
 clear h1 h2
 go_enter Tryz.func158,Tryz.ntmps158
 go_wp2_with (first | (go_at_call 159;(with_reducible refine (HE.out).mono ?_);rintro e w2 ⟨rfl,g2⟩) | fail)
 go_ret
 exact ⟨rfl,g0.trans g2⟩
set_option maxRecDepth 100000 in
set_option maxHeartbeats 4000000 in
theorem eqLines_any (v u:Value) (L:List Ln) (w:World) (hv:IsLns w v L) (hu:IsLns w u L) :
  Calls Tryz.prog 157 #[v,u,.func (.func 158) #[] #[]] w fun e w'=>e = .returned (.bool true)∧Gr w w':=by
 have HV:=Lib.hid hv
 have HU:=Lib.hid hu
 obtain ⟨a,c,rfl,hm⟩:∃ a c,v = .slice a L.length c∧L.length ≤ maxLen:=by
  obtain ⟨_,h,_⟩:=hv
  obtain ⟨a,c,rfl,hm,_⟩:=h
  exact ⟨a,c,rfl,hm⟩
 obtain ⟨b,d,rfl⟩:∃ b d,u = .slice b L.length d:=by
  obtain ⟨_,h,_⟩:=hu
  obtain ⟨a,c,rfl,hm,_⟩:=h
  exact ⟨a,c,rfl⟩
 unfold maxLen at hm
 have tl:((L.length:Int) != (L.length:Int)) = false:=bneF rfl
 clear hv hu
 go_enter Tryz.func157,Tryz.ntmps157
 go_wp2_with fail
 go_loopg [17] L.length (fun n v17 wr=>∃ k:Nat,v17 = .int .i64 k∧k + n = L.length∧Gr w wr)
 case atStart=>exact ⟨0,rfl,by omega,Gr.refl _⟩
 case round =>
  obtain ⟨k,rfl,hkn,g⟩:=hrel
  by_cases hlt:k < L.length
  ·have hk1:(k:Int) < (L.length:Int):=by omega
   obtain ⟨n,rfl⟩:∃ n,gk = n + 1:=⟨gk - 1,by omega⟩
   obtain ⟨b1,o1,u1,hs1,z1,y0,y1,hS⟩:=(HV.out.gr g).at k hlt
   obtain ⟨b2,o2,u2,hs2,z2,x0,x1,hT⟩:=(HU.out.gr g).at k hlt
   subst hs1 hs2
   generalize L[k] = r at *
   obtain ⟨nm,es⟩:=r
   dsimp only at *
   obtain ⟨p1,q1,rfl,-⟩:=IsIs.form hS
   obtain ⟨p2,q2,rfl,-⟩:=IsIs.form hT
   have HS:=Lib.hid (fun (w':World) (g':Gr wr w')=>lnSame_any nm es p1 p2 q1 q2 w' (IsVals.gr hS g') (IsVals.gr hT g'))
   have zz:b2 < wr.heap.size + 1:=by omega
   clear hS hT
   go_wp2_with (first | (go_at_call 158;(with_reducible refine (HS.out _ (((Gr.refl _).alloc _).alloc _)).mono ?_);rintro e w2 ⟨rfl,g2⟩) | fail)
   go_roundg n
   case rel=>exact ⟨k + 1,by go_num,by omega,((g.alloc _).alloc _).trans g2⟩
   case measure=>omega
  ·have hk1:¬ (k:Int) < (L.length:Int):=by omega
   go_wp2_with fail
   go_ret
   exact ⟨rfl,g⟩
set_option maxRecDepth 100000 in
set_option maxHeartbeats 4000000 in
theorem plSame_any (v u:Value) (P:Pln) (w:World) (hv:IsPln w v P) (hu:IsPln w u P) :
  Calls Tryz.prog 99 #[v,u] w fun e w'=>e = .returned (.bool true)∧Gr w w':=by
 obtain ⟨a0,ak0,a1,ak1,a2,ak2,a3,ak3,rfl,h1,h2,h3,h4⟩:=hv
 obtain ⟨b0,bk0,b1,bk1,b2,bk2,b3,bk3,rfl,k1,k2,k3,k4⟩:=hu
 unfold plnV
 have G0:Gr w ((w.alloc (.cells #[.slice a0 P.es.length ak0,.slice a1 P.js.length ak1,.slice a2 P.ss.length ak2,.slice a3 P.ls.length ak3,.int .i64 P.top,.int .i64 P.brake,.int .i64 P.margin,.int .i64 P.throw,.bool P.hard] 28)).alloc (.cells #[.slice b0 P.es.length bk0,.slice b1 P.js.length bk1,.slice b2 P.ss.length bk2,.slice b3 P.ls.length bk3,.int .i64 P.top,.int .i64 P.brake,.int .i64 P.margin,.int .i64 P.throw,.bool P.hard] 28)):=((Gr.refl _).alloc _).alloc _
 have ha0:=heap_alloc_new w (.cells #[.slice a0 P.es.length ak0,.slice a1 P.js.length ak1,.slice a2 P.ss.length ak2,.slice a3 P.ls.length ak3,.int .i64 P.top,.int .i64 P.brake,.int .i64 P.margin,.int .i64 P.throw,.bool P.hard] 28)
 have ha:(((w.alloc (.cells #[.slice a0 P.es.length ak0,.slice a1 P.js.length ak1,.slice a2 P.ss.length ak2,.slice a3 P.ls.length ak3,.int .i64 P.top,.int .i64 P.brake,.int .i64 P.margin,.int .i64 P.throw,.bool P.hard] 28)).alloc (.cells #[.slice b0 P.es.length bk0,.slice b1 P.js.length bk1,.slice b2 P.ss.length bk2,.slice b3 P.ls.length bk3,.int .i64 P.top,.int .i64 P.brake,.int .i64 P.margin,.int .i64 P.throw,.bool P.hard] 28))).heap[w.heap.size]? = some (.cells #[.slice a0 P.es.length ak0,.slice a1 P.js.length ak1,.slice a2 P.ss.length ak2,.slice a3 P.ls.length ak3,.int .i64 P.top,.int .i64 P.brake,.int .i64 P.margin,.int .i64 P.throw,.bool P.hard] 28):=(((Gr.refl (w.alloc (.cells #[.slice a0 P.es.length ak0,.slice a1 P.js.length ak1,.slice a2 P.ss.length ak2,.slice a3 P.ls.length ak3,.int .i64 P.top,.int .i64 P.brake,.int .i64 P.margin,.int .i64 P.throw,.bool P.hard] 28))).alloc _).block _ (heap_lt ha0)).trans ha0
 have hb:(((w.alloc (.cells #[.slice a0 P.es.length ak0,.slice a1 P.js.length ak1,.slice a2 P.ss.length ak2,.slice a3 P.ls.length ak3,.int .i64 P.top,.int .i64 P.brake,.int .i64 P.margin,.int .i64 P.throw,.bool P.hard] 28)).alloc (.cells #[.slice b0 P.es.length bk0,.slice b1 P.js.length bk1,.slice b2 P.ss.length bk2,.slice b3 P.ls.length bk3,.int .i64 P.top,.int .i64 P.brake,.int .i64 P.margin,.int .i64 P.throw,.bool P.hard] 28))).heap[w.heap.size + 1]? = some (.cells #[.slice b0 P.es.length bk0,.slice b1 P.js.length bk1,.slice b2 P.ss.length bk2,.slice b3 P.ls.length bk3,.int .i64 P.top,.int .i64 P.brake,.int .i64 P.margin,.int .i64 P.throw,.bool P.hard] 28):=by
  have e:(w.alloc (.cells #[.slice a0 P.es.length ak0,.slice a1 P.js.length ak1,.slice a2 P.ss.length ak2,.slice a3 P.ls.length ak3,.int .i64 P.top,.int .i64 P.brake,.int .i64 P.margin,.int .i64 P.throw,.bool P.hard] 28)).heap.size = w.heap.size + 1:=by simp
  rw [← e]
  exact heap_alloc_new _ _
 have HX:Hid (∀ w',Gr ((w.alloc (.cells #[.slice a0 P.es.length ak0,.slice a1 P.js.length ak1,.slice a2 P.ss.length ak2,.slice a3 P.ls.length ak3,.int .i64 P.top,.int .i64 P.brake,.int .i64 P.margin,.int .i64 P.throw,.bool P.hard] 28)).alloc (.cells #[.slice b0 P.es.length bk0,.slice b1 P.js.length bk1,.slice b2 P.ss.length bk2,.slice b3 P.ls.length bk3,.int .i64 P.top,.int .i64 P.brake,.int .i64 P.margin,.int .i64 P.throw,.bool P.hard] 28)) w' → (w.heap.size < w'.heap.size∧w'.cell? ⟨w.heap.size,0,none⟩ = some (.slice a0 P.es.length ak0)∧w'.cell? ⟨w.heap.size,1,none⟩ = some (.slice a1 P.js.length ak1)∧w'.cell? ⟨w.heap.size,2,none⟩ = some (.slice a2 P.ss.length ak2)∧w'.cell? ⟨w.heap.size,3,none⟩ = some (.slice a3 P.ls.length ak3)∧w'.cell? ⟨w.heap.size,4,none⟩ = some (.int .i64 P.top)∧w'.cell? ⟨w.heap.size,5,none⟩ = some (.int .i64 P.brake)∧w'.cell? ⟨w.heap.size,6,none⟩ = some (.int .i64 P.margin)∧w'.cell? ⟨w.heap.size,7,none⟩ = some (.int .i64 P.throw)∧w'.cell? ⟨w.heap.size,8,none⟩ = some (.bool P.hard))∧w.heap.size + 1 < w'.heap.size∧w'.cell? ⟨(w.heap.size + 1),0,none⟩ = some (.slice b0 P.es.length bk0)∧w'.cell? ⟨(w.heap.size + 1),1,none⟩ = some (.slice b1 P.js.length bk1)∧w'.cell? ⟨(w.heap.size + 1),2,none⟩ = some (.slice b2 P.ss.length bk2)∧w'.cell? ⟨(w.heap.size + 1),3,none⟩ = some (.slice b3 P.ls.length bk3)∧w'.cell? ⟨(w.heap.size + 1),4,none⟩ = some (.int .i64 P.top)∧w'.cell? ⟨(w.heap.size + 1),5,none⟩ = some (.int .i64 P.brake)∧w'.cell? ⟨(w.heap.size + 1),6,none⟩ = some (.int .i64 P.margin)∧w'.cell? ⟨(w.heap.size + 1),7,none⟩ = some (.int .i64 P.throw)∧w'.cell? ⟨(w.heap.size + 1),8,none⟩ = some (.bool P.hard)):=Lib.hid (fun w' g=>by
  have h1:=(g.block _ (heap_lt ha)).trans ha
  have h2:=(g.block _ (heap_lt hb)).trans hb
  have c:=fun o=>cell_of_row w' _ o _ _ _ h1
  have d:=fun o=>cell_of_row w' _ o _ _ _ h2
  exact ⟨⟨heap_lt h1,c 0,c 1,c 2,c 3,c 4,c 5,c 6,c 7,c 8⟩,heap_lt h2,d 0,d 1,d 2,d 3,d 4,d 5,d 6,d 7,d 8⟩)
 have H0:Hid (∀ w',Gr ((w.alloc (.cells #[.slice a0 P.es.length ak0,.slice a1 P.js.length ak1,.slice a2 P.ss.length ak2,.slice a3 P.ls.length ak3,.int .i64 P.top,.int .i64 P.brake,.int .i64 P.margin,.int .i64 P.throw,.bool P.hard] 28)).alloc (.cells #[.slice b0 P.es.length bk0,.slice b1 P.js.length bk1,.slice b2 P.ss.length bk2,.slice b3 P.ls.length bk3,.int .i64 P.top,.int .i64 P.brake,.int .i64 P.margin,.int .i64 P.throw,.bool P.hard] 28)) w' → Calls Tryz.prog 154 #[.slice a0 P.es.length ak0,.slice b0 P.es.length bk0] w' fun e w''=>e = .returned (.bool true)∧Gr ((w.alloc (.cells #[.slice a0 P.es.length ak0,.slice a1 P.js.length ak1,.slice a2 P.ss.length ak2,.slice a3 P.ls.length ak3,.int .i64 P.top,.int .i64 P.brake,.int .i64 P.margin,.int .i64 P.throw,.bool P.hard] 28)).alloc (.cells #[.slice b0 P.es.length bk0,.slice b1 P.js.length bk1,.slice b2 P.ss.length bk2,.slice b3 P.ls.length bk3,.int .i64 P.top,.int .i64 P.brake,.int .i64 P.margin,.int .i64 P.throw,.bool P.hard] 28)) w''):=Lib.hid fun w' g=>(eqEl_any _ _ _ w' ((h1.gr G0).gr g) ((k1.gr G0).gr g)).mono fun e w'' ⟨h1,h2⟩=>⟨h1,g.trans h2⟩
 have H1:Hid (∀ w',Gr ((w.alloc (.cells #[.slice a0 P.es.length ak0,.slice a1 P.js.length ak1,.slice a2 P.ss.length ak2,.slice a3 P.ls.length ak3,.int .i64 P.top,.int .i64 P.brake,.int .i64 P.margin,.int .i64 P.throw,.bool P.hard] 28)).alloc (.cells #[.slice b0 P.es.length bk0,.slice b1 P.js.length bk1,.slice b2 P.ss.length bk2,.slice b3 P.ls.length bk3,.int .i64 P.top,.int .i64 P.brake,.int .i64 P.margin,.int .i64 P.throw,.bool P.hard] 28)) w' → Calls Tryz.prog 155 #[.slice a1 P.js.length ak1,.slice b1 P.js.length bk1] w' fun e w''=>e = .returned (.bool true)∧Gr ((w.alloc (.cells #[.slice a0 P.es.length ak0,.slice a1 P.js.length ak1,.slice a2 P.ss.length ak2,.slice a3 P.ls.length ak3,.int .i64 P.top,.int .i64 P.brake,.int .i64 P.margin,.int .i64 P.throw,.bool P.hard] 28)).alloc (.cells #[.slice b0 P.es.length bk0,.slice b1 P.js.length bk1,.slice b2 P.ss.length bk2,.slice b3 P.ls.length bk3,.int .i64 P.top,.int .i64 P.brake,.int .i64 P.margin,.int .i64 P.throw,.bool P.hard] 28)) w''):=Lib.hid fun w' g=>(eqJn_any _ _ _ w' ((h2.gr G0).gr g) ((k2.gr G0).gr g)).mono fun e w'' ⟨h1,h2⟩=>⟨h1,g.trans h2⟩
 have H2:Hid (∀ w',Gr ((w.alloc (.cells #[.slice a0 P.es.length ak0,.slice a1 P.js.length ak1,.slice a2 P.ss.length ak2,.slice a3 P.ls.length ak3,.int .i64 P.top,.int .i64 P.brake,.int .i64 P.margin,.int .i64 P.throw,.bool P.hard] 28)).alloc (.cells #[.slice b0 P.es.length bk0,.slice b1 P.js.length bk1,.slice b2 P.ss.length bk2,.slice b3 P.ls.length bk3,.int .i64 P.top,.int .i64 P.brake,.int .i64 P.margin,.int .i64 P.throw,.bool P.hard] 28)) w' → Calls Tryz.prog 156 #[.slice a2 P.ss.length ak2,.slice b2 P.ss.length bk2] w' fun e w''=>e = .returned (.bool true)∧Gr ((w.alloc (.cells #[.slice a0 P.es.length ak0,.slice a1 P.js.length ak1,.slice a2 P.ss.length ak2,.slice a3 P.ls.length ak3,.int .i64 P.top,.int .i64 P.brake,.int .i64 P.margin,.int .i64 P.throw,.bool P.hard] 28)).alloc (.cells #[.slice b0 P.es.length bk0,.slice b1 P.js.length bk1,.slice b2 P.ss.length bk2,.slice b3 P.ls.length bk3,.int .i64 P.top,.int .i64 P.brake,.int .i64 P.margin,.int .i64 P.throw,.bool P.hard] 28)) w''):=Lib.hid fun w' g=>(eqSg_any _ _ _ w' ((h3.gr G0).gr g) ((k3.gr G0).gr g)).mono fun e w'' ⟨h1,h2⟩=>⟨h1,g.trans h2⟩
 have H3:Hid (∀ w',Gr ((w.alloc (.cells #[.slice a0 P.es.length ak0,.slice a1 P.js.length ak1,.slice a2 P.ss.length ak2,.slice a3 P.ls.length ak3,.int .i64 P.top,.int .i64 P.brake,.int .i64 P.margin,.int .i64 P.throw,.bool P.hard] 28)).alloc (.cells #[.slice b0 P.es.length bk0,.slice b1 P.js.length bk1,.slice b2 P.ss.length bk2,.slice b3 P.ls.length bk3,.int .i64 P.top,.int .i64 P.brake,.int .i64 P.margin,.int .i64 P.throw,.bool P.hard] 28)) w' → Calls Tryz.prog 157 #[.slice a3 P.ls.length ak3,.slice b3 P.ls.length bk3,.func (.func 158) #[] #[]] w' fun e w''=>e = .returned (.bool true)∧Gr ((w.alloc (.cells #[.slice a0 P.es.length ak0,.slice a1 P.js.length ak1,.slice a2 P.ss.length ak2,.slice a3 P.ls.length ak3,.int .i64 P.top,.int .i64 P.brake,.int .i64 P.margin,.int .i64 P.throw,.bool P.hard] 28)).alloc (.cells #[.slice b0 P.es.length bk0,.slice b1 P.js.length bk1,.slice b2 P.ss.length bk2,.slice b3 P.ls.length bk3,.int .i64 P.top,.int .i64 P.brake,.int .i64 P.margin,.int .i64 P.throw,.bool P.hard] 28)) w''):=Lib.hid fun w' g=>(eqLines_any _ _ _ w' ((h4.gr G0).gr g) ((k4.gr G0).gr g)).mono fun e w'' ⟨h1,h2⟩=>⟨h1,g.trans h2⟩
 have g0:Gr ((w.alloc (.cells #[.slice a0 P.es.length ak0,.slice a1 P.js.length ak1,.slice a2 P.ss.length ak2,.slice a3 P.ls.length ak3,.int .i64 P.top,.int .i64 P.brake,.int .i64 P.margin,.int .i64 P.throw,.bool P.hard] 28)).alloc (.cells #[.slice b0 P.es.length bk0,.slice b1 P.js.length bk1,.slice b2 P.ss.length bk2,.slice b3 P.ls.length bk3,.int .i64 P.top,.int .i64 P.brake,.int .i64 P.margin,.int .i64 P.throw,.bool P.hard] 28)) ((w.alloc (.cells #[.slice a0 P.es.length ak0,.slice a1 P.js.length ak1,.slice a2 P.ss.length ak2,.slice a3 P.ls.length ak3,.int .i64 P.top,.int .i64 P.brake,.int .i64 P.margin,.int .i64 P.throw,.bool P.hard] 28)).alloc (.cells #[.slice b0 P.es.length bk0,.slice b1 P.js.length bk1,.slice b2 P.ss.length bk2,.slice b3 P.ls.length bk3,.int .i64 P.top,.int .i64 P.brake,.int .i64 P.margin,.int .i64 P.throw,.bool P.hard] 28)):=Gr.refl _
 obtain ⟨⟨zb,c0,c1,c2,c3,c4,c5,c6,c7,c8⟩,zc,d0,d1,d2,d3,d4,d5,d6,d7,d8⟩:=HX.out _ (Gr.refl _)
 have HG0:=Lib.hid G0
 suffices hh:Calls Tryz.prog 99 #[.agg #[.slice a0 P.es.length ak0,.slice a1 P.js.length ak1,.slice a2 P.ss.length ak2,.slice a3 P.ls.length ak3,.int .i64 P.top,.int .i64 P.brake,.int .i64 P.margin,.int .i64 P.throw,.bool P.hard],.agg #[.slice b0 P.es.length bk0,.slice b1 P.js.length bk1,.slice b2 P.ss.length bk2,.slice b3 P.ls.length bk3,.int .i64 P.top,.int .i64 P.brake,.int .i64 P.margin,.int .i64 P.throw,.bool P.hard]] w fun e w'=>e = .returned (.bool true)∧Gr ((w.alloc (.cells #[.slice a0 P.es.length ak0,.slice a1 P.js.length ak1,.slice a2 P.ss.length ak2,.slice a3 P.ls.length ak3,.int .i64 P.top,.int .i64 P.brake,.int .i64 P.margin,.int .i64 P.throw,.bool P.hard] 28)).alloc (.cells #[.slice b0 P.es.length bk0,.slice b1 P.js.length bk1,.slice b2 P.ss.length bk2,.slice b3 P.ls.length bk3,.int .i64 P.top,.int .i64 P.brake,.int .i64 P.margin,.int .i64 P.throw,.bool P.hard] 28)) w' from hh.mono fun e w' ⟨h1,h2⟩=>⟨h1,HG0.out.trans h2⟩
 clear ha0 ha hb h1 h2 h3 h4 k1 k2 k3 k4 G0
 have t5:(P.hard == P.hard) = true:=by simp
 go_enter Tryz.func99,Tryz.ntmps99
 go_wp2_with (first | (go_at_call 154;(with_reducible refine (H0.out _ (by assumption)).mono ?_);rintro e w1 ⟨rfl,g1⟩;obtain ⟨⟨zb,c0,c1,c2,c3,c4,c5,c6,c7,c8⟩,zc,d0,d1,d2,d3,d4,d5,d6,d7,d8⟩:=HX.out _ g1) | (go_at_call 155;(with_reducible refine (H1.out _ (by assumption)).mono ?_);rintro e w2 ⟨rfl,g2⟩;obtain ⟨⟨zb,c0,c1,c2,c3,c4,c5,c6,c7,c8⟩,zc,d0,d1,d2,d3,d4,d5,d6,d7,d8⟩:=HX.out _ g2) | (go_at_call 156;(with_reducible refine (H2.out _ (by assumption)).mono ?_);rintro e w3 ⟨rfl,g3⟩;obtain ⟨⟨zb,c0,c1,c2,c3,c4,c5,c6,c7,c8⟩,zc,d0,d1,d2,d3,d4,d5,d6,d7,d8⟩:=HX.out _ g3) | (go_at_call 157;(with_reducible refine (H3.out _ (by assumption)).mono ?_);rintro e w4 ⟨rfl,g4⟩;obtain ⟨⟨zb,c0,c1,c2,c3,c4,c5,c6,c7,c8⟩,zc,d0,d1,d2,d3,d4,d5,d6,d7,d8⟩:=HX.out _ g4) | fail)
 go_ret
 exact ⟨rfl,by assumption⟩
set_option maxRecDepth 100000 in
set_option maxHeartbeats 4000000 in
theorem chSame_any (P:Pln) (L:List Rod) (e j s l rv e' j' s' l' rv':Value) (w:World) (hv:IsPln w (plnV P e j s l) P) (hu:IsPln w (plnV P e' j' s' l') P) (hr:IsRods w rv L) (hr':IsRods w rv' L) :
  Calls Tryz.prog 45 #[chV P e j s l rv,chV P e' j' s' l' rv'] w fun e w'=>e = .returned (.bool true)∧Gr w w':=by
 have HP:=Lib.hid hv
 have HQ:=Lib.hid hu
 obtain ⟨a0,ak0,a1,ak1,a2,ak2,a3,ak3,hv1,-⟩:=id hv
 obtain ⟨b0,bk0,b1,bk1,b2,bk2,b3,bk3,hu1,-⟩:=id hu
 obtain ⟨a4,ak4,rfl,-,-⟩:=hr.form
 obtain ⟨b4,bk4,rfl,-,-⟩:=hr'.form
 unfold plnV at hv1 hu1
 unfold chV
 simp only [Value.agg.injEq,Array.mk.injEq,List.cons.injEq,and_true] at hv1 hu1
 obtain ⟨rfl,rfl,rfl,rfl⟩:=hv1
 obtain ⟨rfl,rfl,rfl,rfl⟩:=hu1
 have G0:Gr w ((w.alloc (.cells #[.slice a0 P.es.length ak0,.slice a1 P.js.length ak1,.slice a2 P.ss.length ak2,.slice a3 P.ls.length ak3,.int .i64 P.top,.int .i64 P.brake,.int .i64 P.margin,.int .i64 P.throw,.bool P.hard,.slice a4 L.length ak4] 37)).alloc (.cells #[.slice b0 P.es.length bk0,.slice b1 P.js.length bk1,.slice b2 P.ss.length bk2,.slice b3 P.ls.length bk3,.int .i64 P.top,.int .i64 P.brake,.int .i64 P.margin,.int .i64 P.throw,.bool P.hard,.slice b4 L.length bk4] 37)):=((Gr.refl _).alloc _).alloc _
 have ha0:=heap_alloc_new w (.cells #[.slice a0 P.es.length ak0,.slice a1 P.js.length ak1,.slice a2 P.ss.length ak2,.slice a3 P.ls.length ak3,.int .i64 P.top,.int .i64 P.brake,.int .i64 P.margin,.int .i64 P.throw,.bool P.hard,.slice a4 L.length ak4] 37)
 have ha:(((w.alloc (.cells #[.slice a0 P.es.length ak0,.slice a1 P.js.length ak1,.slice a2 P.ss.length ak2,.slice a3 P.ls.length ak3,.int .i64 P.top,.int .i64 P.brake,.int .i64 P.margin,.int .i64 P.throw,.bool P.hard,.slice a4 L.length ak4] 37)).alloc (.cells #[.slice b0 P.es.length bk0,.slice b1 P.js.length bk1,.slice b2 P.ss.length bk2,.slice b3 P.ls.length bk3,.int .i64 P.top,.int .i64 P.brake,.int .i64 P.margin,.int .i64 P.throw,.bool P.hard,.slice b4 L.length bk4] 37))).heap[w.heap.size]? = some (.cells #[.slice a0 P.es.length ak0,.slice a1 P.js.length ak1,.slice a2 P.ss.length ak2,.slice a3 P.ls.length ak3,.int .i64 P.top,.int .i64 P.brake,.int .i64 P.margin,.int .i64 P.throw,.bool P.hard,.slice a4 L.length ak4] 37):=(((Gr.refl (w.alloc (.cells #[.slice a0 P.es.length ak0,.slice a1 P.js.length ak1,.slice a2 P.ss.length ak2,.slice a3 P.ls.length ak3,.int .i64 P.top,.int .i64 P.brake,.int .i64 P.margin,.int .i64 P.throw,.bool P.hard,.slice a4 L.length ak4] 37))).alloc _).block _ (heap_lt ha0)).trans ha0
 have hb:(((w.alloc (.cells #[.slice a0 P.es.length ak0,.slice a1 P.js.length ak1,.slice a2 P.ss.length ak2,.slice a3 P.ls.length ak3,.int .i64 P.top,.int .i64 P.brake,.int .i64 P.margin,.int .i64 P.throw,.bool P.hard,.slice a4 L.length ak4] 37)).alloc (.cells #[.slice b0 P.es.length bk0,.slice b1 P.js.length bk1,.slice b2 P.ss.length bk2,.slice b3 P.ls.length bk3,.int .i64 P.top,.int .i64 P.brake,.int .i64 P.margin,.int .i64 P.throw,.bool P.hard,.slice b4 L.length bk4] 37))).heap[w.heap.size + 1]? = some (.cells #[.slice b0 P.es.length bk0,.slice b1 P.js.length bk1,.slice b2 P.ss.length bk2,.slice b3 P.ls.length bk3,.int .i64 P.top,.int .i64 P.brake,.int .i64 P.margin,.int .i64 P.throw,.bool P.hard,.slice b4 L.length bk4] 37):=by
  have e:(w.alloc (.cells #[.slice a0 P.es.length ak0,.slice a1 P.js.length ak1,.slice a2 P.ss.length ak2,.slice a3 P.ls.length ak3,.int .i64 P.top,.int .i64 P.brake,.int .i64 P.margin,.int .i64 P.throw,.bool P.hard,.slice a4 L.length ak4] 37)).heap.size = w.heap.size + 1:=by simp
  rw [← e]
  exact heap_alloc_new _ _
 have HX:Hid (∀ w',Gr ((w.alloc (.cells #[.slice a0 P.es.length ak0,.slice a1 P.js.length ak1,.slice a2 P.ss.length ak2,.slice a3 P.ls.length ak3,.int .i64 P.top,.int .i64 P.brake,.int .i64 P.margin,.int .i64 P.throw,.bool P.hard,.slice a4 L.length ak4] 37)).alloc (.cells #[.slice b0 P.es.length bk0,.slice b1 P.js.length bk1,.slice b2 P.ss.length bk2,.slice b3 P.ls.length bk3,.int .i64 P.top,.int .i64 P.brake,.int .i64 P.margin,.int .i64 P.throw,.bool P.hard,.slice b4 L.length bk4] 37)) w' → (w.heap.size < w'.heap.size∧w'.cell? ⟨w.heap.size,0,none⟩ = some (.slice a0 P.es.length ak0)∧w'.cell? ⟨w.heap.size,1,none⟩ = some (.slice a1 P.js.length ak1)∧w'.cell? ⟨w.heap.size,2,none⟩ = some (.slice a2 P.ss.length ak2)∧w'.cell? ⟨w.heap.size,3,none⟩ = some (.slice a3 P.ls.length ak3)∧w'.cell? ⟨w.heap.size,4,none⟩ = some (.int .i64 P.top)∧w'.cell? ⟨w.heap.size,5,none⟩ = some (.int .i64 P.brake)∧w'.cell? ⟨w.heap.size,6,none⟩ = some (.int .i64 P.margin)∧w'.cell? ⟨w.heap.size,7,none⟩ = some (.int .i64 P.throw)∧w'.cell? ⟨w.heap.size,8,none⟩ = some (.bool P.hard)∧w'.cell? ⟨w.heap.size,9,none⟩ = some (.slice a4 L.length ak4))∧w.heap.size + 1 < w'.heap.size∧w'.cell? ⟨(w.heap.size + 1),0,none⟩ = some (.slice b0 P.es.length bk0)∧w'.cell? ⟨(w.heap.size + 1),1,none⟩ = some (.slice b1 P.js.length bk1)∧w'.cell? ⟨(w.heap.size + 1),2,none⟩ = some (.slice b2 P.ss.length bk2)∧w'.cell? ⟨(w.heap.size + 1),3,none⟩ = some (.slice b3 P.ls.length bk3)∧w'.cell? ⟨(w.heap.size + 1),4,none⟩ = some (.int .i64 P.top)∧w'.cell? ⟨(w.heap.size + 1),5,none⟩ = some (.int .i64 P.brake)∧w'.cell? ⟨(w.heap.size + 1),6,none⟩ = some (.int .i64 P.margin)∧w'.cell? ⟨(w.heap.size + 1),7,none⟩ = some (.int .i64 P.throw)∧w'.cell? ⟨(w.heap.size + 1),8,none⟩ = some (.bool P.hard)∧w'.cell? ⟨(w.heap.size + 1),9,none⟩ = some (.slice b4 L.length bk4)):=Lib.hid (fun w' g=>by
  have h1:=(g.block _ (heap_lt ha)).trans ha
  have h2:=(g.block _ (heap_lt hb)).trans hb
  have c:=fun o=>cell_of_row w' _ o _ _ _ h1
  have d:=fun o=>cell_of_row w' _ o _ _ _ h2
  exact ⟨⟨heap_lt h1,c 0,c 1,c 2,c 3,c 4,c 5,c 6,c 7,c 8,c 9⟩,heap_lt h2,d 0,d 1,d 2,d 3,d 4,d 5,d 6,d 7,d 8,d 9⟩)
 have H0:Hid (∀ w',Gr ((w.alloc (.cells #[.slice a0 P.es.length ak0,.slice a1 P.js.length ak1,.slice a2 P.ss.length ak2,.slice a3 P.ls.length ak3,.int .i64 P.top,.int .i64 P.brake,.int .i64 P.margin,.int .i64 P.throw,.bool P.hard,.slice a4 L.length ak4] 37)).alloc (.cells #[.slice b0 P.es.length bk0,.slice b1 P.js.length bk1,.slice b2 P.ss.length bk2,.slice b3 P.ls.length bk3,.int .i64 P.top,.int .i64 P.brake,.int .i64 P.margin,.int .i64 P.throw,.bool P.hard,.slice b4 L.length bk4] 37)) w' → Calls Tryz.prog 99 #[.agg #[.slice a0 P.es.length ak0,.slice a1 P.js.length ak1,.slice a2 P.ss.length ak2,.slice a3 P.ls.length ak3,.int .i64 P.top,.int .i64 P.brake,.int .i64 P.margin,.int .i64 P.throw,.bool P.hard],.agg #[.slice b0 P.es.length bk0,.slice b1 P.js.length bk1,.slice b2 P.ss.length bk2,.slice b3 P.ls.length bk3,.int .i64 P.top,.int .i64 P.brake,.int .i64 P.margin,.int .i64 P.throw,.bool P.hard]] w' fun e w''=>e = .returned (.bool true)∧Gr ((w.alloc (.cells #[.slice a0 P.es.length ak0,.slice a1 P.js.length ak1,.slice a2 P.ss.length ak2,.slice a3 P.ls.length ak3,.int .i64 P.top,.int .i64 P.brake,.int .i64 P.margin,.int .i64 P.throw,.bool P.hard,.slice a4 L.length ak4] 37)).alloc (.cells #[.slice b0 P.es.length bk0,.slice b1 P.js.length bk1,.slice b2 P.ss.length bk2,.slice b3 P.ls.length bk3,.int .i64 P.top,.int .i64 P.brake,.int .i64 P.margin,.int .i64 P.throw,.bool P.hard,.slice b4 L.length bk4] 37)) w''):=Lib.hid fun w' g=>(plSame_any _ _ P w' ((HP.out.gr G0).gr g) ((HQ.out.gr G0).gr g)).mono fun e w'' ⟨h1,h2⟩=>⟨h1,g.trans h2⟩
 have H1:Hid (∀ w',Gr ((w.alloc (.cells #[.slice a0 P.es.length ak0,.slice a1 P.js.length ak1,.slice a2 P.ss.length ak2,.slice a3 P.ls.length ak3,.int .i64 P.top,.int .i64 P.brake,.int .i64 P.margin,.int .i64 P.throw,.bool P.hard,.slice a4 L.length ak4] 37)).alloc (.cells #[.slice b0 P.es.length bk0,.slice b1 P.js.length bk1,.slice b2 P.ss.length bk2,.slice b3 P.ls.length bk3,.int .i64 P.top,.int .i64 P.brake,.int .i64 P.margin,.int .i64 P.throw,.bool P.hard,.slice b4 L.length bk4] 37)) w' → Calls Tryz.prog 100 #[.slice a4 L.length ak4,.slice b4 L.length bk4,.func (.func 101) #[] #[]] w' fun e w''=>e = .returned (.bool true)∧Gr ((w.alloc (.cells #[.slice a0 P.es.length ak0,.slice a1 P.js.length ak1,.slice a2 P.ss.length ak2,.slice a3 P.ls.length ak3,.int .i64 P.top,.int .i64 P.brake,.int .i64 P.margin,.int .i64 P.throw,.bool P.hard,.slice a4 L.length ak4] 37)).alloc (.cells #[.slice b0 P.es.length bk0,.slice b1 P.js.length bk1,.slice b2 P.ss.length bk2,.slice b3 P.ls.length bk3,.int .i64 P.top,.int .i64 P.brake,.int .i64 P.margin,.int .i64 P.throw,.bool P.hard,.slice b4 L.length bk4] 37)) w''):=Lib.hid fun w' g=>(eqRoads_any _ _ L w' ((hr.gr G0).gr g) ((hr'.gr G0).gr g)).mono fun e w'' ⟨h1,h2⟩=>⟨h1,g.trans h2⟩
 have g0:Gr ((w.alloc (.cells #[.slice a0 P.es.length ak0,.slice a1 P.js.length ak1,.slice a2 P.ss.length ak2,.slice a3 P.ls.length ak3,.int .i64 P.top,.int .i64 P.brake,.int .i64 P.margin,.int .i64 P.throw,.bool P.hard,.slice a4 L.length ak4] 37)).alloc (.cells #[.slice b0 P.es.length bk0,.slice b1 P.js.length bk1,.slice b2 P.ss.length bk2,.slice b3 P.ls.length bk3,.int .i64 P.top,.int .i64 P.brake,.int .i64 P.margin,.int .i64 P.throw,.bool P.hard,.slice b4 L.length bk4] 37)) ((w.alloc (.cells #[.slice a0 P.es.length ak0,.slice a1 P.js.length ak1,.slice a2 P.ss.length ak2,.slice a3 P.ls.length ak3,.int .i64 P.top,.int .i64 P.brake,.int .i64 P.margin,.int .i64 P.throw,.bool P.hard,.slice a4 L.length ak4] 37)).alloc (.cells #[.slice b0 P.es.length bk0,.slice b1 P.js.length bk1,.slice b2 P.ss.length bk2,.slice b3 P.ls.length bk3,.int .i64 P.top,.int .i64 P.brake,.int .i64 P.margin,.int .i64 P.throw,.bool P.hard,.slice b4 L.length bk4] 37)):=Gr.refl _
 obtain ⟨⟨zb,c0,c1,c2,c3,c4,c5,c6,c7,c8,c9⟩,zc,d0,d1,d2,d3,d4,d5,d6,d7,d8,d9⟩:=HX.out _ (Gr.refl _)
 have HG0:=Lib.hid G0
 suffices hh:Calls Tryz.prog 45 #[.agg #[.slice a0 P.es.length ak0,.slice a1 P.js.length ak1,.slice a2 P.ss.length ak2,.slice a3 P.ls.length ak3,.int .i64 P.top,.int .i64 P.brake,.int .i64 P.margin,.int .i64 P.throw,.bool P.hard,.slice a4 L.length ak4],.agg #[.slice b0 P.es.length bk0,.slice b1 P.js.length bk1,.slice b2 P.ss.length bk2,.slice b3 P.ls.length bk3,.int .i64 P.top,.int .i64 P.brake,.int .i64 P.margin,.int .i64 P.throw,.bool P.hard,.slice b4 L.length bk4]] w fun e w'=>e = .returned (.bool true)∧Gr ((w.alloc (.cells #[.slice a0 P.es.length ak0,.slice a1 P.js.length ak1,.slice a2 P.ss.length ak2,.slice a3 P.ls.length ak3,.int .i64 P.top,.int .i64 P.brake,.int .i64 P.margin,.int .i64 P.throw,.bool P.hard,.slice a4 L.length ak4] 37)).alloc (.cells #[.slice b0 P.es.length bk0,.slice b1 P.js.length bk1,.slice b2 P.ss.length bk2,.slice b3 P.ls.length bk3,.int .i64 P.top,.int .i64 P.brake,.int .i64 P.margin,.int .i64 P.throw,.bool P.hard,.slice b4 L.length bk4] 37)) w' from hh.mono fun e w' ⟨h1,h2⟩=>⟨h1,HG0.out.trans h2⟩
 clear ha0 ha hb hr hr' hv hu G0 HP HQ
 go_enter Tryz.func45,Tryz.ntmps45
 go_wp2_with (first | (go_at_call 99;(with_reducible refine (H0.out _ (by assumption)).mono ?_);rintro e w1 ⟨rfl,g1⟩;obtain ⟨⟨zb,c0,c1,c2,c3,c4,c5,c6,c7,c8,c9⟩,zc,d0,d1,d2,d3,d4,d5,d6,d7,d8,d9⟩:=HX.out _ g1) | (go_at_call 100;(with_reducible refine (H1.out _ (by assumption)).mono ?_);rintro e w2 ⟨rfl,g2⟩) | fail)
 go_ret
 exact ⟨rfl,by assumption⟩
end Go.Proofs.YtknmngejjoohdaaGreatDoor
