/- Helps: ChG. -/
import Derived.Test.YtknmngejjoohdaaGreatDoorRows
import Derived.Test.YtknmngejjoohdaaGreatDoorRChF
import Derived.Test.YtknmngejjoohdaaGreatDoorB32
import Derived.Deep.RegionLaw
import Derived.Deep.CutRange
import Derived.Deep.CutBlock
namespace Go.Proofs.YtknmngejjoohdaaGreatDoor
open Go.ChangeShapes Go.WideShapes Go.ChangeAt Go.RowKit Go.Maps
set_option linter.unusedVariables false
set_option linter.unusedSimpArgs false
theorem elW_size {P:Pln} (h:∀ e ∈ P.es,e.n.size ≤ 100) (x:Int):(elW P x).size ≤ 101:=by
 unfold elW
 split
 ·rename_i hx
  have hk:x.toNat < P.es.length:=by omega
  rw [getD_at _ _ hk]
  have:=h _ (List.getElem_mem hk)
  omega
 ·decide
theorem sgW_size {P:Pln} (h:∀ e ∈ P.ss,e.n.size ≤ 100) (x:Int):(sgW P x).size ≤ 101:=by
 unfold sgW
 split
 ·rename_i hx
  have hk:x.toNat < P.ss.length:=by omega
  rw [getD_at _ _ hk]
  have:=h _ (List.getElem_mem hk)
  omega
 ·decide
theorem enW_size (x y:Int) (hy : -1 ≤ y):(enW x y).size ≤ 101:=by
 unfold enW
 split
 ·decide
 split
 ·decide
 ·rw [itoa_small (by omega) (by omega)];show 1 ≤ 101;omega
theorem poW_size (x:Int):(poW x).size ≤ 101:=by unfold poW;(repeat' split) <;> decide
set_option maxRecDepth 100000 in
set_option maxHeartbeats 16000000 in
theorem refLine12_any (pv rv:Value) (P:Pln) (R:Rod) (w:World) (hP:IsPln w pv P) (hR:IsRod w rv R) (hn:4 * R.st.length + 3 * R.nd.length + 3 * R.gd.length + 2 * R.zn.length + 2 * R.hd.length ≤ 900) (hpe:∀ e ∈ P.es,e.n.size ≤ 100) (hps:∀ e ∈ P.ss,e.n.size ≤ 100) :
  Calls Tryz.prog 21 #[pv,rv] w fun e w'=>e = .returned (.string (lineR P R))∧Gr w w':=by
 have hPI:=hP
 obtain ⟨a1,k1,a2,k2,a3,k3,a4,k4,rfl,-⟩:=hP
 obtain ⟨⟨v1,v2,v3,v4,v5⟩,rfl,hS⟩:=hR
 obtain ⟨t1,t2,t3,t4,t5⟩:=id hS
 dsimp only at t1 t2 t3 t4 t5
 obtain ⟨s1,q1,rfl,m1⟩:=t1.form
 obtain ⟨s2,q2,rfl,m2⟩:=t2.form
 obtain ⟨s3,q3,rfl,m3⟩:=t3.form
 obtain ⟨s4,q4,rfl,m4⟩:=t4.form
 obtain ⟨s5,q5,rfl,m5⟩:=t5.form
 unfold plnV rodV
 dsimp only
 have G0:Gr w ((w.alloc (.cells #[.slice a1 P.es.length k1,.slice a2 P.js.length k2,.slice a3 P.ss.length k3,.slice a4 P.ls.length k4,.int .i64 P.top,.int .i64 P.brake,.int .i64 P.margin,.int .i64 P.throw,.bool P.hard] 28)).alloc (.cells #[.int .i64 R.fr,.int .i64 R.dst,.int .i64 R.en,.slice s1 R.st.length q1,.slice s2 R.nd.length q2,.slice s3 R.gd.length q3,.slice s4 R.zn.length q4,.slice s5 R.hd.length q5,.bool R.ba] 45)):=((Gr.refl _).alloc _).alloc _
 have HT1:=Lib.hid (t1.gr G0)
 have HT2:=Lib.hid (t2.gr G0)
 have HT3:=Lib.hid (t3.gr G0)
 have HT4:=Lib.hid (t4.gr G0)
 have HT5:=Lib.hid (t5.gr G0)
 have hpl0:=hPI.gr G0
 unfold plnV at hpl0
 have HEL:Hid (∀ (x:Int) (w':World),Gr ((w.alloc (.cells #[.slice a1 P.es.length k1,.slice a2 P.js.length k2,.slice a3 P.ss.length k3,.slice a4 P.ls.length k4,.int .i64 P.top,.int .i64 P.brake,.int .i64 P.margin,.int .i64 P.throw,.bool P.hard] 28)).alloc (.cells #[.int .i64 R.fr,.int .i64 R.dst,.int .i64 R.en,.slice s1 R.st.length q1,.slice s2 R.nd.length q2,.slice s3 R.gd.length q3,.slice s4 R.zn.length q4,.slice s5 R.hd.length q5,.bool R.ba] 45)) w' → Calls Tryz.prog 59 #[.agg #[.slice a1 P.es.length k1,.slice a2 P.js.length k2,.slice a3 P.ss.length k3,.slice a4 P.ls.length k4,.int .i64 P.top,.int .i64 P.brake,.int .i64 P.margin,.int .i64 P.throw,.bool P.hard],.int .i64 x] w' fun e w''=>e = .returned (.string (elW P x))∧Gr w' w''):=fun x w' g=>elW12_any _ P x w' (hpl0.gr g)
 have HSG:Hid (∀ (x:Int) (w':World),Gr ((w.alloc (.cells #[.slice a1 P.es.length k1,.slice a2 P.js.length k2,.slice a3 P.ss.length k3,.slice a4 P.ls.length k4,.int .i64 P.top,.int .i64 P.brake,.int .i64 P.margin,.int .i64 P.throw,.bool P.hard] 28)).alloc (.cells #[.int .i64 R.fr,.int .i64 R.dst,.int .i64 R.en,.slice s1 R.st.length q1,.slice s2 R.nd.length q2,.slice s3 R.gd.length q3,.slice s4 R.zn.length q4,.slice s5 R.hd.length q5,.bool R.ba] 45)) w' → Calls Tryz.prog 58 #[.agg #[.slice a1 P.es.length k1,.slice a2 P.js.length k2,.slice a3 P.ss.length k3,.slice a4 P.ls.length k4,.int .i64 P.top,.int .i64 P.brake,.int .i64 P.margin,.int .i64 P.throw,.bool P.hard],.int .i64 x] w' fun e w''=>e = .returned (.string (sgW P x))∧Gr w' w''):=fun x w' g=>sgW12_any _ P x w' (hpl0.gr g)
 have HSE:=Lib.hid (elW_size hpe)
 have HSS:=Lib.hid (sgW_size hps)
 have hrb:(((w.alloc (.cells #[.slice a1 P.es.length k1,.slice a2 P.js.length k2,.slice a3 P.ss.length k3,.slice a4 P.ls.length k4,.int .i64 P.top,.int .i64 P.brake,.int .i64 P.margin,.int .i64 P.throw,.bool P.hard] 28)).alloc (.cells #[.int .i64 R.fr,.int .i64 R.dst,.int .i64 R.en,.slice s1 R.st.length q1,.slice s2 R.nd.length q2,.slice s3 R.gd.length q3,.slice s4 R.zn.length q4,.slice s5 R.hd.length q5,.bool R.ba] 45))).heap[w.heap.size + 1]? = some (.cells #[.int .i64 R.fr,.int .i64 R.dst,.int .i64 R.en,.slice s1 R.st.length q1,.slice s2 R.nd.length q2,.slice s3 R.gd.length q3,.slice s4 R.zn.length q4,.slice s5 R.hd.length q5,.bool R.ba] 45):=by have:=heap_alloc_new (w.alloc (.cells #[.slice a1 P.es.length k1,.slice a2 P.js.length k2,.slice a3 P.ss.length k3,.slice a4 P.ls.length k4,.int .i64 P.top,.int .i64 P.brake,.int .i64 P.margin,.int .i64 P.throw,.bool P.hard] 28)) (.cells #[.int .i64 R.fr,.int .i64 R.dst,.int .i64 R.en,.slice s1 R.st.length q1,.slice s2 R.nd.length q2,.slice s3 R.gd.length q3,.slice s4 R.zn.length q4,.slice s5 R.hd.length q5,.bool R.ba] 45);simpa using this
 have hpb:(((w.alloc (.cells #[.slice a1 P.es.length k1,.slice a2 P.js.length k2,.slice a3 P.ss.length k3,.slice a4 P.ls.length k4,.int .i64 P.top,.int .i64 P.brake,.int .i64 P.margin,.int .i64 P.throw,.bool P.hard] 28)).alloc (.cells #[.int .i64 R.fr,.int .i64 R.dst,.int .i64 R.en,.slice s1 R.st.length q1,.slice s2 R.nd.length q2,.slice s3 R.gd.length q3,.slice s4 R.zn.length q4,.slice s5 R.hd.length q5,.bool R.ba] 45))).heap[w.heap.size]? = some (.cells #[.slice a1 P.es.length k1,.slice a2 P.js.length k2,.slice a3 P.ss.length k3,.slice a4 P.ls.length k4,.int .i64 P.top,.int .i64 P.brake,.int .i64 P.margin,.int .i64 P.throw,.bool P.hard] 28):=(((Gr.refl (w.alloc (.cells #[.slice a1 P.es.length k1,.slice a2 P.js.length k2,.slice a3 P.ss.length k3,.slice a4 P.ls.length k4,.int .i64 P.top,.int .i64 P.brake,.int .i64 P.margin,.int .i64 P.throw,.bool P.hard] 28))).alloc _).block _ (by simp)).trans (heap_alloc_new w (.cells #[.slice a1 P.es.length k1,.slice a2 P.js.length k2,.slice a3 P.ss.length k3,.slice a4 P.ls.length k4,.int .i64 P.top,.int .i64 P.brake,.int .i64 P.margin,.int .i64 P.throw,.bool P.hard] 28))
 have HRX:Hid (∀ w',Gr ((w.alloc (.cells #[.slice a1 P.es.length k1,.slice a2 P.js.length k2,.slice a3 P.ss.length k3,.slice a4 P.ls.length k4,.int .i64 P.top,.int .i64 P.brake,.int .i64 P.margin,.int .i64 P.throw,.bool P.hard] 28)).alloc (.cells #[.int .i64 R.fr,.int .i64 R.dst,.int .i64 R.en,.slice s1 R.st.length q1,.slice s2 R.nd.length q2,.slice s3 R.gd.length q3,.slice s4 R.zn.length q4,.slice s5 R.hd.length q5,.bool R.ba] 45)) w' → w.heap.size + 1 < w'.heap.size∧w'.cell? ⟨w.heap.size + 1,0,none⟩ = some (.int .i64 R.fr)∧w'.cell? ⟨w.heap.size + 1,1,none⟩ = some (.int .i64 R.dst)∧w'.cell? ⟨w.heap.size + 1,2,none⟩ = some (.int .i64 R.en)∧w'.cell? ⟨w.heap.size + 1,3,none⟩ = some (.slice s1 R.st.length q1)∧w'.cell? ⟨w.heap.size + 1,4,none⟩ = some (.slice s2 R.nd.length q2)∧w'.cell? ⟨w.heap.size + 1,5,none⟩ = some (.slice s3 R.gd.length q3)∧w'.cell? ⟨w.heap.size + 1,6,none⟩ = some (.slice s4 R.zn.length q4)∧w'.cell? ⟨w.heap.size + 1,7,none⟩ = some (.slice s5 R.hd.length q5)∧w'.cell? ⟨w.heap.size + 1,8,none⟩ = some (.bool R.ba) ∧
   w.heap.size < w'.heap.size∧w'.cell? ⟨w.heap.size,0,none⟩ = some (.slice a1 P.es.length k1)∧w'.cell? ⟨w.heap.size,1,none⟩ = some (.slice a2 P.js.length k2)∧w'.cell? ⟨w.heap.size,2,none⟩ = some (.slice a3 P.ss.length k3)∧w'.cell? ⟨w.heap.size,3,none⟩ = some (.slice a4 P.ls.length k4)∧w'.cell? ⟨w.heap.size,4,none⟩ = some (.int .i64 P.top)∧w'.cell? ⟨w.heap.size,5,none⟩ = some (.int .i64 P.brake)∧w'.cell? ⟨w.heap.size,6,none⟩ = some (.int .i64 P.margin)∧w'.cell? ⟨w.heap.size,7,none⟩ = some (.int .i64 P.throw)∧w'.cell? ⟨w.heap.size,8,none⟩ = some (.bool P.hard)):=fun w' g=>by
  have h:=(g.block _ (heap_lt hrb)).trans hrb
  have h2:=(g.block _ (heap_lt hpb)).trans hpb
  refine ⟨heap_lt h,?_,?_,?_,?_,?_,?_,?_,?_,?_,heap_lt h2,?_,?_,?_,?_,?_,?_,?_,?_,?_⟩
  all_goals first | (rw [cell_of_row _ _ _ _ _ _ h];rfl) | (rw [cell_of_row _ _ _ _ _ _ h2];rfl)
 have hS0:=LotS.new ((w.alloc (.cells #[.slice a1 P.es.length k1,.slice a2 P.js.length k2,.slice a3 P.ss.length k3,.slice a4 P.ls.length k4,.int .i64 P.top,.int .i64 P.brake,.int .i64 P.margin,.int .i64 P.throw,.bool P.hard] 28)).alloc (.cells #[.int .i64 R.fr,.int .i64 R.dst,.int .i64 R.en,.slice s1 R.st.length q1,.slice s2 R.nd.length q2,.slice s3 R.gd.length q3,.slice s4 R.zn.length q4,.slice s5 R.hd.length q5,.bool R.ba] 45))
 have hsz:(((w.alloc (.cells #[.slice a1 P.es.length k1,.slice a2 P.js.length k2,.slice a3 P.ss.length k3,.slice a4 P.ls.length k4,.int .i64 P.top,.int .i64 P.brake,.int .i64 P.margin,.int .i64 P.throw,.bool P.hard] 28)).alloc (.cells #[.int .i64 R.fr,.int .i64 R.dst,.int .i64 R.en,.slice s1 R.st.length q1,.slice s2 R.nd.length q2,.slice s3 R.gd.length q3,.slice s4 R.zn.length q4,.slice s5 R.hd.length q5,.bool R.ba] 45))).heap.size = w.heap.size + 1 + 1:=by simp
 rw [hsz] at hS0
 have HG0:=Lib.hid G0
 have HS1:=Lib.hid hS0
 clear t1 t2 t3 t4 t5 hS hPI G0 hrb hpb m1 m2 m3 m4 m5 hpl0 hpe hps hS0
 cases hq:endW P R with
 | none =>
  have hlr:lineR P R = bNil:=by unfold lineR;rw [hq]
  have hne:R.en ≠ 1∧R.en ≠ 2∧R.en ≠ 3:=by
   unfold endW at hq
   refine ⟨fun e=>?_,fun e=>?_,fun e=>?_⟩ <;> (rw [e] at hq;simp at hq)
  have e1:=beqF hne.1
  have e2:=beqF hne.2.1
  have e3:=beqF hne.2.2
  rw [hlr]
  clear hq hlr hne
  go_enter Tryz.func21,Tryz.ntmps21
  go_upto_region 2 with fail
  have hS1:=HS1.out
  clear HS1 hsz
  generalize (((w.alloc (.cells #[.slice a1 P.es.length k1,.slice a2 P.js.length k2,.slice a3 P.ss.length k3,.slice a4 P.ls.length k4,.int .i64 P.top,.int .i64 P.brake,.int .i64 P.margin,.int .i64 P.throw,.bool P.hard] 28)).alloc (.cells #[.int .i64 R.fr,.int .i64 R.dst,.int .i64 R.en,.slice s1 R.st.length q1,.slice s2 R.nd.length q2,.slice s3 R.gd.length q3,.slice s4 R.zn.length q4,.slice s5 R.hd.length q5,.bool R.ba] 45)).alloc (.cells #[.string ⟨#[]⟩,.bool false] 107)) = w1 at *
  generalize ((w.alloc (.cells #[.slice a1 P.es.length k1,.slice a2 P.js.length k2,.slice a3 P.ss.length k3,.slice a4 P.ls.length k4,.int .i64 P.top,.int .i64 P.brake,.int .i64 P.margin,.int .i64 P.throw,.bool P.hard] 28)).alloc (.cells #[.int .i64 R.fr,.int .i64 R.dst,.int .i64 R.en,.slice s1 R.st.length q1,.slice s2 R.nd.length q2,.slice s3 R.gd.length q3,.slice s4 R.zn.length q4,.slice s5 R.hd.length q5,.bool R.ba] 45)) = w0 at *
  generalize w.heap.size + 1 + 1 = b at *
  generalize w.heap.size + 1 = rb at *
  generalize w.heap.size = pb at *
  have HP1:Hid (Calls Tryz.prog 57 #[.pointer (some ⟨b,0,none⟩),.string ⟨#[114,111,97,100]⟩] w1 fun e' w'=>e' = .returned (.tuple #[])∧LotS w0 b w' [bRoad]):=lotPut_any w0 b w1 [] bRoad hS1 (by simp) (by decide)
  clear hS1
  go_upto_region 3 with (first | (go_at_call 57;(with_reducible refine (HP1.out).mono ?_);rintro e5 w3 ⟨rfl,hL3'⟩;have HL3:=Lib.hid hL3';clear hL3') | fail)
  clear HP1
  have HLQ:=HL3
  clear HL3
  have g3:=HLQ.out.1.1
  (obtain ⟨zr,r0,r1,r2,r3,r4,r5,r6,r7,r8,zp,p0,p1,p2,p3,p4,p5,p6,p7,p8⟩:=HRX.out _ g3)
  have hll:([bRoad]:List ByteArray).length ≤ 9000:=by simp
  go_upto_region 4 with (first | (go_at_call 58;(with_reducible refine (HSG.out _ _ g3).mono ?_);rintro e5 w4 ⟨rfl,g4⟩) | (go_at_call 57;(with_reducible refine (lotPut_any w0 b _ _ _ (HLQ.out.gr g4) hll (HSS.out _)).mono ?_);rintro e6 w5 ⟨rfl,hL6'⟩;have HL5:=Lib.hid hL6';clear hL6') | fail)
  clear HLQ g3 hll
  (clear zr r0 r1 r2 r3 r4 r5 r6 r7 r8 zp p0 p1 p2 p3 p4 p5 p6 p7 p8)
  have g5:=HL5.out.1.1
  (obtain ⟨zr,r0,r1,r2,r3,r4,r5,r6,r7,r8,zp,p0,p1,p2,p3,p4,p5,p6,p7,p8⟩:=HRX.out _ g5)
  have GG:=HG0.out.trans g5
  clear HL5 HRX g5
  go_wp2_with fail
  go_ret
  exact ⟨rfl,GG⟩
 | some ew =>
  have hlr:lineR P R = if badW (roadW P R ew) then bNil else jnW (roadW P R ew):=by unfold lineR;rw [hq]
  have hew:ew.length ≤ 2:=by
   unfold endW at hq
   split at hq
   ·cases hq;simp
   split at hq
   ·cases hq;simp
   split at hq
   ·cases hq;simp
   ·cases hq
  have HQ:=Lib.hid hq
  have HEW:=Lib.hid hew
  rw [hlr]
  clear hq hlr hew
  generalize hres:(if badW (roadW P R ew) then bNil else jnW (roadW P R ew)) = res
  have HRES:=Lib.hid hres
  clear hres
  go_enter Tryz.func21,Tryz.ntmps21
  go_upto_region 2 with fail
  have hS1:=HS1.out
  clear HS1 hsz
  generalize (((w.alloc (.cells #[.slice a1 P.es.length k1,.slice a2 P.js.length k2,.slice a3 P.ss.length k3,.slice a4 P.ls.length k4,.int .i64 P.top,.int .i64 P.brake,.int .i64 P.margin,.int .i64 P.throw,.bool P.hard] 28)).alloc (.cells #[.int .i64 R.fr,.int .i64 R.dst,.int .i64 R.en,.slice s1 R.st.length q1,.slice s2 R.nd.length q2,.slice s3 R.gd.length q3,.slice s4 R.zn.length q4,.slice s5 R.hd.length q5,.bool R.ba] 45)).alloc (.cells #[.string ⟨#[]⟩,.bool false] 107)) = w1 at *
  generalize ((w.alloc (.cells #[.slice a1 P.es.length k1,.slice a2 P.js.length k2,.slice a3 P.ss.length k3,.slice a4 P.ls.length k4,.int .i64 P.top,.int .i64 P.brake,.int .i64 P.margin,.int .i64 P.throw,.bool P.hard] 28)).alloc (.cells #[.int .i64 R.fr,.int .i64 R.dst,.int .i64 R.en,.slice s1 R.st.length q1,.slice s2 R.nd.length q2,.slice s3 R.gd.length q3,.slice s4 R.zn.length q4,.slice s5 R.hd.length q5,.bool R.ba] 45)) = w0 at *
  generalize w.heap.size + 1 + 1 = b at *
  generalize w.heap.size + 1 = rb at *
  generalize w.heap.size = pb at *
  have HP1:Hid (Calls Tryz.prog 57 #[.pointer (some ⟨b,0,none⟩),.string ⟨#[114,111,97,100]⟩] w1 fun e' w'=>e' = .returned (.tuple #[])∧LotS w0 b w' [bRoad]):=lotPut_any w0 b w1 [] bRoad hS1 (by simp) (by decide)
  clear hS1
  go_upto_region 3 with (first | (go_at_call 57;(with_reducible refine (HP1.out).mono ?_);rintro e5 w3 ⟨rfl,hL3'⟩;have HL3:=Lib.hid hL3';clear hL3') | fail)
  clear HP1
  have HLQ:=HL3
  clear HL3
  have g3:=HLQ.out.1.1
  (obtain ⟨zr,r0,r1,r2,r3,r4,r5,r6,r7,r8,zp,p0,p1,p2,p3,p4,p5,p6,p7,p8⟩:=HRX.out _ g3)
  have hll:([bRoad]:List ByteArray).length ≤ 9000:=by simp
  go_upto_region 4 with (first | (go_at_call 58;(with_reducible refine (HSG.out _ _ g3).mono ?_);rintro e5 w4 ⟨rfl,g4⟩) | (go_at_call 57;(with_reducible refine (lotPut_any w0 b _ _ _ (HLQ.out.gr g4) hll (HSS.out _)).mono ?_);rintro e6 w5 ⟨rfl,hL6'⟩;have HL5:=Lib.hid hL6';clear hL6') | fail)
  clear HLQ g3 hll
  (clear zr r0 r1 r2 r3 r4 r5 r6 r7 r8 zp p0 p1 p2 p3 p4 p5 p6 p7 p8)
  have g5:=HL5.out.1.1
  (obtain ⟨zr,r0,r1,r2,r3,r4,r5,r6,r7,r8,zp,p0,p1,p2,p3,p4,p5,p6,p7,p8⟩:=HRX.out _ g5)
  generalize hL1 : [bRoad] ++ [sgW P R.fr] = L1 at HL5
  have hl1:L1.length = 2:=by rw [← hL1];rfl
  have HL1:=Lib.hid hL1
  have hl1':L1.length ≤ 2:=by omega
  clear hL1 hl1
  go_upto_block 0 with fail
  go_cut [] from 23 to 40 (fun wc=>LotS w0 b wc (L1 ++ ew))
  case first =>
   have hq:=HQ.out
   clear HQ HEW HRES
   unfold endW at hq
   by_cases e1:R.en = 1
   ·rw [if_pos e1] at hq
    cases hq
    have t1:(R.en == 1) = true:=beqT e1
    clear e1
    have HP1:Hid (Calls Tryz.prog 57 #[.pointer (some ⟨b,0,none⟩),.string ⟨#[116,111]⟩] w5 fun e' w'=>e' = .returned (.tuple #[])∧LotS w0 b w' (L1 ++ [bTo])):=lotPut_any w0 b w5 L1 bTo HL5.out (by omega) (by decide)
    clear HL5
    go_upto_region 8 with (first | (go_at_call 57;(with_reducible refine (HP1.out).mono ?_);rintro e5 w3 ⟨rfl,hL3'⟩;have HL3:=Lib.hid hL3';clear hL3') | fail)
    clear HP1 g5
    (clear zr r0 r1 r2 r3 r4 r5 r6 r7 r8 zp p0 p1 p2 p3 p4 p5 p6 p7 p8)
    have HLQ:=HL3
    have g3:=HLQ.out.1.1
    (obtain ⟨zr,r0,r1,r2,r3,r4,r5,r6,r7,r8,zp,p0,p1,p2,p3,p4,p5,p6,p7,p8⟩:=HRX.out _ g3)
    have hll:(L1 ++ [bTo]).length ≤ 9000:=by simp;omega
    go_wp2_with (first | (go_at_call 58;(with_reducible refine (HSG.out _ _ g3).mono ?_);rintro e7 w7 ⟨rfl,g7⟩) | (go_at_call 57;(with_reducible refine (lotPut_any w0 b _ _ _ (HLQ.out.gr g7) hll (HSS.out _)).mono ?_);rintro e8 w8 ⟨rfl,hL8'⟩;have HL8:=Lib.hid hL8';clear hL8') | fail)
    go_meet
    case rel=>simpa using HL8.out
   rw [if_neg e1] at hq
   have t1:(R.en == 1) = false:=beqF e1
   by_cases e2:R.en = 2
   ·rw [if_pos e2] at hq
    cases hq
    have t2:(R.en == 2) = true:=beqT e2
    clear e1 e2
    have HP1:Hid (Calls Tryz.prog 57 #[.pointer (some ⟨b,0,none⟩),.string ⟨#[103,97,116,101]⟩] w5 fun e' w'=>e' = .returned (.tuple #[])∧LotS w0 b w' (L1 ++ [bGateE])):=lotPut_any w0 b w5 L1 bGateE HL5.out (by omega) (by decide)
    clear HL5
    go_wp2_with (first | (go_at_call 57;(with_reducible refine (HP1.out).mono ?_);rintro e5 w3 ⟨rfl,hL3'⟩;have HL3:=Lib.hid hL3';clear hL3') | fail)
    go_meet
    case rel=>exact HL3.out
   rw [if_neg e2] at hq
   have t2:(R.en == 2) = false:=beqF e2
   by_cases e3:R.en = 3
   ·rw [if_pos e3] at hq
    cases hq
    have t3:(R.en == 3) = true:=beqT e3
    clear e1 e2 e3
    have HP1:Hid (Calls Tryz.prog 57 #[.pointer (some ⟨b,0,none⟩),.string ⟨#[98,117,102,102,101,114]⟩] w5 fun e' w'=>e' = .returned (.tuple #[])∧LotS w0 b w' (L1 ++ [bBuffer])):=lotPut_any w0 b w5 L1 bBuffer HL5.out (by omega) (by decide)
    clear HL5
    go_wp2_with (first | (go_at_call 57;(with_reducible refine (HP1.out).mono ?_);rintro e5 w3 ⟨rfl,hL3'⟩;have HL3:=Lib.hid hL3';clear hL3') | fail)
    go_meet
    case rel=>exact HL3.out
   ·rw [if_neg e3] at hq;cases hq
  case rest =>
   have HC:=Lib.hid hcut
   clear HL5 HQ g5 hcut
   (clear zr r0 r1 r2 r3 r4 r5 r6 r7 r8 zp p0 p1 p2 p3 p4 p5 p6 p7 p8)
   have hle:(L1 ++ ew).length ≤ 4:=by have:=HEW.out;rw [List.length_append];omega
   generalize hL2:L1 ++ ew = L2 at HC hle
   have HL2:=Lib.hid hL2
   clear hL2 hl1' HEW
   (obtain ⟨zr,r0,r1,r2,r3,r4,r5,r6,r7,r8,zp,p0,p1,p2,p3,p4,p5,p6,p7,p8⟩:=HRX.out _ HC.out.1.1)
   go_upto_block 1 with fail
   go_cut [] from 41 to 77 (fun wc=>LotS w0 b wc (L2 ++ R.st.flatMap (stpW P)))
   case first =>
    clear HRES
    (clear zr r0 r1 r2 r3 r4 r5 r6 r7 r8 zp p0 p1 p2 p3 p4 p5 p6 p7 p8)
    go_wp2_with fail
    go_loopw [6] (fun x wr=>∃ k:Nat,x = .int .i64 k∧k ≤ R.st.length∧LotS w0 b wr (L2 ++ (R.st.take k).flatMap (stpW P))) (fun x _=>R.st.length - (intOf x).toNat)
    case atStart=>exact ⟨0,rfl,Nat.zero_le _,by simpa using HC.out⟩
    case round =>
     obtain ⟨k,rfl,hk,hW⟩:=hrel
     clear HC
     (obtain ⟨zr,r0,r1,r2,r3,r4,r5,r6,r7,r8,zp,p0,p1,p2,p3,p4,p5,p6,p7,p8⟩:=HRX.out _ hW.1.1)
     by_cases hlt:k < R.st.length
     ·have hk1:(k:Int) < (R.st.length:Int):=by omega
      obtain ⟨nb,no,hs2,hnb,n0,n1,n2⟩:=HT1.out.at k hlt
      subst hs2
      have HY:Hid (∀ w',Gr w0 w' → nb < w'.heap.size∧w'.cell? ⟨nb,no + k * 3,none⟩ = some (.int .i64 R.st[k].e)∧w'.cell? ⟨nb,no + k * 3 + 1,none⟩ = some (.int .i64 R.st[k].i)∧w'.cell? ⟨nb,no + k * 3 + 2,none⟩ = some (.int .i64 R.st[k].o)):=fun w' g=>⟨Nat.lt_of_lt_of_le hnb g.size,(g.cell _ _ hnb).trans n0,(g.cell _ _ hnb).trans n1,(g.cell _ _ hnb).trans n2⟩
      have hft:=flatc_len (stpW P) 4 (fun _=>rfl) (R.st.take k)
      rw [List.length_take,Nat.min_eq_left hk] at hft
      have HNX:=Lib.hid (stp_flat P R.st k hlt)
      generalize hq:L2 ++ (R.st.take k).flatMap (stpW P) = Lk at hW
      have hlk:Lk.length ≤ 8000:=by rw [← hq,List.length_append,hft];omega
      have HQ:=Lib.hid hq
      generalize R.st[k] = nx at *
      clear n0 n1 n2 hnb hq hft
      have HPW:Hid (Calls Tryz.prog 57 #[.pointer (some ⟨b,0,none⟩),.string ⟨#[118,105,97]⟩] wr fun e' w'=>e' = .returned (.tuple #[])∧LotS w0 b w' (Lk ++ [bVia])):=lotPut_any w0 b wr Lk bVia hW (by omega) (by decide)
      clear hW
      go_upto_region 17 with (first | (go_at_call 57;(with_reducible refine (HPW.out).mono ?_);rintro e5 w3 ⟨rfl,hL3'⟩;have HL3:=Lib.hid hL3';clear hL3') | fail)
      clear HPW
      (clear zr r0 r1 r2 r3 r4 r5 r6 r7 r8 zp p0 p1 p2 p3 p4 p5 p6 p7 p8)
      have HLQ:=HL3
      clear HL3
      have g3:=HLQ.out.1.1
      (obtain ⟨zr,r0,r1,r2,r3,r4,r5,r6,r7,r8,zp,p0,p1,p2,p3,p4,p5,p6,p7,p8⟩:=HRX.out _ g3)
      obtain ⟨zy,y0,y1,y2⟩:=HY.out _ g3
      have hll:(Lk ++ [bVia]).length ≤ 9000:=by simp;omega
      go_upto_region 17 with fail
      go_cut [] from 50 to 59 (fun wc=>LotS w0 b wc (Lk ++ [bVia] ++ [elW P nx.e]))
      case first =>
       go_region_law (first | (go_simp;go_at_call 59;(with_reducible refine (HEL.out _ _ (g3.trans (Gr.refl _).drew)).mono ?_);rintro e7 w7 ⟨rfl,g7⟩;try go_wp2_with fail) | (go_simp;go_at_call 57;(with_reducible refine (lotPut_any w0 b _ _ _ (HLQ.out.gr ((Gr.refl _).drew.trans g7)) hll (HSE.out _)).mono ?_);rintro e8 w8 ⟨rfl,hL8'⟩;have HL3:=Lib.hid hL8';clear hL8'))
       all_goals
        go_wp2_with fail
        go_meet
        case rel=>exact HL3.out
      case rest =>
      have HL3:=Lib.hid hcut
      clear hcut
      go_upto_region 18 with fail
      clear HLQ g3 hll zy y0 y1 y2
      (clear zr r0 r1 r2 r3 r4 r5 r6 r7 r8 zp p0 p1 p2 p3 p4 p5 p6 p7 p8)
      have HLQ:=HL3
      clear HL3
      have g3:=HLQ.out.1.1
      (obtain ⟨zr,r0,r1,r2,r3,r4,r5,r6,r7,r8,zp,p0,p1,p2,p3,p4,p5,p6,p7,p8⟩:=HRX.out _ g3)
      obtain ⟨zy,y0,y1,y2⟩:=HY.out _ g3
      have hll:(Lk ++ [bVia] ++ [elW P nx.e]).length ≤ 9000:=by simp;omega
      go_upto_region 19 with (first | (go_at_call 60;(with_reducible refine (enW12_any _ _ _ (by omega)).mono ?_);rintro e7 w7 ⟨rfl,g7⟩) | (go_at_call 57;(with_reducible refine (lotPut_any w0 b _ _ _ (HLQ.out.gr g7) hll (enW_size _ _ (by omega))).mono ?_);rintro e8 w8 ⟨rfl,hL8'⟩;have HL3:=Lib.hid hL8';clear hL8') | fail)
      clear HLQ g3 hll zy y0 y1 y2
      (clear zr r0 r1 r2 r3 r4 r5 r6 r7 r8 zp p0 p1 p2 p3 p4 p5 p6 p7 p8)
      have HLQ:=HL3
      clear HL3
      have g3:=HLQ.out.1.1
      (obtain ⟨zr,r0,r1,r2,r3,r4,r5,r6,r7,r8,zp,p0,p1,p2,p3,p4,p5,p6,p7,p8⟩:=HRX.out _ g3)
      obtain ⟨zy,y0,y1,y2⟩:=HY.out _ g3
      have hll:(Lk ++ [bVia] ++ [elW P nx.e] ++ [enW nx.i 0]).length ≤ 9000:=by simp;omega
      go_wp2_with (first | (go_at_call 60;(with_reducible refine (enW12_any _ _ _ (by omega)).mono ?_);rintro e7 w7 ⟨rfl,g7⟩) | (go_at_call 57;(with_reducible refine (lotPut_any w0 b _ _ _ (HLQ.out.gr g7) hll (enW_size _ _ (by omega))).mono ?_);rintro e8 w8 ⟨rfl,hL8'⟩;have HL3:=Lib.hid hL8';clear hL8') | fail)
      go_roundw
      case rel=>exact ⟨k + 1,by go_num,hlt,by rw [HNX.out,← List.append_assoc,← List.append_assoc,← List.append_assoc,← List.append_assoc,HQ.out];exact HL3.out⟩
      case measure=>simp [intOf];omega
     ·have hk1:¬ (k:Int) < (R.st.length:Int):=by omega
      rw [List.take_of_length_le (show R.st.length ≤ k by omega)] at hW
      have HW:=Lib.hid hW
      clear hW
      go_wp2_with fail
      go_meet
      case rel=>exact HW.out
   case rest =>
    have HC2:=Lib.hid hcut
    clear HC hcut
    (clear zr r0 r1 r2 r3 r4 r5 r6 r7 r8 zp p0 p1 p2 p3 p4 p5 p6 p7 p8)
    have hl3:(L2 ++ R.st.flatMap (stpW P)).length ≤ 1000:=by rw [List.length_append,flatc_len (stpW P) 4 (fun _=>rfl)];omega
    generalize hL3:L2 ++ R.st.flatMap (stpW P) = L3 at HC2 hl3
    have HL3:=Lib.hid hL3
    have hle3:L3.length ≤ 1000:=hl3
    clear hL3 hl3
    have HC:=HC2
    clear HC2
    (obtain ⟨zr,r0,r1,r2,r3,r4,r5,r6,r7,r8,zp,p0,p1,p2,p3,p4,p5,p6,p7,p8⟩:=HRX.out _ HC.out.1.1)
    go_upto_block 3 with fail
    go_cut [] from 78 to 105 (fun wc=>LotS w0 b wc (L3 ++ R.nd.flatMap (ndW P bNeed)))
    case first =>
     clear HRES
     (clear zr r0 r1 r2 r3 r4 r5 r6 r7 r8 zp p0 p1 p2 p3 p4 p5 p6 p7 p8)
     go_wp2_with fail
     go_loopw [7] (fun x wr=>∃ k:Nat,x = .int .i64 k∧k ≤ R.nd.length∧LotS w0 b wr (L3 ++ (R.nd.take k).flatMap (ndW P bNeed))) (fun x _=>R.nd.length - (intOf x).toNat)
     case atStart=>exact ⟨0,rfl,Nat.zero_le _,by simpa using HC.out⟩
     case round =>
      obtain ⟨k,rfl,hk,hW⟩:=hrel
      clear HC
      (obtain ⟨zr,r0,r1,r2,r3,r4,r5,r6,r7,r8,zp,p0,p1,p2,p3,p4,p5,p6,p7,p8⟩:=HRX.out _ hW.1.1)
      by_cases hlt:k < R.nd.length
      ·have hk1:(k:Int) < (R.nd.length:Int):=by omega
       obtain ⟨nb,no,hs2,hnb,n0,n1⟩:=HT2.out.at k hlt
       subst hs2
       have HY:Hid (∀ w',Gr w0 w' → nb < w'.heap.size∧w'.cell? ⟨nb,no + k * 2,none⟩ = some (.int .i64 R.nd[k].e)∧w'.cell? ⟨nb,no + k * 2 + 1,none⟩ = some (.int .i64 R.nd[k].p)):=fun w' g=>⟨Nat.lt_of_lt_of_le hnb g.size,(g.cell _ _ hnb).trans n0,(g.cell _ _ hnb).trans n1⟩
       have hft:=flatc_len (ndW P bNeed) 3 (fun _=>rfl) (R.nd.take k)
       rw [List.length_take,Nat.min_eq_left hk] at hft
       have HNX:=Lib.hid (nd_flat P bNeed R.nd k hlt)
       generalize hq:L3 ++ (R.nd.take k).flatMap (ndW P bNeed) = Lk at hW
       have hlk:Lk.length ≤ 8000:=by rw [← hq,List.length_append,hft];omega
       have HQ:=Lib.hid hq
       generalize R.nd[k] = nx at *
       clear n0 n1 hnb hq hft
       have HPW:Hid (Calls Tryz.prog 57 #[.pointer (some ⟨b,0,none⟩),.string ⟨#[110,101,101,100]⟩] wr fun e' w'=>e' = .returned (.tuple #[])∧LotS w0 b w' (Lk ++ [bNeed])):=lotPut_any w0 b wr Lk bNeed hW (by omega) (by decide)
       clear hW
       go_upto_region 24 with (first | (go_at_call 57;(with_reducible refine (HPW.out).mono ?_);rintro e5 w3 ⟨rfl,hL3'⟩;have HL3:=Lib.hid hL3';clear hL3') | fail)
       clear HPW
       (clear zr r0 r1 r2 r3 r4 r5 r6 r7 r8 zp p0 p1 p2 p3 p4 p5 p6 p7 p8)
       have HLQ:=HL3
       clear HL3
       have g3:=HLQ.out.1.1
       (obtain ⟨zr,r0,r1,r2,r3,r4,r5,r6,r7,r8,zp,p0,p1,p2,p3,p4,p5,p6,p7,p8⟩:=HRX.out _ g3)
       obtain ⟨zy,y0,y1⟩:=HY.out _ g3
       have hll:(Lk ++ [bNeed]).length ≤ 9000:=by simp;omega
       go_upto_region 24 with fail
       go_cut [] from 87 to 96 (fun wc=>LotS w0 b wc (Lk ++ [bNeed] ++ [elW P nx.e]))
       case first =>
        go_region_law (first | (go_simp;go_at_call 59;(with_reducible refine (HEL.out _ _ (g3.trans (Gr.refl _).drew)).mono ?_);rintro e7 w7 ⟨rfl,g7⟩;try go_wp2_with fail) | (go_simp;go_at_call 57;(with_reducible refine (lotPut_any w0 b _ _ _ (HLQ.out.gr ((Gr.refl _).drew.trans g7)) hll (HSE.out _)).mono ?_);rintro e8 w8 ⟨rfl,hL8'⟩;have HL3:=Lib.hid hL8';clear hL8'))
        all_goals
         go_wp2_with fail
         go_meet
         case rel=>exact HL3.out
       case rest =>
       have HL3:=Lib.hid hcut
       clear hcut
       go_upto_region 25 with fail
       clear HLQ g3 hll zy y0 y1
       (clear zr r0 r1 r2 r3 r4 r5 r6 r7 r8 zp p0 p1 p2 p3 p4 p5 p6 p7 p8)
       have HLQ:=HL3
       clear HL3
       have g3:=HLQ.out.1.1
       (obtain ⟨zr,r0,r1,r2,r3,r4,r5,r6,r7,r8,zp,p0,p1,p2,p3,p4,p5,p6,p7,p8⟩:=HRX.out _ g3)
       obtain ⟨zy,y0,y1⟩:=HY.out _ g3
       have hll:(Lk ++ [bNeed] ++ [elW P nx.e]).length ≤ 9000:=by simp;omega
       go_wp2_with (first | (go_at_call 61;(with_reducible refine (poW12_any _ _).mono ?_);rintro e7 w7 ⟨rfl,g7⟩) | (go_at_call 57;(with_reducible refine (lotPut_any w0 b _ _ _ (HLQ.out.gr g7) hll (poW_size _)).mono ?_);rintro e8 w8 ⟨rfl,hL8'⟩;have HL3:=Lib.hid hL8';clear hL8') | fail)
       go_roundw
       case rel=>exact ⟨k + 1,by go_num,hlt,by rw [HNX.out,← List.append_assoc,← List.append_assoc,← List.append_assoc,HQ.out];exact HL3.out⟩
       case measure=>simp [intOf];omega
      ·have hk1:¬ (k:Int) < (R.nd.length:Int):=by omega
       rw [List.take_of_length_le (show R.nd.length ≤ k by omega)] at hW
       have HW:=Lib.hid hW
       clear hW
       go_wp2_with fail
       go_meet
       case rel=>exact HW.out
    case rest =>
     have HC2:=Lib.hid hcut
     clear HC hcut
     (clear zr r0 r1 r2 r3 r4 r5 r6 r7 r8 zp p0 p1 p2 p3 p4 p5 p6 p7 p8)
     have hl3:(L3 ++ R.nd.flatMap (ndW P bNeed)).length ≤ 2000:=by rw [List.length_append,flatc_len (ndW P bNeed) 3 (fun _=>rfl)];omega
     generalize hL4:L3 ++ R.nd.flatMap (ndW P bNeed) = L4 at HC2 hl3
     have HL4:=Lib.hid hL4
     have hle4:L4.length ≤ 2000:=hl3
     clear hL4 hl3
     have HC:=HC2
     clear HC2
     (obtain ⟨zr,r0,r1,r2,r3,r4,r5,r6,r7,r8,zp,p0,p1,p2,p3,p4,p5,p6,p7,p8⟩:=HRX.out _ HC.out.1.1)
     go_upto_block 5 with fail
     go_cut [] from 106 to 133 (fun wc=>LotS w0 b wc (L4 ++ R.gd.flatMap (ndW P bGuard)))
     case first =>
      clear HRES
      (clear zr r0 r1 r2 r3 r4 r5 r6 r7 r8 zp p0 p1 p2 p3 p4 p5 p6 p7 p8)
      go_wp2_with fail
      go_loopw [8] (fun x wr=>∃ k:Nat,x = .int .i64 k∧k ≤ R.gd.length∧LotS w0 b wr (L4 ++ (R.gd.take k).flatMap (ndW P bGuard))) (fun x _=>R.gd.length - (intOf x).toNat)
      case atStart=>exact ⟨0,rfl,Nat.zero_le _,by simpa using HC.out⟩
      case round =>
       obtain ⟨k,rfl,hk,hW⟩:=hrel
       clear HC
       (obtain ⟨zr,r0,r1,r2,r3,r4,r5,r6,r7,r8,zp,p0,p1,p2,p3,p4,p5,p6,p7,p8⟩:=HRX.out _ hW.1.1)
       by_cases hlt:k < R.gd.length
       ·have hk1:(k:Int) < (R.gd.length:Int):=by omega
        obtain ⟨nb,no,hs2,hnb,n0,n1⟩:=HT3.out.at k hlt
        subst hs2
        have HY:Hid (∀ w',Gr w0 w' → nb < w'.heap.size∧w'.cell? ⟨nb,no + k * 2,none⟩ = some (.int .i64 R.gd[k].e)∧w'.cell? ⟨nb,no + k * 2 + 1,none⟩ = some (.int .i64 R.gd[k].p)):=fun w' g=>⟨Nat.lt_of_lt_of_le hnb g.size,(g.cell _ _ hnb).trans n0,(g.cell _ _ hnb).trans n1⟩
        have hft:=flatc_len (ndW P bGuard) 3 (fun _=>rfl) (R.gd.take k)
        rw [List.length_take,Nat.min_eq_left hk] at hft
        have HNX:=Lib.hid (nd_flat P bGuard R.gd k hlt)
        generalize hq:L4 ++ (R.gd.take k).flatMap (ndW P bGuard) = Lk at hW
        have hlk:Lk.length ≤ 8000:=by rw [← hq,List.length_append,hft];omega
        have HQ:=Lib.hid hq
        generalize R.gd[k] = nx at *
        clear n0 n1 hnb hq hft
        have HPW:Hid (Calls Tryz.prog 57 #[.pointer (some ⟨b,0,none⟩),.string ⟨#[103,117,97,114,100]⟩] wr fun e' w'=>e' = .returned (.tuple #[])∧LotS w0 b w' (Lk ++ [bGuard])):=lotPut_any w0 b wr Lk bGuard hW (by omega) (by decide)
        clear hW
        go_upto_region 30 with (first | (go_at_call 57;(with_reducible refine (HPW.out).mono ?_);rintro e5 w3 ⟨rfl,hL3'⟩;have HL3:=Lib.hid hL3';clear hL3') | fail)
        clear HPW
        (clear zr r0 r1 r2 r3 r4 r5 r6 r7 r8 zp p0 p1 p2 p3 p4 p5 p6 p7 p8)
        have HLQ:=HL3
        clear HL3
        have g3:=HLQ.out.1.1
        (obtain ⟨zr,r0,r1,r2,r3,r4,r5,r6,r7,r8,zp,p0,p1,p2,p3,p4,p5,p6,p7,p8⟩:=HRX.out _ g3)
        obtain ⟨zy,y0,y1⟩:=HY.out _ g3
        have hll:(Lk ++ [bGuard]).length ≤ 9000:=by simp;omega
        go_upto_region 30 with fail
        go_cut [] from 115 to 124 (fun wc=>LotS w0 b wc (Lk ++ [bGuard] ++ [elW P nx.e]))
        case first =>
         go_region_law (first | (go_simp;go_at_call 59;(with_reducible refine (HEL.out _ _ (g3.trans (Gr.refl _).drew)).mono ?_);rintro e7 w7 ⟨rfl,g7⟩;try go_wp2_with fail) | (go_simp;go_at_call 57;(with_reducible refine (lotPut_any w0 b _ _ _ (HLQ.out.gr ((Gr.refl _).drew.trans g7)) hll (HSE.out _)).mono ?_);rintro e8 w8 ⟨rfl,hL8'⟩;have HL3:=Lib.hid hL8';clear hL8'))
         all_goals
          go_wp2_with fail
          go_meet
          case rel=>exact HL3.out
        case rest =>
        have HL3:=Lib.hid hcut
        clear hcut
        go_upto_region 31 with fail
        clear HLQ g3 hll zy y0 y1
        (clear zr r0 r1 r2 r3 r4 r5 r6 r7 r8 zp p0 p1 p2 p3 p4 p5 p6 p7 p8)
        have HLQ:=HL3
        clear HL3
        have g3:=HLQ.out.1.1
        (obtain ⟨zr,r0,r1,r2,r3,r4,r5,r6,r7,r8,zp,p0,p1,p2,p3,p4,p5,p6,p7,p8⟩:=HRX.out _ g3)
        obtain ⟨zy,y0,y1⟩:=HY.out _ g3
        have hll:(Lk ++ [bGuard] ++ [elW P nx.e]).length ≤ 9000:=by simp;omega
        go_wp2_with (first | (go_at_call 61;(with_reducible refine (poW12_any _ _).mono ?_);rintro e7 w7 ⟨rfl,g7⟩) | (go_at_call 57;(with_reducible refine (lotPut_any w0 b _ _ _ (HLQ.out.gr g7) hll (poW_size _)).mono ?_);rintro e8 w8 ⟨rfl,hL8'⟩;have HL3:=Lib.hid hL8';clear hL8') | fail)
        go_roundw
        case rel=>exact ⟨k + 1,by go_num,hlt,by rw [HNX.out,← List.append_assoc,← List.append_assoc,← List.append_assoc,HQ.out];exact HL3.out⟩
        case measure=>simp [intOf];omega
       ·have hk1:¬ (k:Int) < (R.gd.length:Int):=by omega
        rw [List.take_of_length_le (show R.gd.length ≤ k by omega)] at hW
        have HW:=Lib.hid hW
        clear hW
        go_wp2_with fail
        go_meet
        case rel=>exact HW.out
     case rest =>
      have HC2:=Lib.hid hcut
      clear HC hcut
      (clear zr r0 r1 r2 r3 r4 r5 r6 r7 r8 zp p0 p1 p2 p3 p4 p5 p6 p7 p8)
      have hl3:(L4 ++ R.gd.flatMap (ndW P bGuard)).length ≤ 3000:=by rw [List.length_append,flatc_len (ndW P bGuard) 3 (fun _=>rfl)];omega
      generalize hL5:L4 ++ R.gd.flatMap (ndW P bGuard) = L5 at HC2 hl3
      have HL5:=Lib.hid hL5
      have hle5:L5.length ≤ 3000:=hl3
      clear hL5 hl3
      have HC:=HC2
      clear HC2
      (obtain ⟨zr,r0,r1,r2,r3,r4,r5,r6,r7,r8,zp,p0,p1,p2,p3,p4,p5,p6,p7,p8⟩:=HRX.out _ HC.out.1.1)
      go_upto_block 7 with fail
      go_cut [] from 134 to 151 (fun wc=>LotS w0 b wc (L5 ++ R.zn.flatMap (znW P)))
      case first =>
       clear HRES
       (clear zr r0 r1 r2 r3 r4 r5 r6 r7 r8 zp p0 p1 p2 p3 p4 p5 p6 p7 p8)
       go_wp2_with fail
       go_loopw [9] (fun x wr=>∃ k:Nat,x = .int .i64 k∧k ≤ R.zn.length∧LotS w0 b wr (L5 ++ (R.zn.take k).flatMap (znW P))) (fun x _=>R.zn.length - (intOf x).toNat)
       case atStart=>exact ⟨0,rfl,Nat.zero_le _,by simpa using HC.out⟩
       case round =>
        obtain ⟨k,rfl,hk,hW⟩:=hrel
        clear HC
        (obtain ⟨zr,r0,r1,r2,r3,r4,r5,r6,r7,r8,zp,p0,p1,p2,p3,p4,p5,p6,p7,p8⟩:=HRX.out _ hW.1.1)
        by_cases hlt:k < R.zn.length
        ·have hk1:(k:Int) < (R.zn.length:Int):=by omega
         obtain ⟨nb,no,hs2,hnb,n0⟩:=HT4.out.at k hlt
         subst hs2
         have HY:Hid (∀ w',Gr w0 w' → nb < w'.heap.size∧w'.cell? ⟨nb,no + k,none⟩ = some (.int .i64 R.zn[k])):=fun w' g=>⟨Nat.lt_of_lt_of_le hnb g.size,(g.cell _ _ hnb).trans n0⟩
         have hft:=flatc_len (znW P) 2 (fun _=>rfl) (R.zn.take k)
         rw [List.length_take,Nat.min_eq_left hk] at hft
         have HNX:=Lib.hid (zn_flat P R.zn k hlt)
         generalize hq:L5 ++ (R.zn.take k).flatMap (znW P) = Lk at hW
         have hlk:Lk.length ≤ 8000:=by rw [← hq,List.length_append,hft];omega
         have HQ:=Lib.hid hq
         generalize R.zn[k] = nx at *
         clear n0 hnb hq hft
         have HPW:Hid (Calls Tryz.prog 57 #[.pointer (some ⟨b,0,none⟩),.string ⟨#[122,111,110,101]⟩] wr fun e' w'=>e' = .returned (.tuple #[])∧LotS w0 b w' (Lk ++ [bZone])):=lotPut_any w0 b wr Lk bZone hW (by omega) (by decide)
         clear hW
         go_upto_region 36 with (first | (go_at_call 57;(with_reducible refine (HPW.out).mono ?_);rintro e5 w3 ⟨rfl,hL3'⟩;have HL3:=Lib.hid hL3';clear hL3') | fail)
         clear HPW
         (clear zr r0 r1 r2 r3 r4 r5 r6 r7 r8 zp p0 p1 p2 p3 p4 p5 p6 p7 p8)
         have HLQ:=HL3
         clear HL3
         have g3:=HLQ.out.1.1
         (obtain ⟨zr,r0,r1,r2,r3,r4,r5,r6,r7,r8,zp,p0,p1,p2,p3,p4,p5,p6,p7,p8⟩:=HRX.out _ g3)
         obtain ⟨zy,y0⟩:=HY.out _ g3
         have hll:(Lk ++ [bZone]).length ≤ 9000:=by simp;omega
         go_upto_region 36 with fail
         go_region_law (first | (go_simp;go_at_call 59;(with_reducible refine (HEL.out _ _ (g3.trans (Gr.refl _).drew)).mono ?_);rintro e7 w7 ⟨rfl,g7⟩;try go_wp2_with fail) | (go_simp;go_at_call 57;(with_reducible refine (lotPut_any w0 b _ _ _ (HLQ.out.gr ((Gr.refl _).drew.trans g7)) hll (HSE.out _)).mono ?_);rintro e8 w8 ⟨rfl,hL8'⟩;have HL3:=Lib.hid hL8';clear hL8'))
         all_goals
          go_wp2_with fail
          go_roundw
          case rel=>exact ⟨k + 1,by go_num,hlt,by rw [HNX.out,← List.append_assoc,← List.append_assoc,HQ.out];exact HL3.out⟩
          case measure=>simp [intOf];omega
        ·have hk1:¬ (k:Int) < (R.zn.length:Int):=by omega
         rw [List.take_of_length_le (show R.zn.length ≤ k by omega)] at hW
         have HW:=Lib.hid hW
         clear hW
         go_wp2_with fail
         go_meet
         case rel=>exact HW.out
      case rest =>
       have HC2:=Lib.hid hcut
       clear HC hcut
       (clear zr r0 r1 r2 r3 r4 r5 r6 r7 r8 zp p0 p1 p2 p3 p4 p5 p6 p7 p8)
       have hl3:(L5 ++ R.zn.flatMap (znW P)).length ≤ 4000:=by rw [List.length_append,flatc_len (znW P) 2 (fun _=>rfl)];omega
       generalize hL6:L5 ++ R.zn.flatMap (znW P) = L6 at HC2 hl3
       have HL6:=Lib.hid hL6
       have hle6:L6.length ≤ 4000:=hl3
       clear hL6 hl3
       have HC:=HC2
       clear HC2
       (obtain ⟨zr,r0,r1,r2,r3,r4,r5,r6,r7,r8,zp,p0,p1,p2,p3,p4,p5,p6,p7,p8⟩:=HRX.out _ HC.out.1.1)
       go_upto_block 9 with fail
       go_cut [] from 152 to 169 (fun wc=>LotS w0 b wc (L6 ++ R.hd.flatMap (hdW P)))
       case first =>
        clear HRES
        (clear zr r0 r1 r2 r3 r4 r5 r6 r7 r8 zp p0 p1 p2 p3 p4 p5 p6 p7 p8)
        go_wp2_with fail
        go_loopw [10] (fun x wr=>∃ k:Nat,x = .int .i64 k∧k ≤ R.hd.length∧LotS w0 b wr (L6 ++ (R.hd.take k).flatMap (hdW P))) (fun x _=>R.hd.length - (intOf x).toNat)
        case atStart=>exact ⟨0,rfl,Nat.zero_le _,by simpa using HC.out⟩
        case round =>
         obtain ⟨k,rfl,hk,hW⟩:=hrel
         clear HC
         (obtain ⟨zr,r0,r1,r2,r3,r4,r5,r6,r7,r8,zp,p0,p1,p2,p3,p4,p5,p6,p7,p8⟩:=HRX.out _ hW.1.1)
         by_cases hlt:k < R.hd.length
         ·have hk1:(k:Int) < (R.hd.length:Int):=by omega
          obtain ⟨nb,no,hs2,hnb,n0⟩:=HT5.out.at k hlt
          subst hs2
          have HY:Hid (∀ w',Gr w0 w' → nb < w'.heap.size∧w'.cell? ⟨nb,no + k,none⟩ = some (.int .i64 R.hd[k])):=fun w' g=>⟨Nat.lt_of_lt_of_le hnb g.size,(g.cell _ _ hnb).trans n0⟩
          have hft:=flatc_len (hdW P) 2 (fun _=>rfl) (R.hd.take k)
          rw [List.length_take,Nat.min_eq_left hk] at hft
          have HNX:=Lib.hid (hd_flat P R.hd k hlt)
          generalize hq:L6 ++ (R.hd.take k).flatMap (hdW P) = Lk at hW
          have hlk:Lk.length ≤ 8000:=by rw [← hq,List.length_append,hft];omega
          have HQ:=Lib.hid hq
          generalize R.hd[k] = nx at *
          clear n0 hnb hq hft
          have HPW:Hid (Calls Tryz.prog 57 #[.pointer (some ⟨b,0,none⟩),.string ⟨#[104,111,108,100]⟩] wr fun e' w'=>e' = .returned (.tuple #[])∧LotS w0 b w' (Lk ++ [bHold])):=lotPut_any w0 b wr Lk bHold hW (by omega) (by decide)
          clear hW
          go_upto_region 41 with (first | (go_at_call 57;(with_reducible refine (HPW.out).mono ?_);rintro e5 w3 ⟨rfl,hL3'⟩;have HL3:=Lib.hid hL3';clear hL3') | fail)
          clear HPW
          (clear zr r0 r1 r2 r3 r4 r5 r6 r7 r8 zp p0 p1 p2 p3 p4 p5 p6 p7 p8)
          have HLQ:=HL3
          clear HL3
          have g3:=HLQ.out.1.1
          (obtain ⟨zr,r0,r1,r2,r3,r4,r5,r6,r7,r8,zp,p0,p1,p2,p3,p4,p5,p6,p7,p8⟩:=HRX.out _ g3)
          obtain ⟨zy,y0⟩:=HY.out _ g3
          have hll:(Lk ++ [bHold]).length ≤ 9000:=by simp;omega
          go_upto_region 41 with fail
          go_region_law (first | (go_simp;go_at_call 58;(with_reducible refine (HSG.out _ _ (g3.trans (Gr.refl _).drew)).mono ?_);rintro e7 w7 ⟨rfl,g7⟩;try go_wp2_with fail) | (go_simp;go_at_call 57;(with_reducible refine (lotPut_any w0 b _ _ _ (HLQ.out.gr ((Gr.refl _).drew.trans g7)) hll (HSS.out _)).mono ?_);rintro e8 w8 ⟨rfl,hL8'⟩;have HL3:=Lib.hid hL8';clear hL8'))
          all_goals
           go_wp2_with fail
           go_roundw
           case rel=>exact ⟨k + 1,by go_num,hlt,by rw [HNX.out,← List.append_assoc,← List.append_assoc,HQ.out];exact HL3.out⟩
           case measure=>simp [intOf];omega
         ·have hk1:¬ (k:Int) < (R.hd.length:Int):=by omega
          rw [List.take_of_length_le (show R.hd.length ≤ k by omega)] at hW
          have HW:=Lib.hid hW
          clear hW
          go_wp2_with fail
          go_meet
          case rel=>exact HW.out
       case rest =>
        have HC2:=Lib.hid hcut
        clear HC hcut
        (clear zr r0 r1 r2 r3 r4 r5 r6 r7 r8 zp p0 p1 p2 p3 p4 p5 p6 p7 p8)
        have hl3:(L6 ++ R.hd.flatMap (hdW P)).length ≤ 5000:=by rw [List.length_append,flatc_len (hdW P) 2 (fun _=>rfl)];omega
        generalize hL7:L6 ++ R.hd.flatMap (hdW P) = L7 at HC2 hl3
        have HL7:=Lib.hid hL7
        have hle7:L7.length ≤ 5000:=hl3
        clear hL7 hl3
        have HC:=HC2
        clear HC2
        have HL7':Hid (roadW P R ew = L7 ++ bareW R.ba):=by
         show _ = _
         rw [← HL7.out,← HL6.out,← HL5.out,← HL4.out,← HL3.out,← HL2.out,← HL1.out]
         rfl
        rw [HL7'.out] at HRES
        clear HL7' HL7 HL6 HL5 HL4 HL3 HL2 HL1
        (obtain ⟨zr,r0,r1,r2,r3,r4,r5,r6,r7,r8,zp,p0,p1,p2,p3,p4,p5,p6,p7,p8⟩:=HRX.out _ HC.out.1.1)
        have HPB:Hid (Calls Tryz.prog 57 #[.pointer (some ⟨b,0,none⟩),.string ⟨#[98,97,114,101]⟩] wc fun e' w'=>e' = .returned (.tuple #[])∧LotS w0 b w' (L7 ++ [bBare])):=lotPut_any w0 b wc L7 bBare HC.out (by omega) (by decide)
        clear HRX
        generalize R.ba = ba at *
        cases ba
        ·have HR8:Hid ((if badW L7 then bNil else jnW L7) = res):=by
          have h1:=HRES.out
          simp only [bareW,Bool.false_eq_true,if_false,List.append_nil] at h1
          exact h1
         have hgr:=HG0.out.trans HC.out.1.1
         obtain ⟨-,sx,hh,hs,-⟩:=HC.out
         have hbz:=heap_lt hh
         have c0:wc.cell? ⟨b,0,none⟩ = some (.string sx):=by rw [cell_of_row _ _ _ _ _ _ hh];rfl
         have c1:wc.cell? ⟨b,1,none⟩ = some (.bool (badW L7)):=by rw [cell_of_row _ _ _ _ _ _ hh];rfl
         cases hbad:badW L7
         ·rw [hbad] at c1 hs
          have hr:=HR8.out
          rw [hbad,if_neg (by simp),← hs rfl] at hr
          have HR:=Lib.hid hr
          clear hr hs hh HC HPB HRES HR8 hbad
          go_wp2_with fail
          go_ret
          exact ⟨ret_str HR.out,hgr⟩
         ·rw [hbad] at c1
          have hr:=HR8.out
          rw [hbad,if_pos rfl] at hr
          have HR:=Lib.hid hr
          clear hr hs hh HC HPB HRES HR8 hbad
          go_wp2_with fail
          go_ret
          exact ⟨ret_str HR.out,hgr⟩
        ·have HR8:Hid ((if badW (L7 ++ [bBare]) then bNil else jnW (L7 ++ [bBare])) = res):=HRES.out
         clear HRES HC
         go_upto_region 44 with (first | (go_at_call 57;(with_reducible refine (HPB.out).mono ?_);rintro e5 w3 ⟨rfl,hL3'⟩;have HL3:=Lib.hid hL3';clear hL3') | fail)
         (clear zr r0 r1 r2 r3 r4 r5 r6 r7 r8 zp p0 p1 p2 p3 p4 p5 p6 p7 p8)
         generalize L7 ++ [bBare] = L8 at *
         have hgr:=HG0.out.trans HL3.out.1.1
         obtain ⟨-,sx,hh,hs,-⟩:=HL3.out
         have hbz:=heap_lt hh
         have c0:w3.cell? ⟨b,0,none⟩ = some (.string sx):=by rw [cell_of_row _ _ _ _ _ _ hh];rfl
         have c1:w3.cell? ⟨b,1,none⟩ = some (.bool (badW L8)):=by rw [cell_of_row _ _ _ _ _ _ hh];rfl
         cases hbad:badW L8
         ·rw [hbad] at c1 hs
          have hr:=HR8.out
          rw [hbad,if_neg (by simp),← hs rfl] at hr
          have HR:=Lib.hid hr
          clear hr hs hh HL3 HPB HR8 hbad
          go_wp2_with fail
          go_ret
          exact ⟨ret_str HR.out,hgr⟩
         ·rw [hbad] at c1
          have hr:=HR8.out
          rw [hbad,if_pos rfl] at hr
          have HR:=Lib.hid hr
          clear hr hs hh HL3 HPB HR8 hbad
          go_wp2_with fail
          go_ret
          exact ⟨ret_str HR.out,hgr⟩
end Go.Proofs.YtknmngejjoohdaaGreatDoor
