/- Helps of the proof of ChartWord. -/
import Derived.Test.YthkbcablnpbmgaaGreatDoorRows
import Derived.Test.YthkbcablnpbmgaaGreatDoorW36
import Derived.Test.YthkbcablnpbmgaaGreatDoorW26
import Derived.Deep.Cut
import Derived.Deep.RegionLaw
import Derived.BigRegion
import Derived.Test.YthkbcablnpbmgaaGreatDoorW23
import Derived.Test.YthkbcablnpbmgaaGreatDoorW27
import Derived.Test.YthkbcablnpbmgaaGreatDoorW2
set_option linter.unusedVariables false
set_option linter.unusedSimpArgs false
set_option maxHeartbeats 8000000
set_option maxRecDepth 100000
namespace Go.Proofs.YthkbcablnpbmgaaGreatDoor
open Go.ChangeShapes Go.WideShapes Go.ChangeAt Go.RowKit Go.Maps
section
variable {w w' wq w2:World} {rb rz:Nat} {r:Rod} {S:S5} {v':Value}
theorem RqS.setSt{L:List Stp}(h:RqS w rb rz w' r S)(gk:Gr w' wq)(ho:dO w'.heap.size wq v' L):RqS w rb rz (wq.setCell ⟨rb,3,none⟩ v') { r with st:=L } { S with st:=v' }∧Kp (fun k=>k=rb) w' (wq.setCell ⟨rb,3,none⟩ v'):=by
 have hq:=h.grow gk;exact⟨hq.set 3 v' rfl ⟨aQ ho h.gr.size,hq.rn.nd,hq.rn.gd,hq.rn.zn,hq.rn.hd⟩ h.dn h.dz,(Kp.gr gk).trans (Kp.set rfl)⟩
theorem RqS.setNd{L:List Nd}(h:RqS w rb rz w' r S)(gk:Gr w' wq)(ho:bV w'.heap.size wq v' L):RqS w rb rz (wq.setCell ⟨rb,4,none⟩ v') { r with nd:=L } { S with nd:=v' }∧Kp (fun k=>k=rb) w' (wq.setCell ⟨rb,4,none⟩ v'):=by
 have hq:=h.grow gk;refine⟨hq.set 4 v' rfl ⟨hq.rn.st,aQ ho h.gr.size,hq.rn.gd,hq.rn.zn,hq.rn.hd⟩ (fun k hk e=>?_) h.dz,(Kp.gr gk).trans (Kp.set rfl)⟩;have h1:=dS ho k hk;have h2:=bL h.rn.gd k e;omega
end
theorem lB(r:Rod)(s:Stp)(p en d:Int)(V:S5)(B:Nat)(w:World)(hr:cM B w V r)(h12:r.st.length≤1000)(hnl:r.nd.length≤1000):
  Calls Tryz.prog 149 #[eL r V,.agg #[.int .i64 s.e,.int .i64 s.i,.int .i64 s.o],.int .i64 p,.int .i64 en,.int .i64 d] w fun e w'=>∃V',e= .returned (eL (bX r s p en d) V')∧cM w.heap.size w' V' (bX r s p en d)∧Gr w w':=by
 obtain⟨V1,V2,V3,V4,V5⟩:=V;obtain⟨a1,k1,h1⟩:=aC hr.st;obtain⟨a2,k2,h2⟩:=aC hr.nd;obtain⟨a3,k3,h3⟩:=aC hr.gd;obtain⟨a4,k4,h4⟩:=aC hr.zn;obtain⟨a5,k5,h5⟩:=aC hr.hd;dsimp only at h1 h2 h3 h4 h5;subst h1 h2 h3 h4 h5;unfold eL;dsimp only
 have G1:Gr w ((((w.alloc (.cells #[.int .i64 r.fr,.int .i64 r.dst,.int .i64 r.en,.slice a1 r.st.length k1,.slice a2 r.nd.length k2,.slice a3 r.gd.length k3,.slice a4 r.zn.length k4,.slice a5 r.hd.length k5,.bool r.ba] 47)).alloc (.cells #[.int .i64 s.e,.int .i64 s.i,.int .i64 s.o] 81)).alloc (.cells #[.int .i64 0,.int .i64 0,.int .i64 0,.slice none 0 0,.slice none 0 0,.slice none 0 0,.slice none 0 0,.slice none 0 0,.bool false] 47)).alloc (.cells #[.int .i64 r.fr,.int .i64 d,.int .i64 en,.slice none 0 0,.slice none 0 0,.slice none 0 0,.slice none 0 0,.slice none 0 0,.bool false] 47)):=((((Gr.refl w).alloc _).alloc _).alloc _).alloc _;have hS1:Hid (∀w',Gr w w'→mT w' 3 (.slice a1 r.st.length k1) r.st.length (r.st.flatMap Stp.cs)):=aA fun w' g=>mT.own (aE hr.st g);have hS2:Hid (∀w',Gr w w'→mT w' 2 (.slice a2 r.nd.length k2) r.nd.length (r.nd.flatMap Nd.cs)):=aA fun w' g=>mT.own (aE hr.nd g);have O1:Hid (∀y∈r.st.flatMap Stp.cs,y.oneCell'=true):=aA fun y hy=>by
  obtain⟨x,-,hx⟩:=List.mem_flatMap.1 hy;simp[Stp.cs] at hx;rcases hx with rfl|rfl|rfl<;>rfl
 have O2:Hid (∀y∈r.nd.flatMap Nd.cs,y.oneCell'=true):=aA fun y hy=>by
  obtain⟨x,-,hx⟩:=List.mem_flatMap.1 hy;simp[Nd.cs] at hx;rcases hx with rfl|rfl<;>rfl
 obtain⟨i0,hi0,hi1,hi2,hi3⟩:=info_parts Tryz.infoSt;obtain⟨n0,hn0,hn1,hn2,hn3⟩:=info_parts Tryz.infoNd;have hR:Hid (RqS w (w.heap.size+1+1+1) (w.heap.size+1+1) ((((w.alloc (.cells #[.int .i64 r.fr,.int .i64 r.dst,.int .i64 r.en,.slice a1 r.st.length k1,.slice a2 r.nd.length k2,.slice a3 r.gd.length k3,.slice a4 r.zn.length k4,.slice a5 r.hd.length k5,.bool r.ba] 47)).alloc (.cells #[.int .i64 s.e,.int .i64 s.i,.int .i64 s.o] 81)).alloc (.cells #[.int .i64 0,.int .i64 0,.int .i64 0,.slice none 0 0,.slice none 0 0,.slice none 0 0,.slice none 0 0,.slice none 0 0,.bool false] 47)).alloc (.cells #[.int .i64 r.fr,.int .i64 d,.int .i64 en,.slice none 0 0,.slice none 0 0,.slice none 0 0,.slice none 0 0,.slice none 0 0,.bool false] 47)) ⟨r.fr,d,en,[],[],[],[],[],false⟩ S50):=by
  refine aA ⟨G1,⟨by omega,by omega,by omega⟩,?_,?_,⟨dO.nil _ _,bV.nil _ _,bV.nil _ _,cD.nil _ _,cD.nil _ _⟩,(fun k hk=>by cases hk),(fun k hk=>by cases hk)⟩
  ·have:=heap_alloc_new (((w.alloc (.cells #[.int .i64 r.fr,.int .i64 r.dst,.int .i64 r.en,.slice a1 r.st.length k1,.slice a2 r.nd.length k2,.slice a3 r.gd.length k3,.slice a4 r.zn.length k4,.slice a5 r.hd.length k5,.bool r.ba] 47)).alloc (.cells #[.int .i64 s.e,.int .i64 s.i,.int .i64 s.o] 81)).alloc (.cells #[.int .i64 0,.int .i64 0,.int .i64 0,.slice none 0 0,.slice none 0 0,.slice none 0 0,.slice none 0 0,.slice none 0 0,.bool false] 47)) (.cells #[.int .i64 r.fr,.int .i64 d,.int .i64 en,.slice none 0 0,.slice none 0 0,.slice none 0 0,.slice none 0 0,.slice none 0 0,.bool false] 47);have e:(((w.alloc (.cells #[.int .i64 r.fr,.int .i64 r.dst,.int .i64 r.en,.slice a1 r.st.length k1,.slice a2 r.nd.length k2,.slice a3 r.gd.length k3,.slice a4 r.zn.length k4,.slice a5 r.hd.length k5,.bool r.ba] 47)).alloc (.cells #[.int .i64 s.e,.int .i64 s.i,.int .i64 s.o] 81)).alloc (.cells #[.int .i64 0,.int .i64 0,.int .i64 0,.slice none 0 0,.slice none 0 0,.slice none 0 0,.slice none 0 0,.slice none 0 0,.bool false] 47)).heap.size=w.heap.size+1+1+1:=by simp
   rw[e] at this;exact this
  ·have:=heap_alloc_new ((w.alloc (.cells #[.int .i64 r.fr,.int .i64 r.dst,.int .i64 r.en,.slice a1 r.st.length k1,.slice a2 r.nd.length k2,.slice a3 r.gd.length k3,.slice a4 r.zn.length k4,.slice a5 r.hd.length k5,.bool r.ba] 47)).alloc (.cells #[.int .i64 s.e,.int .i64 s.i,.int .i64 s.o] 81)) (.cells #[.int .i64 0,.int .i64 0,.int .i64 0,.slice none 0 0,.slice none 0 0,.slice none 0 0,.slice none 0 0,.slice none 0 0,.bool false] 47);have e:((w.alloc (.cells #[.int .i64 r.fr,.int .i64 r.dst,.int .i64 r.en,.slice a1 r.st.length k1,.slice a2 r.nd.length k2,.slice a3 r.gd.length k3,.slice a4 r.zn.length k4,.slice a5 r.hd.length k5,.bool r.ba] 47)).alloc (.cells #[.int .i64 s.e,.int .i64 s.i,.int .i64 s.o] 81)).heap.size=w.heap.size+1+1:=by simp
   rw[e] at this;have g:Gr (((w.alloc (.cells #[.int .i64 r.fr,.int .i64 r.dst,.int .i64 r.en,.slice a1 r.st.length k1,.slice a2 r.nd.length k2,.slice a3 r.gd.length k3,.slice a4 r.zn.length k4,.slice a5 r.hd.length k5,.bool r.ba] 47)).alloc (.cells #[.int .i64 s.e,.int .i64 s.i,.int .i64 s.o] 81)).alloc (.cells #[.int .i64 0,.int .i64 0,.int .i64 0,.slice none 0 0,.slice none 0 0,.slice none 0 0,.slice none 0 0,.slice none 0 0,.bool false] 47)) ((((w.alloc (.cells #[.int .i64 r.fr,.int .i64 r.dst,.int .i64 r.en,.slice a1 r.st.length k1,.slice a2 r.nd.length k2,.slice a3 r.gd.length k3,.slice a4 r.zn.length k4,.slice a5 r.hd.length k5,.bool r.ba] 47)).alloc (.cells #[.int .i64 s.e,.int .i64 s.i,.int .i64 s.o] 81)).alloc (.cells #[.int .i64 0,.int .i64 0,.int .i64 0,.slice none 0 0,.slice none 0 0,.slice none 0 0,.slice none 0 0,.slice none 0 0,.bool false] 47)).alloc (.cells #[.int .i64 r.fr,.int .i64 d,.int .i64 en,.slice none 0 0,.slice none 0 0,.slice none 0 0,.slice none 0 0,.slice none 0 0,.bool false] 47)):=(Gr.refl _).alloc _;exact(g.block _ (aB this)).trans this
 have hB0:Hid (((((w.alloc (.cells #[.int .i64 r.fr,.int .i64 r.dst,.int .i64 r.en,.slice a1 r.st.length k1,.slice a2 r.nd.length k2,.slice a3 r.gd.length k3,.slice a4 r.zn.length k4,.slice a5 r.hd.length k5,.bool r.ba] 47)).alloc (.cells #[.int .i64 s.e,.int .i64 s.i,.int .i64 s.o] 81)).alloc (.cells #[.int .i64 0,.int .i64 0,.int .i64 0,.slice none 0 0,.slice none 0 0,.slice none 0 0,.slice none 0 0,.slice none 0 0,.bool false] 47)).alloc (.cells #[.int .i64 r.fr,.int .i64 d,.int .i64 en,.slice none 0 0,.slice none 0 0,.slice none 0 0,.slice none 0 0,.slice none 0 0,.bool false] 47)).heap[w.heap.size]? =some (.cells #[.int .i64 r.fr,.int .i64 r.dst,.int .i64 r.en,.slice a1 r.st.length k1,.slice a2 r.nd.length k2,.slice a3 r.gd.length k3,.slice a4 r.zn.length k4,.slice a5 r.hd.length k5,.bool r.ba] 47)):=by
  have g:Gr (w.alloc (.cells #[.int .i64 r.fr,.int .i64 r.dst,.int .i64 r.en,.slice a1 r.st.length k1,.slice a2 r.nd.length k2,.slice a3 r.gd.length k3,.slice a4 r.zn.length k4,.slice a5 r.hd.length k5,.bool r.ba] 47)) ((((w.alloc (.cells #[.int .i64 r.fr,.int .i64 r.dst,.int .i64 r.en,.slice a1 r.st.length k1,.slice a2 r.nd.length k2,.slice a3 r.gd.length k3,.slice a4 r.zn.length k4,.slice a5 r.hd.length k5,.bool r.ba] 47)).alloc (.cells #[.int .i64 s.e,.int .i64 s.i,.int .i64 s.o] 81)).alloc (.cells #[.int .i64 0,.int .i64 0,.int .i64 0,.slice none 0 0,.slice none 0 0,.slice none 0 0,.slice none 0 0,.slice none 0 0,.bool false] 47)).alloc (.cells #[.int .i64 r.fr,.int .i64 d,.int .i64 en,.slice none 0 0,.slice none 0 0,.slice none 0 0,.slice none 0 0,.slice none 0 0,.bool false] 47)):=(((Gr.refl _).alloc _).alloc _).alloc _;exact aA ((g.block _ (by simp)).trans (heap_alloc_new w _))
 have hB1:Hid (((((w.alloc (.cells #[.int .i64 r.fr,.int .i64 r.dst,.int .i64 r.en,.slice a1 r.st.length k1,.slice a2 r.nd.length k2,.slice a3 r.gd.length k3,.slice a4 r.zn.length k4,.slice a5 r.hd.length k5,.bool r.ba] 47)).alloc (.cells #[.int .i64 s.e,.int .i64 s.i,.int .i64 s.o] 81)).alloc (.cells #[.int .i64 0,.int .i64 0,.int .i64 0,.slice none 0 0,.slice none 0 0,.slice none 0 0,.slice none 0 0,.slice none 0 0,.bool false] 47)).alloc (.cells #[.int .i64 r.fr,.int .i64 d,.int .i64 en,.slice none 0 0,.slice none 0 0,.slice none 0 0,.slice none 0 0,.slice none 0 0,.bool false] 47)).heap[w.heap.size+1]? =some (.cells #[.int .i64 s.e,.int .i64 s.i,.int .i64 s.o] 81)):=by
  have:=heap_alloc_new (w.alloc (.cells #[.int .i64 r.fr,.int .i64 r.dst,.int .i64 r.en,.slice a1 r.st.length k1,.slice a2 r.nd.length k2,.slice a3 r.gd.length k3,.slice a4 r.zn.length k4,.slice a5 r.hd.length k5,.bool r.ba] 47)) (.cells #[.int .i64 s.e,.int .i64 s.i,.int .i64 s.o] 81);have e:(w.alloc (.cells #[.int .i64 r.fr,.int .i64 r.dst,.int .i64 r.en,.slice a1 r.st.length k1,.slice a2 r.nd.length k2,.slice a3 r.gd.length k3,.slice a4 r.zn.length k4,.slice a5 r.hd.length k5,.bool r.ba] 47)).heap.size=w.heap.size+1:=by simp
  rw[e] at this;have g:Gr ((w.alloc (.cells #[.int .i64 r.fr,.int .i64 r.dst,.int .i64 r.en,.slice a1 r.st.length k1,.slice a2 r.nd.length k2,.slice a3 r.gd.length k3,.slice a4 r.zn.length k4,.slice a5 r.hd.length k5,.bool r.ba] 47)).alloc (.cells #[.int .i64 s.e,.int .i64 s.i,.int .i64 s.o] 81)) ((((w.alloc (.cells #[.int .i64 r.fr,.int .i64 r.dst,.int .i64 r.en,.slice a1 r.st.length k1,.slice a2 r.nd.length k2,.slice a3 r.gd.length k3,.slice a4 r.zn.length k4,.slice a5 r.hd.length k5,.bool r.ba] 47)).alloc (.cells #[.int .i64 s.e,.int .i64 s.i,.int .i64 s.o] 81)).alloc (.cells #[.int .i64 0,.int .i64 0,.int .i64 0,.slice none 0 0,.slice none 0 0,.slice none 0 0,.slice none 0 0,.slice none 0 0,.bool false] 47)).alloc (.cells #[.int .i64 r.fr,.int .i64 d,.int .i64 en,.slice none 0 0,.slice none 0 0,.slice none 0 0,.slice none 0 0,.slice none 0 0,.bool false] 47)):=((Gr.refl _).alloc _).alloc _;exact aA ((g.block _ (aB this)).trans this)
 have HG1:=aA G1;clear hr;go_enter Tryz.func149,Tryz.ntmps149
 go_upto_region 2 with fail
 have HNE:Hid ((w.heap.size≠w.heap.size+1+1+1∧w.heap.size+1≠w.heap.size+1+1+1)∧w.heap.size≤w.heap.size+1+1+1):=aA (by omega);generalize ((((w.alloc (.cells #[.int .i64 r.fr,.int .i64 r.dst,.int .i64 r.en,.slice a1 r.st.length k1,.slice a2 r.nd.length k2,.slice a3 r.gd.length k3,.slice a4 r.zn.length k4,.slice a5 r.hd.length k5,.bool r.ba] 47)).alloc (.cells #[.int .i64 s.e,.int .i64 s.i,.int .i64 s.o] 81)).alloc (.cells #[.int .i64 0,.int .i64 0,.int .i64 0,.slice none 0 0,.slice none 0 0,.slice none 0 0,.slice none 0 0,.slice none 0 0,.bool false] 47)).alloc (.cells #[.int .i64 r.fr,.int .i64 d,.int .i64 en,.slice none 0 0,.slice none 0 0,.slice none 0 0,.slice none 0 0,.slice none 0 0,.bool false] 47))=w1 at *;generalize w.heap.size+1+1+1=rb at *;generalize w.heap.size+1+1=rz at *;generalize w.heap.size+1=sb at *;generalize hnb:w.heap.size=b0 at hB0 HNE ⊢;have HNB:=aA hnb;clear hnb G1;have r3:=cell_of_row _ _ 3 _ _ _ hB0.out;have zr:=aB hB0.out;have s0:=cell_of_row _ _ 0 _ _ _ hB1.out;have s1:=cell_of_row _ _ 1 _ _ _ hB1.out;have s2:=cell_of_row _ _ 2 _ _ _ hB1.out;have zs:=aB hB1.out;simp at r3 s0 s1 s2;have zw:=HG1.out.size;have HF9:Hid (∀w',Gr w1 w'→(w'.cell? ⟨rb,3,none⟩=some (.slice none 0 0)∧w'.frozen? ⟨rb,3,none⟩=false∧rb<w'.heap.size)∧w'.cell? ⟨sb,0,none⟩=some (.int .i64 s.e)∧w'.cell? ⟨sb,1,none⟩=some (.int .i64 s.i)∧w'.cell? ⟨sb,2,none⟩=some (.int .i64 s.o)∧sb<w'.heap.size):=aA fun w' g=>by
  have hb:=(g.block _ (aB hR.out.hb)).trans hR.out.hb;have hs:=(g.block _ (aB hB1.out)).trans hB1.out;exact⟨⟨cell_of_row _ _ 3 _ _ _ hb,frozen_of_row _ _ 3 _ _ hb,aB hb⟩,cell_of_row _ _ 0 _ _ _ hs,cell_of_row _ _ 1 _ _ _ hs,cell_of_row _ _ 2 _ _ _ hs,aB hs⟩
 have hE:=heap_alloc_new w1 (.cells #[] 81);have hE2:((w1.alloc (.cells #[] 81)).alloc (.cells #[.int .i64 s.e,.int .i64 s.i,.int .i64 s.o] 81)).heap[w1.heap.size]? =some (.cells #[] 81):=(((Gr.refl (w1.alloc (.cells #[] 81))).alloc (.cells #[.int .i64 s.e,.int .i64 s.i,.int .i64 s.o] 81)).block _ (by simp)).trans hE;have hS2':((w1.alloc (.cells #[] 81)).alloc (.cells #[.int .i64 s.e,.int .i64 s.i,.int .i64 s.o] 81)).heap[w1.heap.size+1]? =some (.cells #[.int .i64 s.e,.int .i64 s.i,.int .i64 s.o] 81):=by
  have:=heap_alloc_new (w1.alloc (.cells #[] 81)) (.cells #[.int .i64 s.e,.int .i64 s.i,.int .i64 s.o] 81);have e:(w1.alloc (.cells #[] 81)).heap.size=w1.heap.size+1:=by simp
  rw[e] at this;exact this
 have hE3:((w1.alloc (.cells #[.int .i64 s.e,.int .i64 s.i,.int .i64 s.o] 81)).alloc (.cells #[] 81)).heap[w1.heap.size+1]? =some (.cells #[] 81):=by
  have:=heap_alloc_new (w1.alloc (.cells #[.int .i64 s.e,.int .i64 s.i,.int .i64 s.o] 81)) (.cells #[] 81);have e:(w1.alloc (.cells #[.int .i64 s.e,.int .i64 s.i,.int .i64 s.o] 81)).heap.size=w1.heap.size+1:=by simp
  rw[e] at this;exact this
 have hS3:((w1.alloc (.cells #[.int .i64 s.e,.int .i64 s.i,.int .i64 s.o] 81)).alloc (.cells #[] 81)).heap[w1.heap.size]? =some (.cells #[.int .i64 s.e,.int .i64 s.i,.int .i64 s.o] 81):=(((Gr.refl (w1.alloc (.cells #[.int .i64 s.e,.int .i64 s.i,.int .i64 s.o] 81))).alloc (.cells #[] 81)).block _ (by simp)).trans (heap_alloc_new w1 _);have HE:=aA hE;have HE2:=aA hE2;have HS2:=aA hS2';have HE3:=aA hE3;have HS3:=aA hS3;clear hE hE2 hS2' hE3 hS3;have GX1:Gr w1 (w1.alloc (.cells #[] 81)).drew:=((Gr.refl _).alloc _).drew;have GX2:Gr w1 ((w1.alloc (.cells #[] 81)).alloc (.cells #[.int .i64 s.e,.int .i64 s.i,.int .i64 s.o] 81)).drew:=(((Gr.refl _).alloc _).alloc _).drew;have GX3:Gr w1 ((w1.alloc (.cells #[.int .i64 s.e,.int .i64 s.i,.int .i64 s.o] 81)).alloc (.cells #[] 81)).drew:=(((Gr.refl _).alloc _).alloc _).drew;obtain⟨⟨q3,f3,zq⟩,-⟩:=HF9.out w1 (Gr.refl _);have HGX1:=aA GX1;have HGX2:=aA GX2;have HGX3:=aA GX3;clear GX1 GX2 GX3;go_cut [] from 17 to 24 (fun wc=>∃va vc,RqS w rb rz wc ⟨r.fr,d,en,r.st++[s],[],[],[],[],false⟩ ⟨.slice va (r.st.length+1) vc,.slice none 0 0,.slice none 0 0,.slice none 0 0,.slice none 0 0⟩∧Kp (fun k=>k=rb) w1 wc)
 case first=>
  go_region_law (first|(refine aV (w:=(w1.alloc (.cells #[] 81)).drew) (by rfl) _ _ _ (by rfl) w1.heap.size 81 i0 _ 3 24 Tryz.underlying43 hi0 hi1 hi2 hi3 rfl (by decide) (.slice (some ⟨w1.heap.size,0,none⟩) 0 0) 0 [] (by rfl) ((bO (B:=w1.heap.size) (HE.out) (by omega)).drew) (.slice a1 r.st.length k1) r.st.length (r.st.flatMap Stp.cs) (by rfl) (hS1.out _ (HG1.out.trans HGX1.out)) O1.out (by unfold maxLen;omega) (by omega) (by have:=(HGX1.out).size;omega) ?_;intro v9 w9 hown9 hgrow9 hat9;have G9:Gr w1 w9:=Gr.grown HGX1.out hgrow9 ((bO (B:=w1.heap.size) (size:=3) (HE.out) (by omega)).drew);have HG9:=aA G9;obtain⟨⟨q39,f39,zq9⟩,s09,s19,s29,zs9⟩:=HF9.out w9 G9)|((refine aV (w:=((w1.alloc (.cells #[] 81)).alloc (.cells #[.int .i64 s.e,.int .i64 s.i,.int .i64 s.o] 81)).drew) (by rfl) _ _ _ (by rfl) w1.heap.size 81 i0 _ 3 24 Tryz.underlying43 hi0 hi1 hi2 hi3 rfl (by decide) (.slice (some ⟨w1.heap.size,0,none⟩) 0 0) 0 [] (by rfl) ((bO (B:=w1.heap.size) (HE2.out) (by omega)).drew) (.slice a1 r.st.length k1) r.st.length (r.st.flatMap Stp.cs) (by rfl) (hS1.out _ (HG1.out.trans HGX2.out)) O1.out (by unfold maxLen;omega) (by omega) (by have:=(HGX2.out).size;omega) ?_;intro v9 w9 hown9 hgrow9 hat9;have G9:Gr w1 w9:=Gr.grown HGX2.out hgrow9 ((bO (B:=w1.heap.size) (size:=3) (HE2.out) (by omega)).drew);have HG9:=aA G9;obtain⟨⟨q39,f39,zq9⟩,s09,s19,s29,zs9⟩:=HF9.out w9 G9);have hSB:w9.heap[w1.heap.size+1]? =some (.cells #[.int .i64 s.e,.int .i64 s.i,.int .i64 s.o] 81):=(hgrow9.block _ (by first|(simp;done)|(simp;omega)) (by first|(simp[Value.ownBlock];done)|(simp[Value.ownBlock];omega))).trans HS2.out;have HSB:=aA hSB;clear hSB)|((refine aV (w:=((w1.alloc (.cells #[.int .i64 s.e,.int .i64 s.i,.int .i64 s.o] 81)).alloc (.cells #[] 81)).drew) (by rfl) _ _ _ (by rfl) w1.heap.size 81 i0 _ 3 24 Tryz.underlying43 hi0 hi1 hi2 hi3 rfl (by decide) (.slice (some ⟨w1.heap.size+1,0,none⟩) 0 0) 0 [] (by rfl) ((bO (B:=w1.heap.size) (HE3.out) (by omega)).drew) (.slice a1 r.st.length k1) r.st.length (r.st.flatMap Stp.cs) (by rfl) (hS1.out _ (HG1.out.trans HGX3.out)) O1.out (by unfold maxLen;omega) (by omega) (by have:=(HGX3.out).size;omega) ?_;intro v9 w9 hown9 hgrow9 hat9;have G9:Gr w1 w9:=Gr.grown HGX3.out hgrow9 ((bO (B:=w1.heap.size) (size:=3) (HE3.out) (by omega)).drew);have HG9:=aA G9;obtain⟨⟨q39,f39,zq9⟩,s09,s19,s29,zs9⟩:=HF9.out w9 G9);have hSB:w9.heap[w1.heap.size]? =some (.cells #[.int .i64 s.e,.int .i64 s.i,.int .i64 s.o] 81):=(hgrow9.block _ (by first|(simp;done)|(simp;omega)) (by first|(simp[Value.ownBlock];done)|(simp[Value.ownBlock];omega))).trans HS3.out;have HSB:=aA hSB;clear hSB)|(refine aV (w:=w9.alloc (.cells #[.int .i64 s.e,.int .i64 s.i,.int .i64 s.o] 81)) (by rfl) _ _ _ (by rfl) w1.heap.size 81 i0 _ 3 24 Tryz.underlying43 hi0 hi1 hi2 hi3 rfl (by decide) v9 _ _ (by rfl) (aE hown9 ((Gr.refl w9).alloc _)) (.slice (some ⟨w9.heap.size,0,none⟩) 1 1) 1 s.cs (by rfl) ⟨rfl,.inr ⟨⟨w9.heap.size,0,none⟩,1,rfl,World.news_of_block (heap_alloc_new w9 _)⟩⟩ (by simp[Stp.cs,Value.oneCell']) (by unfold maxLen;omega) (by omega) (by have:=HG9.out.size;simp;omega) ?_;intro v10 w10 hown10 hgrow10 hat10;have G10:Gr w1 w10:=Gr.grown (HG9.out.alloc _) hgrow10 hown9;have HG10:=aA G10;obtain⟨⟨q310,f310,zq10⟩,-⟩:=HF9.out w10 G10;obtain⟨va,vc,rfl⟩:=aC hown10)|(refine aV (w:=w9) (by rfl) _ _ _ (by rfl) w1.heap.size 81 i0 _ 3 24 Tryz.underlying43 hi0 hi1 hi2 hi3 rfl (by decide) v9 _ _ (by rfl) hown9 (.slice (some ⟨_,0,none⟩) 1 1) 1 s.cs (by rfl) ⟨rfl,.inr ⟨⟨_,0,none⟩,1,rfl,World.news_of_block HSB.out⟩⟩ (by simp[Stp.cs,Value.oneCell']) (by unfold maxLen;omega) (by omega) HG9.out.size ?_;intro v10 w10 hown10 hgrow10 hat10;have G10:Gr w1 w10:=Gr.grown HG9.out hgrow10 hown9;have HG10:=aA G10;obtain⟨⟨q310,f310,zq10⟩,-⟩:=HF9.out w10 G10;obtain⟨va,vc,rfl⟩:=aC hown10))
  all_goals go_wp2_with fail
  all_goals go_meet
  all_goals
   case rel=>
    have ho:dO w1.heap.size w10 (.slice va (r.st.length+1) vc) (r.st++[s]):=by
     have h:=hown10;rw[List.nil_append,Nat.zero_add] at h;exact dO.snoc h
    obtain⟨x1,x2⟩:=hR.out.setSt HG10.out ho;exact⟨_,_,x1,x2⟩
 case rest=>
 obtain⟨va1,vc1,hR1,kR1⟩:=hcut;obtain⟨wq,hwq⟩:∃u,u=wc:=⟨_,rfl⟩;subst hwq;have HRQ:=aA hR1;have hBq:=(kR1.2 b0 (aB hB0.out) HNE.out.1.1).trans hB0.out;have hSq:=(kR1.2 sb (aB hB1.out) HNE.out.1.2).trans hB1.out;have HSQ:=aA hSq;have r4:=cell_of_row _ _ 4 _ _ _ hBq;have zr:=aB hBq;simp at r4;have HEQ:=aA (heap_alloc_new wq (.cells #[] 112));have HGE:=aA (hR1.gr.trans ((Gr.refl wq).alloc (.cells #[] 112)));have zq:=hR1.gr.size;clear hR1 kR1 hBq hSq hB0 hB1 HF9 HE HE2 HE3 HS2 HS3 HG1 HGX1 HGX2 HGX3 q3 f3 zq hR;go_upto_region 4 with (first|(at_builtin;refine qP rfl _ _ 44 rfl wq.heap.size 112 n0 _ 2 16 Tryz.underlying44 hn0 hn1 hn2 hn3 rfl (by decide) (.slice (some ⟨wq.heap.size,0,none⟩) 0 0) 0 [] rfl (bO HEQ.out (Nat.le_refl _)) (.slice a2 r.nd.length k2) r.nd.length (r.nd.flatMap Nd.cs) rfl (hS2.out _ HGE.out) O2.out (by unfold maxLen;omega) (by omega) (by simp) ?_;intro v9 w9 hown9 hgrow9 hat9;have HG9:=aA (Gr.grown ((Gr.refl wq).alloc (.cells #[] 112)) hgrow9 (bO (B:=wq.heap.size) (size:=2) HEQ.out (Nat.le_refl _)));rw[Nat.zero_add,List.nil_append] at hown9;obtain⟨na,nc,rfl⟩:=aC hown9;have HO9:Hid (bV wq.heap.size w9 (.slice na r.nd.length nc) r.nd):=hown9;obtain⟨zo9,⟨-,-,-,-,d49,-,-,-,-⟩,fo9⟩:=(HRQ.out.grow HG9.out).cells;have f49:=fo9 4;clear hown9 hgrow9 hat9 fo9))
 have HR9:=aA ((HRQ.out.setNd HG9.out HO9.out).1);have hs9:(w9.setCell ⟨rb,4,none⟩ (.slice na r.nd.length nc)).heap[sb]? =some (.cells #[.int .i64 s.e,.int .i64 s.i,.int .i64 s.o] 81):=(heap_setCell_other w9 ⟨rb,4,none⟩ sb _ HNE.out.1.2).trans ((HG9.out.block _ (aB HSQ.out)).trans HSQ.out);clear HRQ HSQ HEQ HGE HG9 HO9 r4 zr zo9 f49 d49;generalize w9.setCell ⟨rb,4,none⟩ (.slice na r.nd.length nc)=w3 at *;have s0:=cell_of_row _ _ 0 _ _ _ hs9;have zs:=aB hs9;simp at s0;by_cases hp:p=0
 ·have tp:(p !=0)=false:=iJ hp;have hw:bX r s p en d=⟨r.fr,d,en,r.st++[s],r.nd,[],[],[],false⟩:=by unfold bX kD;rw[if_pos hp]
  have HW:=aA hw;have HF:=aA (fun w9=>HR9.out.fin w9);obtain⟨zz,⟨z0,z1,z2,z3,z4,z5,z6,z7,z8⟩,g0,g1,g2,g3,g4,g5,g6,g7,g8⟩:=lN HR9.out.hz;obtain⟨zo,⟨d0,d1,d2,d3,d4,d5,d6,d7,d8⟩,-⟩:=HR9.out.cells;dsimp only at d0 d1 d2 d3 d4 d5 d6 d7 d8;clear hw hp;go_wp2_with fail
  obtain⟨hzz,q1,q2⟩:=HF.out _ rfl;rw[HW.out];refine bodyPost_ret (results_cell_row rfl _ _ rz 47 _ _ _ rfl hzz Tryz.underlying47 rfl (by kernel_rfl)) rfl ?_;exact⟨⟨_,_,_,_,_⟩,rfl,q1,q2⟩
 ·have tp:(p !=0)=true:=jW hp;have hw:bX r s p en d=⟨r.fr,d,en,r.st++[s],r.nd++[⟨s.e,p⟩],[],[],[],false⟩:=by unfold bX kD;rw[if_neg hp]
  have HW:=aA hw;obtain⟨zo,⟨-,-,-,-,d4,-,-,-,-⟩,fo⟩:=HR9.out.cells;have f4:=fo 4;dsimp only at d4;have far4:=aK HR9.out.rn.nd HR9.out.hb (by decide);dsimp only at far4;have zq:=HR9.out.gr.size;clear hw hp fo;go_wp2_with (first|(at_builtin;refine wpList_append_lies _ rfl _ _ 44 rfl w.heap.size 112 n0 (.agg #[.int .i64 0,.int .i64 0]) 2 16 Tryz.underlying44 hn0 hn1 hn2 hn3 rfl (by decide) _ _ _ rfl (aE HR9.out.rn.nd ((Gr.refl w3).alloc _)) ⟨w3.heap.size,0,none⟩ 1 1 [.int .i64 s.e,.int .i64 p] rfl rfl ?c1 ?c2 ?c3 ?c4 ?c5 ?c6 (w3.heap.size+1) ?c7 ?_))
  try (case c1=>exact World.news_of_block (heap_alloc_new w3 _))
  try (case c2=>simp[Value.oneCell'])
  try (case c3=>omega)
  try (case c4=>(unfold maxLen;omega))
  try (case c5=>omega)
  try (case c6=>(simp;omega))
  try (case c6=>omega)
  try (case c7=>simp)
  intro gg cap w10 hown hgrow hat hgl;have cu9:=(hgrow.cell_far ⟨rb,4,none⟩ (by simp;omega) (by simpa using far4));have fu9:=(hgrow.frozen_far ⟨rb,4,none⟩ (by simp;omega) (by simpa using far4));have zr9:rb<w10.heap.size:=Nat.lt_of_lt_of_le (by simp;omega) hgrow.size;have HPU:=aA ((HR9.out.putNd (x:=⟨s.e,p⟩) ((Gr.refl w3).alloc (.cells #[.int .i64 s.e,.int .i64 p] 112)) hgrow hown (by simpa using hat)).1);clear hown hgrow hat hgl;go_upto_region 6 with fail
  have HF:=aA (fun w9=>HPU.out.fin w9);obtain⟨zz,⟨z0,z1,z2,z3,z4,z5,z6,z7,z8⟩,g0,g1,g2,g3,g4,g5,g6,g7,g8⟩:=lN HPU.out.hz;obtain⟨zo',⟨d0,d1,d2,d3,d4',d5,d6,d7,d8⟩,-⟩:=HPU.out.cells;dsimp only at d0 d1 d2 d3 d4' d5 d6 d7 d8;clear d4 zo f4 far4 s0 zs hs9 cu9 fu9 zr9 HR9;generalize w10.setCell ⟨rb,4,none⟩ (.slice (some ⟨gg,0,none⟩) (r.nd.length+1) cap)=w5 at *;go_wp2_with fail
  obtain⟨hzz,q1,q2⟩:=HF.out _ rfl;rw[HW.out];refine bodyPost_ret (results_cell_row rfl _ _ rz 47 _ _ _ rfl hzz Tryz.underlying47 rfl (by kernel_rfl)) rfl ?_;exact⟨⟨_,_,_,_,_⟩,rfl,q1,q2⟩
end Go.Proofs.YthkbcablnpbmgaaGreatDoor
namespace Go.Proofs.YthkbcablnpbmgaaGreatDoor
open Go.ChangeShapes Go.WideShapes Go.ChangeAt Go.RowKit Go.Maps
theorem nT(v:Value)(P:Pln)(i:Int)(w:World)(hP:aI w v P):
  Calls Tryz.prog 130 #[v,.int .i64 i] w fun e w'=>e= .returned (.int .i64 (aF P i))∧Gr w w':=by
 have HPI:=aA hP;obtain⟨a1,c1,a2,c2,a3,c3,a4,c4,rfl,-⟩:=hP;unfold aX at *;have HK:Hid (∀w',Gr w w'→Calls Tryz.prog 122 #[.agg #[.slice a1 P.es.length c1,.slice a2 P.js.length c2,.slice a3 P.ss.length c3,.slice a4 P.ls.length c4,.int .i64 P.top,.int .i64 P.brake,.int .i64 P.margin,.int .i64 P.throw,.bool P.hard],.int .i64 i] w' fun e w''=>e= .returned (.int .i64 (aF P i))∧Gr w' w''):=fun w' g=>iX _ P i w' (HPI.out.gr g);generalize aF P i=K at *;clear HPI;go_enter Tryz.func130,Tryz.ntmps130
 go_wp2_with (first|(go_at_call 122;(with_reducible refine(HK.out _ ((Gr.refl w).alloc _)).mono ?_);rintro e w1 ⟨rfl,g1⟩))
 go_ret
 exact⟨rfl,((Gr.refl w).alloc _).trans g1⟩
theorem Hg(v:Value)(P:Pln)(i:Int)(w:World)(hP:aI w v P):
  Calls Tryz.prog 128 #[v,.int .i64 i] w fun e w'=>e= .returned (.tuple #[.agg #[.int .i64 (atS P i).1.e,.int .i64 (atS P i).1.x],.bool (atS P i).2])∧Gr w w':=by
 have HPI:=aA hP;obtain⟨a1,c1,a2,c2,a3,c3,a4,c4,rfl,-,-,h3,-⟩:=hP;unfold aX at *;have m3':=aL.len h3;unfold maxLen at m3';have hz:w.heap.size≤w.heap.size+1:=by omega
 by_cases h0:i<0
 ·have HE:Hid (atS P i=(⟨0,0⟩,false)):=aA (by unfold atS;rw[if_neg (by omega)]);rw[HE.out];clear HPI;go_enter Tryz.func128,Tryz.ntmps128
  go_wp2_with fail
  refine bodyPost_ret (v:=.tuple #[.agg #[.int .i64 0,.int .i64 0],.bool false]) (by simp[results,Tryz.results128,go_sem]) rfl ⟨rfl,?_⟩;first
   | exact((Gr.refl w).alloc _).alloc _
   | (refine Gr.setCell ?_ hz _;refine Gr.setCell ?_ hz _;exact((Gr.refl w).alloc _).alloc _)
 ·obtain⟨k,rfl⟩:=Int.eq_ofNat_of_zero_le (show 0≤i by omega);by_cases hk:k<P.ss.length
  ·have hk1:(k:Int)<(P.ss.length:Int):=by omega
   have hk3:¬P.ss.length≤k:=by omega
   obtain⟨bb,o,hs,z,y0,y1,y2,y3⟩:=h3.at k hk;subst hs;have HE:Hid (atS P k=(P.ss[k].at_,true)):=aA (by unfold atS;rw[if_pos (by omega),Int.toNat_natCast,aP _ _ hk]);rw[HE.out];generalize P.ss[k]=q at *;obtain⟨qn,⟨qe,qx⟩,qa⟩:=q;dsimp only at y0 y1 y2 y3 ⊢;clear HE HPI;go_enter Tryz.func128,Tryz.ntmps128
   go_wp2_with fail
   refine bodyPost_ret (v:=.tuple #[.agg #[.int .i64 qe,.int .i64 qx],.bool true]) (by simp[results,Tryz.results128,go_sem]) rfl ⟨rfl,?_⟩;first
    | exact((Gr.refl w).alloc _).alloc _
    | (refine Gr.setCell ?_ hz _;refine Gr.setCell ?_ hz _;exact((Gr.refl w).alloc _).alloc _)
  ·have hk1:¬(k:Int)<(P.ss.length:Int):=by omega
   have hk3:P.ss.length≤k:=by omega
   have HE:Hid (atS P k=(⟨0,0⟩,false)):=aA (by unfold atS;rw[if_neg (by omega)]);rw[HE.out];clear HPI;go_enter Tryz.func128,Tryz.ntmps128
   go_wp2_with fail
   refine bodyPost_ret (v:=.tuple #[.agg #[.int .i64 0,.int .i64 0],.bool false]) (by simp[results,Tryz.results128,go_sem]) rfl ⟨rfl,?_⟩;first
    | exact((Gr.refl w).alloc _).alloc _
    | (refine Gr.setCell ?_ hz _;refine Gr.setCell ?_ hz _;exact((Gr.refl w).alloc _).alloc _)
theorem kH(L:List Nd)(x:Nd)(a:Option Addr)(c:Nat)(w:World)(hL:cX w (.slice a L.length c) L):
  Calls Tryz.prog 167 #[.slice a L.length c,.agg #[.int .i64 x.e,.int .i64 x.p]] w fun e w'=>e= .returned (.bool (decide (x∈L)))∧Gr w w':=by
 have g0:Gr w (w.alloc (.cells #[.int .i64 x.e,.int .i64 x.p] 112)):=(Gr.refl _).alloc _;have HB:Hid (∀w',Gr (w.alloc (.cells #[.int .i64 x.e,.int .i64 x.p] 112)) w'→w.heap.size<w'.heap.size∧w'.cell? ⟨w.heap.size,0,none⟩=some (.int .i64 x.e)∧w'.cell? ⟨w.heap.size,1,none⟩=some (.int .i64 x.p)):=aA fun w' g=>by
  have hb:=(g.block _ (aB (heap_alloc_new w _))).trans (heap_alloc_new w (.cells #[.int .i64 x.e,.int .i64 x.p] 112));exact⟨aB hb,cell_of_row _ _ 0 _ _ _ hb,cell_of_row _ _ 1 _ _ _ hb⟩
 have HL:=aA (hL.gr g0);obtain⟨a',c',e,hm⟩:=hL.form;unfold maxLen at hm;clear e hL;go_enter Tryz.func167,Tryz.ntmps167
 go_wp2_with fail
 generalize hw1:w.alloc (.cells #[.int .i64 x.e,.int .i64 x.p] 112)=w1 at *;generalize w.heap.size=xb at *;go_loopw [5] (fun v wr=>∃k:Nat,v= .int .i64 k∧k≤L.length∧Gr w1 wr∧Hid (∀i (hi:i<L.length),i<k→x≠L[i])) (fun v _=>L.length-(intOf v).toNat)
 case atStart=>exact⟨0,rfl,Nat.zero_le _,Gr.refl _,fun i _ h=>by omega⟩
 case round=>
  obtain⟨k,rfl,hk,g,HA⟩:=hrel;obtain⟨zx,x0,x1⟩:=HB.out _ g;by_cases hlt:k<L.length
  ·have hk1:(k:Int)<(L.length:Int):=by omega
   obtain⟨bb,o,hs,z,y0,y1⟩:=(cX.gr HL.out g).at k hlt;subst hs;have HY:Hid (L[k]=x→decide (x∈L)=true):=fun h=>decide_eq_true (h▸List.getElem_mem hlt);have HN:Hid (L[k]≠x→∀i (hi:i<L.length),i<k+1→x≠L[i]):=fun h i hi hik=>by
    by_cases e:i=k
    ·subst e;exact Ne.symm h
    ·exact HA.out i hi (by omega)
   clear HA;generalize L[k]=y at *;have E1:=Fl y x;have GG:=oR .eql;have hc1:=fun(i:GrW wr) (o:Nat)=>GrW.cell z i o;have hc2:=fun(i:GrW wr) (o:Nat)=>GrW.cell zx i o;by_cases hxy:y=x
   ·have HY2:=aA (HY.out hxy);rw[decide_eq_true hxy] at E1;clear HY HN hxy;go_upto_region 4 with fail
    (refine aG (by kernel_rfl) (by kernel_rfl) ?_;(repeat (go_big_quiet_step (fail)));refine wpQuiet_nil ?_;intro wz hz;obtain⟨iz,hz⟩:=hz;obtain⟨wn,gn⟩:=iz;dsimp only at hz;obtain rfl:=hz.symm)
    go_wp2_with fail
    go_ret
    exact⟨aD HY2.out.symm,g0.trans (g.trans gn)⟩
   ·have HN2:=aA (HN.out hxy);rw[decide_eq_false hxy] at E1;clear HY HN hxy;go_upto_region 4 with fail
    (refine aG (by kernel_rfl) (by kernel_rfl) ?_;(repeat (go_big_quiet_step (fail)));refine wpQuiet_nil ?_;intro wz hz;obtain⟨iz,hz⟩:=hz;obtain⟨wn,gn⟩:=iz;dsimp only at hz;obtain rfl:=hz.symm)
    go_wp2_with fail
    go_roundw
    case rel=>exact⟨k+1,by go_num,hlt,g.trans gn,HN2.out⟩
    case measure=>simp[intOf];omega
  ·have hk1:¬(k:Int)<(L.length:Int):=by omega
   have HR:Hid (decide (x∈L)=false):=aA (decide_eq_false fun hm=>by
    obtain⟨i,hi,e⟩:=List.mem_iff_getElem.1 hm;exact HA.out i hi (by omega) e.symm)
   clear HA;go_wp2_with fail
   go_ret
   exact⟨aD HR.out.symm,g0.trans g⟩
theorem uV(L:List Prt)(x:Prt)(a:Option Addr)(c:Nat)(w:World)(hL:eG w (.slice a L.length c) L):
  Calls Tryz.prog 152 #[.slice a L.length c,.agg #[.int .i64 x.e,.int .i64 x.x]] w fun e w'=>e= .returned (.bool (decide (x∈L)))∧Gr w w':=by
 have g0:Gr w (w.alloc (.cells #[.int .i64 x.e,.int .i64 x.x] 63)):=(Gr.refl _).alloc _;have HB:Hid (∀w',Gr (w.alloc (.cells #[.int .i64 x.e,.int .i64 x.x] 63)) w'→w.heap.size<w'.heap.size∧w'.cell? ⟨w.heap.size,0,none⟩=some (.int .i64 x.e)∧w'.cell? ⟨w.heap.size,1,none⟩=some (.int .i64 x.x)):=aA fun w' g=>by
  have hb:=(g.block _ (aB (heap_alloc_new w _))).trans (heap_alloc_new w (.cells #[.int .i64 x.e,.int .i64 x.x] 63));exact⟨aB hb,cell_of_row _ _ 0 _ _ _ hb,cell_of_row _ _ 1 _ _ _ hb⟩
 have HL:=aA (hL.gr g0);have hm:=aL.len hL;unfold maxLen at hm;clear hL;go_enter Tryz.func152,Tryz.ntmps152
 go_wp2_with fail
 generalize hw1:w.alloc (.cells #[.int .i64 x.e,.int .i64 x.x] 63)=w1 at *;generalize w.heap.size=xb at *;go_loopw [5] (fun v wr=>∃k:Nat,v= .int .i64 k∧k≤L.length∧Gr w1 wr∧Hid (∀i (hi:i<L.length),i<k→x≠L[i])) (fun v _=>L.length-(intOf v).toNat)
 case atStart=>exact⟨0,rfl,Nat.zero_le _,Gr.refl _,fun i _ h=>by omega⟩
 case round=>
  obtain⟨k,rfl,hk,g,HA⟩:=hrel;obtain⟨zx,x0,x1⟩:=HB.out _ g;by_cases hlt:k<L.length
  ·have hk1:(k:Int)<(L.length:Int):=by omega
   obtain⟨bb,o,hs,z,y0,y1⟩:=(eG.gr HL.out g).at k hlt;subst hs;have HY:Hid (L[k]=x→decide (x∈L)=true):=fun h=>decide_eq_true (h▸List.getElem_mem hlt);have HN:Hid (L[k]≠x→∀i (hi:i<L.length),i<k+1→x≠L[i]):=fun h i hi hik=>by
    by_cases e:i=k
    ·subst e;exact Ne.symm h
    ·exact HA.out i hi (by omega)
   clear HA;generalize L[k]=y at *;have E1:=gI y.e y.x x.e x.x;have GG:=lJ .eql;have hc1:=fun(i:GrW wr) (o:Nat)=>GrW.cell z i o;have hc2:=fun(i:GrW wr) (o:Nat)=>GrW.cell zx i o;by_cases hxy:y=x
   ·have HY2:=aA (HY.out hxy);rw[decide_eq_true hxy] at E1;clear HY HN hxy;go_upto_region 4 with fail
    (refine aG (by kernel_rfl) (by kernel_rfl) ?_;(repeat (go_big_quiet_step (fail)));refine wpQuiet_nil ?_;intro wz hz;obtain⟨iz,hz⟩:=hz;obtain⟨wn,gn⟩:=iz;dsimp only at hz;obtain rfl:=hz.symm)
    go_wp2_with fail
    go_ret
    exact⟨aD HY2.out.symm,g0.trans (g.trans gn)⟩
   ·have HN2:=aA (HN.out hxy);rw[decide_eq_false hxy] at E1;clear HY HN hxy;go_upto_region 4 with fail
    (refine aG (by kernel_rfl) (by kernel_rfl) ?_;(repeat (go_big_quiet_step (fail)));refine wpQuiet_nil ?_;intro wz hz;obtain⟨iz,hz⟩:=hz;obtain⟨wn,gn⟩:=iz;dsimp only at hz;obtain rfl:=hz.symm)
    go_wp2_with fail
    go_roundw
    case rel=>exact⟨k+1,by go_num,hlt,g.trans gn,HN2.out⟩
    case measure=>simp[intOf];omega
  ·have hk1:¬(k:Int)<(L.length:Int):=by omega
   have HR:Hid (decide (x∈L)=false):=aA (decide_eq_false fun hm=>by
    obtain⟨i,hi,e⟩:=List.mem_iff_getElem.1 hm;exact HA.out i hi (by omega) e.symm)
   clear HA;go_wp2_with fail
   go_ret
   exact⟨aD HR.out.symm,g0.trans g⟩
theorem Dy(r:Rod)(e:Int):decide (e∈r.st.map (·.e))=jA r e:=by
 unfold jA;rw[Bool.eq_iff_iff];simp[List.any_eq_true]
theorem Aa(r:Rod)(a1 a2 a3 a4 a5:Option Addr)(c1 c2 c3 c4 c5:Nat)(w:World)(hS:bQ w (.slice a1 r.st.length c1) r.st)(hl:r.st.length≤1000):
  Calls Tryz.prog 166 #[.agg #[.int .i64 r.fr,.int .i64 r.dst,.int .i64 r.en,.slice a1 r.st.length c1,.slice a2 r.nd.length c2,.slice a3 r.gd.length c3,.slice a4 r.zn.length c4,.slice a5 r.hd.length c5,.bool r.ba]] w fun e w'=>∃v,e= .returned v∧cD w.heap.size w' v (r.st.map (·.e))∧Gr w w':=by
 have g0:Gr w (w.alloc (.cells #[.int .i64 r.fr,.int .i64 r.dst,.int .i64 r.en,.slice a1 r.st.length c1,.slice a2 r.nd.length c2,.slice a3 r.gd.length c3,.slice a4 r.zn.length c4,.slice a5 r.hd.length c5,.bool r.ba] 47)):=(Gr.refl _).alloc _;have hb0:=heap_alloc_new w (.cells #[.int .i64 r.fr,.int .i64 r.dst,.int .i64 r.en,.slice a1 r.st.length c1,.slice a2 r.nd.length c2,.slice a3 r.gd.length c3,.slice a4 r.zn.length c4,.slice a5 r.hd.length c5,.bool r.ba] 47);have HB:Hid (∀w',Gr (w.alloc (.cells #[.int .i64 r.fr,.int .i64 r.dst,.int .i64 r.en,.slice a1 r.st.length c1,.slice a2 r.nd.length c2,.slice a3 r.gd.length c3,.slice a4 r.zn.length c4,.slice a5 r.hd.length c5,.bool r.ba] 47)) w'→w.heap.size<w'.heap.size∧w'.cell? ⟨w.heap.size,3,none⟩=some (.slice a1 r.st.length c1)):=aA fun w' g=>by
  have hb:=(g.block _ (aB hb0)).trans hb0;exact⟨aB hb,cell_of_row _ _ 3 _ _ _ hb⟩
 have HS:=aA (hS.gr g0);obtain⟨i0,hi0,hi1,hi2,hi3⟩:=info_parts Tryz.infoI;clear hS hb0;go_enter Tryz.func166,Tryz.ntmps166
 go_upto_region 2 with fail
 obtain⟨z0,y0⟩:=HB.out _ (Gr.refl _);generalize (w.alloc (.cells #[.int .i64 r.fr,.int .i64 r.dst,.int .i64 r.en,.slice a1 r.st.length c1,.slice a2 r.nd.length c2,.slice a3 r.gd.length c3,.slice a4 r.zn.length c4,.slice a5 r.hd.length c5,.bool r.ba] 47))=w1 at *;have HG0:=aA g0;go_wp2_with fail
 go_loopw [3,4] (fun v i wr=>∃k:Nat,i= .int .i64 k∧k≤r.st.length∧Gr w1 wr∧cD w1.heap.size wr v ((r.st.take k).map (·.e))) (fun _ i _=>r.st.length-(intOf i).toNat)
 case atStart=>exact⟨0,rfl,Nat.zero_le _,Gr.refl _,cD.nil _ _⟩
 case round=>
  obtain⟨k,rfl,hk,g,ho⟩:=hrel;clear z0 y0;obtain⟨zb,b3⟩:=HB.out _ g;by_cases hlt:k<r.st.length
  ·have hk1:(k:Int)<(r.st.length:Int):=by omega
   obtain⟨bb,o,hs,z,y0,y1,y2⟩:=(HS.out.gr g).at k hlt;subst hs;have HT:Hid ((r.st.take (k+1)).map (·.e)=(r.st.take k).map (·.e)++[r.st[k].e]):=aA (by show((r.st.take (k+1)).map _)=_;rw[List.take_add_one,List.getElem?_eq_getElem hlt,List.map_append];rfl);have hln:((r.st.take k).map (·.e)).length≤1000:=by rw[List.length_map,List.length_take];omega
   generalize (r.st.take k).map (·.e)=A at *;generalize r.st[k]=s at *;have HO:=aA ho;have HG:=aA g;have hz:=g.size;obtain⟨oa,oc,hv⟩:=aC ho;subst hv;clear ho y1 y2;go_wp2_with (first|(at_builtin;refine wpList_append_lies _ rfl _ _ 45 rfl w1.heap.size 3 i0 (.int .i64 0) 1 8 Tryz.underlying45 hi0 hi1 hi2 hi3 rfl (by decide) _ _ _ rfl (aE HO.out ((Gr.refl wr).alloc _)) ⟨wr.heap.size,0,none⟩ 1 1 [.int .i64 s.e] rfl rfl ?c1 ?c2 ?c3 ?c4 ?c5 ?c6 (wr.heap.size+1) ?c7 ?_))
   try (case c1=>exact cell_one_new _ _ _)
   try (case c2=>first|(intro u hu;simp at hu;subst hu;rfl)|simp[Value.oneCell'])
   try (case c3=>omega)
   try (case c4=>(unfold maxLen;omega))
   try (case c5=>omega)
   try (case c6=>(simp;omega))
   try (case c6=>omega)
   try (case c7=>simp)
   intro gg cap w9 hown hgrow hat hgl;have G9:Gr w1 w9:=Gr.grown (HG.out.alloc _) hgrow HO.out;have HO9:=aA (cD.snoc hown);have HG9:=aA G9;clear hown hgrow hat hgl G9 g;go_wp2_with fail
   go_roundw
   case rel=>exact⟨k+1,by go_num,hlt,HG9.out,by rw[HT.out];exact HO9.out⟩
   case measure=>simp[intOf];omega
  ·have hk1:¬(k:Int)<(r.st.length:Int):=by omega
   have hke:r.st.take k=r.st:=List.take_of_length_le (by omega);rw[hke] at ho;have HO:=aA ho;have HZ:Hid (w.heap.size≤w1.heap.size):=HG0.out.size;clear ho hke;go_wp2_with fail
   go_ret
   exact⟨_,rfl,aQ HO.out HZ.out,HG0.out.trans g⟩
theorem En(r:Rod)(e:Int)(a1 a2 a3 a4 a5:Option Addr)(c1 c2 c3 c4 c5:Nat)(w:World)(hS:bQ w (.slice a1 r.st.length c1) r.st)(hl:r.st.length≤1000):
  Calls Tryz.prog 151 #[.agg #[.int .i64 r.fr,.int .i64 r.dst,.int .i64 r.en,.slice a1 r.st.length c1,.slice a2 r.nd.length c2,.slice a3 r.gd.length c3,.slice a4 r.zn.length c4,.slice a5 r.hd.length c5,.bool r.ba],.int .i64 e] w fun en w'=>en= .returned (.bool (jA r e))∧Gr w w':=by
 have HE:Hid (∀w',Gr w w'→Calls Tryz.prog 166 #[.agg #[.int .i64 r.fr,.int .i64 r.dst,.int .i64 r.en,.slice a1 r.st.length c1,.slice a2 r.nd.length c2,.slice a3 r.gd.length c3,.slice a4 r.zn.length c4,.slice a5 r.hd.length c5,.bool r.ba]] w' fun e w''=>∃v,e= .returned v∧cD w'.heap.size w'' v (r.st.map (·.e))∧Gr w' w''):=aA fun w' g=>Aa r a1 a2 a3 a4 a5 c1 c2 c3 c4 c5 w' (hS.gr g) hl;have HB:=aA (Dy r e);have hln:(r.st.map (·.e)).length≤1000:=by rw[List.length_map];exact hl
 rw[←HB.out];generalize r.st.map (·.e)=A at *;clear hS HB;go_enter Tryz.func151,Tryz.ntmps151
 go_wp2_with (first|(go_at_call 166;(with_reducible refine(HE.out _ ((Gr.refl w).alloc _)).mono ?_);rintro en w1 ⟨v,rfl,ho,g1⟩;have HO:=aA ho;have HIN:=aA (jU v A e w1 (cD.vals ho (by unfold maxLen;omega)));clear ho)|(go_at_call 124;(with_reducible refine(HIN.out).mono ?_);rintro en w2 ⟨rfl,g2⟩))
 go_ret
 exact⟨rfl,(((Gr.refl w).alloc _).trans g1).trans g2⟩
end Go.Proofs.YthkbcablnpbmgaaGreatDoor
