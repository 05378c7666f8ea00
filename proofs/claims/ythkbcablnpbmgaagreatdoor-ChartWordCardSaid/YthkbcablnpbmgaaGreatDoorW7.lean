/- Helps of the proof of ChartWord. -/
import Derived.Test.YthkbcablnpbmgaaGreatDoorRows
import Derived.Test.YthkbcablnpbmgaaGreatDoorW4
import Derived.Deep.RegionHeld3
import Derived.Deep.AppendLies
set_option linter.unusedVariables false
set_option linter.unusedSimpArgs false
set_option maxHeartbeats 1000000
set_option maxRecDepth 100000
namespace Go.Proofs.YthkbcablnpbmgaaGreatDoor
open Go.ChangeShapes Go.WideShapes Go.ChangeAt Go.RowKit Go.Maps
def tE(w:World)(P:Pln)(L:List Int)(e:Ending)(w':World):Prop:=∃v,e= .returned (.tuple #[v,.bool (gT P L)])∧Gr w w'∧(gT P L=true→aR w' v ((Ev P L).map (Value.int .i64)))
theorem tE.no{w w':World}{P:Pln}{L:List Int}(h:gT P L=false)(g:Gr w w'):tE w P L (.returned (.tuple #[.slice none 0 0,.bool false])) w':=
 ⟨_,by rw[h],g,fun h'=>by rw[h] at h';cases h'⟩
theorem tE.yes{w w':World}{P:Pln}{L:List Int}{v:Value}(h:gT P L=true)(hv:aR w' v ((Ev P L).map (Value.int .i64)))(g:Gr w w'):tE w P L (.returned (.tuple #[v,.bool true])) w':=
 ⟨_,by rw[h],g,fun _=>hv⟩
def oZ(P:Pln)(A0 A1:Int)(k:Nat)(O:Int):Prop:=(k=2∧O= -1)∨(k=1∧O=if eU P ⟨A0,1⟩ A1 then 1 else -1)∨(k=0∧O=kO P A0 A1)
theorem oZ.no{P:Pln}{A0 A1:Int}{k:Nat}{O:Int}(h:oZ P A0 A1 k O)(hk:0<k)(hj:eU P ⟨A0,(k:Int)-1⟩ A1=false):oZ P A0 A1 (k-1) O:=by
 rcases h with⟨rfl,rfl⟩|⟨rfl,rfl⟩|⟨rfl,rfl⟩
 ·refine .inr (.inl ⟨rfl,?_⟩);rw[show eU P ⟨A0,1⟩ A1=false from hj];rfl
 ·refine .inr (.inr ⟨rfl,?_⟩);rw[rH,show eU P ⟨A0,0⟩ A1=false from hj];rfl
 ·omega
theorem oZ.yes{P:Pln}{A0 A1:Int}{k:Nat}{O:Int}(h:oZ P A0 A1 k O)(hk:0<k)(hj:eU P ⟨A0,(k:Int)-1⟩ A1=true):oZ P A0 A1 (k-1) ((k:Int)-1):=by
 rcases h with⟨rfl,rfl⟩|⟨rfl,rfl⟩|⟨rfl,rfl⟩
 ·refine .inr (.inl ⟨rfl,?_⟩);rw[show eU P ⟨A0,1⟩ A1=true from hj];rfl
 ·refine .inr (.inr ⟨rfl,?_⟩);rw[rH,show eU P ⟨A0,0⟩ A1=true from hj];rfl
 ·omega
theorem oZ.done{P:Pln}{A0 A1:Int}{k:Nat}{O:Int}(h:oZ P A0 A1 k O)(hk:¬0<k):O=kO P A0 A1:=by
 rcases h with⟨rfl,rfl⟩|⟨rfl,rfl⟩|⟨rfl,rfl⟩
 ·omega
 ·omega
 ·rfl
theorem Br(P:Pln)(a b:Int) : -1≤kO P a b∧kO P a b≤1:=by
 rw[rH];split
 ·omega
 ·split<;>omega
theorem wN(v u:Value)(P:Pln)(L:List Int)(w:World)(hP:aI w v P)(hu:aR w u (L.map (Value.int .i64)))(hj:∀x∈aY P.js,cS P x=true)(hn:L.length≤1000000):
  Calls Tryz.prog 125 #[v,u] w (tE w P L):=by
 obtain⟨a1,c1,a2,c2,a3,c3,a4,c4,rfl,h1,h2,h3,h4⟩:=hP;have HPv:=aA (fun(w':World) (g:Gr w w')=>aI.mk (w':=w') h1 h2 h3 h4 g);have HB:=aA (dG w P (.slice a1 P.es.length c1) (.slice a2 P.js.length c2) (.slice a3 P.ss.length c3) (.slice a4 P.ls.length c4));have hw0:=dW w P (.slice a1 P.es.length c1) (.slice a2 P.js.length c2) (.slice a3 P.ss.length c3) (.slice a4 P.ls.length c4);obtain⟨wb,hwb⟩:∃wb,wb=bxW w P (.slice a1 P.es.length c1) (.slice a2 P.js.length c2) (.slice a3 P.ss.length c3) (.slice a4 P.ls.length c4):=⟨_,rfl⟩;rw[←hwb] at HB hw0;have hu':=hu;obtain⟨av,cv,rfl,-,-⟩:=hu';simp only[List.length_map] at hu ⊢;unfold aX;have HU:=aA hu;have HWB:=aA hwb;have HJ:=aA (fun x y=>@tO P hj x y);clear h1 h2 h3 h4 hwb hu hj;by_cases h0:L.length=0
 ·have HR:Hid (gT P L=false):=by rw[List.length_eq_zero_iff.1 h0];exact Bu P
  have t1:((L.length:Int)==0)=true:=by simp[h0]
  clear h0;go_enter Tryz.func125,Tryz.ntmps125
  go_wp2
  go_ret2
  exact tE.no HR.out ((Gr.refl _).alloc _)
 have t1:((L.length:Int)==0)=false:=dN (by omega);have h0':0<L.length:=by omega
 clear h0;go_enter Tryz.func125,Tryz.ntmps125
 go_wp2_with fail
 rw[show(w.alloc (.cells #[.slice a1 P.es.length c1,.slice a2 P.js.length c2,.slice a3 P.ss.length c3,.slice a4 P.ls.length c4,.int .i64 P.top,.int .i64 P.brake,.int .i64 P.margin,.int .i64 P.throw,.bool P.hard] 27))=wb from HWB.out.symm];clear HWB;go_loopw [6] (fun x wr=>∃i:Nat,x= .int .i64 i∧i≤L.length∧Gr wb wr∧Hid (∀j (hj:j<L.length),j<i→aF P L[j]=1)) (fun x _=>L.length-(intOf x).toNat)
 case atStart=>exact⟨0,rfl,Nat.zero_le _,Gr.refl _,fun j _ h=>by omega⟩
 case round=>
  obtain⟨i,rfl,hi,g,HA⟩:=hrel;have hB:=HB.out.gr g;have hwr:Gr w wr:=hw0.trans g;by_cases hlt:i<L.length
  ·have i1:(i:Int)<(L.length:Int):=by omega
   obtain⟨b,o,hsome,zs,y0⟩:=dA (HU.out.gr hwr) i hlt;subst hsome;have HNO:=aA (@yG P L i hlt);have HA':Hid (aF P L[i]=1→∀j (hj:j<L.length),j<i+1→aF P L[j]=1):=by
    intro h j hj hjk;by_cases e:j=i
    ·subst e;exact h
    ·exact HA.out j hj (by omega)
   clear HA;have HK:=aA (fun(v':Value) (w':World) (h:aI w' v' P)=>iX v' P L[i] w' h);generalize L[i]=x at *;generalize aF P x=kx at *;obtain⟨zb,b0,b1,b2,b3,b4,b5,b6,b7,b8⟩:=hB;have hcb:=fun(i:GrW wr) (o:Nat)=>GrW.cell zb i o;have hcp:=fun(i:GrW wr) (o:Nat)=>GrW.cell zs i o;by_cases hkx:kx=1
   ·have t2:=iJ hkx;have HG:=aA (HA'.out hkx);clear hkx;go_wp2_with fail
    (refine aG (by kernel_rfl) (by kernel_rfl) ?_;(repeat (go_big_quiet_step ((go_at_call 122;exact Calls.gr_of (HK.out _ _ (HPv.out _ (hwr.trans (GrW.gr _))))))));refine wpQuiet_nil ?_;intro wz hz;obtain⟨iz,hz⟩:=hz;obtain⟨wn,gn⟩:=iz;dsimp only at hz;obtain rfl:=hz.symm)
    go_wp2
    go_roundw
    case rel=>exact⟨i+1,by go_num,by omega,g.trans gn,HG.out⟩
    case measure=>simp[intOf];omega
   ·have t2:=jW hkx;have HR:=aA (HNO.out hkx);clear hkx;go_wp2_with fail
    (refine aG (by kernel_rfl) (by kernel_rfl) ?_;(repeat (go_big_quiet_step ((go_at_call 122;exact Calls.gr_of (HK.out _ _ (HPv.out _ (hwr.trans (GrW.gr _))))))));refine wpQuiet_nil ?_;intro wz hz;obtain⟨iz,hz⟩:=hz;obtain⟨wn,gn⟩:=iz;dsimp only at hz;obtain rfl:=hz.symm)
    go_wp2
    go_ret2
    exact tE.no HR.out (hwr.trans gn)
  ·have HY:=aA (Bv (P:=P) h0' fun j hj=>HA.out j hj (by omega));clear HA;by_cases hone:L.length=1
   ·have t2:((L.length:Int)==1)=true:=by simp[hone]
    have HR:Hid (gT P L=true):=by unfold Hid;rw[HY.out];exact K2 hone
    have HE:=aA (Kw (P:=P) hone);clear hone;go_wp2
    go_ret2
    refine tE.yes HR.out ?_ (hwr.alloc _);rw[HE.out];exact(cD.one (x:=0)).vals (by unfold maxLen;simp)
   have t2:((L.length:Int)==1)=false:=dN (by omega);have h2:2≤L.length:=by omega
   clear hone;have HRW:=aA (A6 (P:=P) h2);have HEL:=aA (Le (P:=P) h2);have HOO:=aA (rH P (L[0]'(by omega)) (L[1]'(by omega)));obtain⟨b,o,hsome,zs,y0⟩:=dA (HU.out.gr hwr) 0 (by omega);obtain⟨b',o',hsome',zs',y1⟩:=dA (HU.out.gr hwr) 1 (by omega);subst hsome;simp only[Option.some.injEq,Addr.mk.injEq,and_true] at hsome';obtain⟨rfl,rfl⟩:=hsome';obtain⟨A0,hA0⟩:∃A0,A0=L[0]'(by omega):=⟨_,rfl⟩;obtain⟨A1,hA1⟩:∃A1,A1=L[1]'(by omega):=⟨_,rfl⟩;rw[←hA0] at HRW HEL HOO y0;rw[←hA1] at HRW HEL HOO y1;have HA0:=aA hA0;have HA1:=aA hA1;clear hA0 hA1;go_wp2_with fail
   have HB2:=aA hB;have Y0:=aA y0;have Y1:=aA y1;clear hB y0 y1;obtain⟨wc,hwc⟩:∃wc,wc=wr:=⟨_,rfl⟩;subst hwc;have hwc:Gr w wc:=hwr;clear hwr g;go_loopw [7,8,9,10] (fun x y _ _ wr=>∃(O:Int) (k:Nat),x= .int .i64 O∧y= .int .i64 ((k:Int)-1)∧k≤2∧Gr wc wr∧Hid (oZ P A0 A1 k O)) (fun _ y _ _ _=>(intOf y+1).toNat)
   case atStart=>exact⟨-1,2,rfl,rfl,by omega,Gr.refl _,.inl ⟨rfl,rfl⟩⟩
   case round=>
    obtain⟨O,k,rfl,rfl,hk,g,HO⟩:=hrel;have hB:=HB2.out.gr g;have hwr:Gr w wr:=hwc.trans g;obtain⟨zb,b0,b1,b2,b3,b4,b5,b6,b7,b8⟩:=hB;have zs2:=Nat.lt_of_lt_of_le zs g.size;have y0:=(g.cell _ _ zs).trans Y0.out;have y1:=(g.cell _ _ zs).trans Y1.out;by_cases hk0:0<k
    ·have HS:Hid (∀w',Gr wr w'→(w'.cell? ⟨w.heap.size,0,none⟩=some (.slice a1 P.es.length c1)∧w'.cell? ⟨w.heap.size,1,none⟩=some (.slice a2 P.js.length c2)∧w'.cell? ⟨w.heap.size,2,none⟩=some (.slice a3 P.ss.length c3)∧w'.cell? ⟨w.heap.size,3,none⟩=some (.slice a4 P.ls.length c4)∧w'.cell? ⟨w.heap.size,4,none⟩=some (.int .i64 P.top)∧w'.cell? ⟨w.heap.size,5,none⟩=some (.int .i64 P.brake)∧w'.cell? ⟨w.heap.size,6,none⟩=some (.int .i64 P.margin)∧w'.cell? ⟨w.heap.size,7,none⟩=some (.int .i64 P.throw)∧w'.cell? ⟨w.heap.size,8,none⟩=some (.bool P.hard)∧w'.cell? ⟨b,o,none⟩=some (.int .i64 A0)∧Gr wr w')):=fun w' h=>⟨(h.cell _ _ zb).trans b0,(h.cell _ _ zb).trans b1,(h.cell _ _ zb).trans b2,(h.cell _ _ zb).trans b3,(h.cell _ _ zb).trans b4,(h.cell _ _ zb).trans b5,(h.cell _ _ zb).trans b6,(h.cell _ _ zb).trans b7,(h.cell _ _ zb).trans b8,(h.cell _ _ zs2).trans y0,h⟩;have HSt:Hid (∀wx wy,(wx.cell? ⟨w.heap.size,0,none⟩=some (.slice a1 P.es.length c1)∧wx.cell? ⟨w.heap.size,1,none⟩=some (.slice a2 P.js.length c2)∧wx.cell? ⟨w.heap.size,2,none⟩=some (.slice a3 P.ss.length c3)∧wx.cell? ⟨w.heap.size,3,none⟩=some (.slice a4 P.ls.length c4)∧wx.cell? ⟨w.heap.size,4,none⟩=some (.int .i64 P.top)∧wx.cell? ⟨w.heap.size,5,none⟩=some (.int .i64 P.brake)∧wx.cell? ⟨w.heap.size,6,none⟩=some (.int .i64 P.margin)∧wx.cell? ⟨w.heap.size,7,none⟩=some (.int .i64 P.throw)∧wx.cell? ⟨w.heap.size,8,none⟩=some (.bool P.hard)∧wx.cell? ⟨b,o,none⟩=some (.int .i64 A0)∧Gr wr wx)→Gr wx wy→(wy.cell? ⟨w.heap.size,0,none⟩=some (.slice a1 P.es.length c1)∧wy.cell? ⟨w.heap.size,1,none⟩=some (.slice a2 P.js.length c2)∧wy.cell? ⟨w.heap.size,2,none⟩=some (.slice a3 P.ss.length c3)∧wy.cell? ⟨w.heap.size,3,none⟩=some (.slice a4 P.ls.length c4)∧wy.cell? ⟨w.heap.size,4,none⟩=some (.int .i64 P.top)∧wy.cell? ⟨w.heap.size,5,none⟩=some (.int .i64 P.brake)∧wy.cell? ⟨w.heap.size,6,none⟩=some (.int .i64 P.margin)∧wy.cell? ⟨w.heap.size,7,none⟩=some (.int .i64 P.throw)∧wy.cell? ⟨w.heap.size,8,none⟩=some (.bool P.hard)∧wy.cell? ⟨b,o,none⟩=some (.int .i64 A0)∧Gr wr wy)):=fun wx wy h h2=>HS.out _ (h.2.2.2.2.2.2.2.2.2.2.trans h2);have HSg:Hid (∀wx,(wx.cell? ⟨w.heap.size,0,none⟩=some (.slice a1 P.es.length c1)∧wx.cell? ⟨w.heap.size,1,none⟩=some (.slice a2 P.js.length c2)∧wx.cell? ⟨w.heap.size,2,none⟩=some (.slice a3 P.ss.length c3)∧wx.cell? ⟨w.heap.size,3,none⟩=some (.slice a4 P.ls.length c4)∧wx.cell? ⟨w.heap.size,4,none⟩=some (.int .i64 P.top)∧wx.cell? ⟨w.heap.size,5,none⟩=some (.int .i64 P.brake)∧wx.cell? ⟨w.heap.size,6,none⟩=some (.int .i64 P.margin)∧wx.cell? ⟨w.heap.size,7,none⟩=some (.int .i64 P.throw)∧wx.cell? ⟨w.heap.size,8,none⟩=some (.bool P.hard)∧wx.cell? ⟨b,o,none⟩=some (.int .i64 A0)∧Gr wr wx)→Gr wr wx):=fun wx h=>h.2.2.2.2.2.2.2.2.2.2;have hk1:¬(k:Int)-1<0:=by omega
     have HS1:Hid (∀w',Gr wr w'→w'.cell? ⟨b,o+1,none⟩=some (.int .i64 A1)):=fun w' h=>(h.cell _ _ zs2).trans y1;have hne:b≠wr.heap.size:=by omega
     rcases hnx:aO P.js ⟨A0,(k:Int)-1⟩ with _|⟨ye,yx⟩
     ·have HNX:=aA (fun v w=>jQ hnx v w);have HJN:=aA (qJ (b:=A1) hnx);dsimp only at HNX;clear hnx;go_wp2_with fail
      go_region_held3 (fun w'=>w'.cell? ⟨w.heap.size,0,none⟩=some (.slice a1 P.es.length c1)∧w'.cell? ⟨w.heap.size,1,none⟩=some (.slice a2 P.js.length c2)∧w'.cell? ⟨w.heap.size,2,none⟩=some (.slice a3 P.ss.length c3)∧w'.cell? ⟨w.heap.size,3,none⟩=some (.slice a4 P.ls.length c4)∧w'.cell? ⟨w.heap.size,4,none⟩=some (.int .i64 P.top)∧w'.cell? ⟨w.heap.size,5,none⟩=some (.int .i64 P.brake)∧w'.cell? ⟨w.heap.size,6,none⟩=some (.int .i64 P.margin)∧w'.cell? ⟨w.heap.size,7,none⟩=some (.int .i64 P.throw)∧w'.cell? ⟨w.heap.size,8,none⟩=some (.bool P.hard)∧w'.cell? ⟨b,o,none⟩=some (.int .i64 A0)∧Gr wr w') (first|exact HS.out _ (Gr.refl _).drew|exact HSt.out _ _ (by assumption) h5|exact HSt.out _ _ (by assumption) ((Gr.refl _).alloc _)|exact HS.out _ (((Gr.refl wr).drew.trans h5).alloc _)|exact HS.out _ (Gr.setCell (Gr.setCell (((Gr.refl wr).alloc _).drew.trans h5) (Nat.le_refl _) _) (Nat.le_refl _) _)) (first|(go_at_call 121;(with_reducible refine(HNX.out _ _ (HPv.out _ (hwr.trans ?hzz))).mono ?_);(case hzz=>exact HSg.out _ (by assumption));rintro e w5 ⟨rfl,h5⟩;(first|(obtain⟨k0,k1,f0,f1,z5⟩:=Ap h5;have y5:=HS1.out _ (((Gr.refl wr).alloc _).drew.trans h5);have g5:=((Gr.refl wr).alloc _).drew.trans h5)|(have y5:=HS1.out _ ((Gr.refl wr).drew.trans h5);have g5:=(Gr.refl wr).drew.trans h5))))
      all_goals (first|(have HF:=hU (x:=Value.int .i64 0) (y:=Value.int .i64 0) h5;revert HF;generalize (w5.setCell ⟨wr.heap.size,0,none⟩ (Value.int .i64 0)).setCell ⟨wr.heap.size,1,none⟩ (Value.int .i64 0)=wz;generalize wr.heap.size=gz;intro HF)|(have HF:=eO (t:=63) (x:=Value.int .i64 0) (y:=Value.int .i64 0) g5;revert HF;generalize w5.alloc (.cells #[Value.int .i64 0,Value.int .i64 0] 63)=wz;generalize w5.heap.size=gz;intro HF));obtain⟨gn,gl,gs,q0,q1⟩:=HF
      all_goals have HO2:=aA (HO.out.no hk0 HJN.out)
      all_goals have hkk:((k-1:Nat):Int)-1=(k:Int)-1-1:=by omega
      all_goals have HKK:=aA hkk
      all_goals clear hkk
      all_goals go_wp2_with fail
      all_goals go_quiet (fail)
      all_goals go_wp2
      all_goals go_roundw
      all_goals try (case rel=>exact⟨O,k-1,rfl,by rw[HKK.out],by omega,(g.trans gn).drewN _,HO2.out⟩)
      all_goals try (case measure=>simp[intOf];omega)
     ·have HNX:=aA (fun v w=>jK hnx v w);have HJN:=aA (qM (b:=A1) hnx);dsimp only at HNX HJN;clear hnx;go_wp2_with fail
      go_region_held3 (fun w'=>w'.cell? ⟨w.heap.size,0,none⟩=some (.slice a1 P.es.length c1)∧w'.cell? ⟨w.heap.size,1,none⟩=some (.slice a2 P.js.length c2)∧w'.cell? ⟨w.heap.size,2,none⟩=some (.slice a3 P.ss.length c3)∧w'.cell? ⟨w.heap.size,3,none⟩=some (.slice a4 P.ls.length c4)∧w'.cell? ⟨w.heap.size,4,none⟩=some (.int .i64 P.top)∧w'.cell? ⟨w.heap.size,5,none⟩=some (.int .i64 P.brake)∧w'.cell? ⟨w.heap.size,6,none⟩=some (.int .i64 P.margin)∧w'.cell? ⟨w.heap.size,7,none⟩=some (.int .i64 P.throw)∧w'.cell? ⟨w.heap.size,8,none⟩=some (.bool P.hard)∧w'.cell? ⟨b,o,none⟩=some (.int .i64 A0)∧Gr wr w') (first|exact HS.out _ (Gr.refl _).drew|exact HSt.out _ _ (by assumption) h5|exact HSt.out _ _ (by assumption) ((Gr.refl _).alloc _)|exact HS.out _ (((Gr.refl wr).drew.trans h5).alloc _)|exact HS.out _ (Gr.setCell (Gr.setCell (((Gr.refl wr).alloc _).drew.trans h5) (Nat.le_refl _) _) (Nat.le_refl _) _)) (first|(go_at_call 121;(with_reducible refine(HNX.out _ _ (HPv.out _ (hwr.trans ?hzz))).mono ?_);(case hzz=>exact HSg.out _ (by assumption));rintro e w5 ⟨rfl,h5⟩;(first|(obtain⟨k0,k1,f0,f1,z5⟩:=Ap h5;have y5:=HS1.out _ (((Gr.refl wr).alloc _).drew.trans h5);have g5:=((Gr.refl wr).alloc _).drew.trans h5)|(have y5:=HS1.out _ ((Gr.refl wr).drew.trans h5);have g5:=(Gr.refl wr).drew.trans h5))))
      all_goals (first|(have HF:=hU (x:=Value.int .i64 ye) (y:=Value.int .i64 yx) h5;revert HF;generalize (w5.setCell ⟨wr.heap.size,0,none⟩ (Value.int .i64 ye)).setCell ⟨wr.heap.size,1,none⟩ (Value.int .i64 yx)=wz;generalize wr.heap.size=gz;intro HF)|(have HF:=eO (t:=63) (x:=Value.int .i64 ye) (y:=Value.int .i64 yx) g5;revert HF;generalize w5.alloc (.cells #[Value.int .i64 ye,Value.int .i64 yx] 63)=wz;generalize w5.heap.size=gz;intro HF));obtain⟨gn,gl,gs,q0,q1⟩:=HF
      all_goals have hkk:((k-1:Nat):Int)-1=(k:Int)-1-1:=by omega
      all_goals have HKK:=aA hkk
      all_goals clear hkk
      all_goals have y1z:=HS1.out _ gn
      all_goals (by_cases hye:ye=A1)
      all_goals first|(have t5:=fP hye;have HO2:=aA (HO.out.yes hk0 (by rw[HJN.out];exact decide_eq_true hye));clear hye;go_wp2_with fail;go_quiet (fail);go_wp2;go_roundw;(case rel=>exact⟨(k:Int)-1,k-1,rfl,by rw[HKK.out],by omega,(g.trans gn).drewN _,HO2.out⟩);(case measure=>simp[intOf];omega))|(have t5:=dN hye;have HO2:=aA (HO.out.no hk0 (by rw[HJN.out];exact decide_eq_false hye));clear hye;go_wp2_with fail;go_quiet (fail);go_wp2;go_roundw;(case rel=>exact⟨O,k-1,rfl,by rw[HKK.out],by omega,(g.trans gn).drewN _,HO2.out⟩);(case measure=>simp[intOf];omega))
    ·have hO:=HO.out.done hk0;have hob:=Br P A0 A1;clear HO HOO;generalize kO P A0 A1=OO at *;subst hO;by_cases hneg:O<0
     ·have HR:Hid (gT P L=false):=by unfold Hid;rw[HY.out,HRW.out];simp[hneg]
      go_wp2
      go_ret2
      exact tE.no HR.out hwr
     have HR0:Hid (gT P L=dH P L O):=by unfold Hid;rw[HY.out,HRW.out];simp[hneg]
     obtain⟨hob1,hob2⟩:=hob;clear HRW HY;go_wp2_with fail
     clear b0 b1 b2 b3 b4 b5 b6 b7 b8 y0 y1 Y0 Y1 zs2 zb;have HB3:=aA (HB2.out.gr g);obtain⟨wd,hwd⟩:∃wd,wd=wr:=⟨_,rfl⟩;subst hwd;have hwd:Gr w wd:=hwr;clear HB2 hwr g hk0 hk;obtain⟨i0,hi0,hz0,hz1,hz2⟩:=info_parts Tryz.infoI;go_loopw [7,11,12,13,14] (fun x v y _ _ wr=>∃(Q:Int) (V:Value) (j:Nat) (E:List Int),x= .int .i64 Q∧V=v∧y= .int .i64 ((j:Int)+1)∧j+1≤L.length∧-2≤Q∧Q≤1∧E.length≤j+1∧cD wd.heap.size wr V E∧Gr wd wr∧Hid (dH P (L.drop j) Q=dH P L O∧(dH P L O=true→E++wV P (L.drop j) Q=Ev P L))) (fun _ _ y _ _ _=>L.length-(intOf y).toNat)
     case atStart=>exact⟨O,_,0,[1-O],rfl,rfl,rfl,by omega,by omega,by omega,by simp,cD.one,(Gr.refl _).alloc _,⟨rfl,fun _=>HEL.out.symm⟩⟩
     case round=>
      obtain⟨Q,V,j,E,rfl,rfl,rfl,hj1,hq1,hq2,hE,ho,g,HC⟩:=hrel;have hB:=HB3.out.gr g;have hwr:Gr w wr:=hwd.trans g;obtain⟨zb,b0,b1,b2,b3,b4,b5,b6,b7,b8⟩:=hB;by_cases hjl:j+1<L.length
      ·obtain⟨b',o',hsome',zs',y0⟩:=dA (HU.out.gr hwr) j (by omega);simp only[Option.some.injEq,Addr.mk.injEq,and_true] at hsome';obtain⟨rfl,rfl⟩:=hsome';obtain⟨b',o',hsome',zs2,y1⟩:=dA (HU.out.gr hwr) (j+1) hjl;simp only[Option.some.injEq,Addr.mk.injEq,and_true] at hsome';obtain⟨rfl,rfl⟩:=hsome';have HCD:=aA (fun q=>wG (P:=P) hjl q);have HED:=aA (fun q=>Hm (P:=P) hjl q);have HO:Hid (wr.ownsRow wd.heap.size 3 1 V E.length (E.map (Value.int .i64))):=ho;clear ho;obtain⟨X,hX⟩:∃X,X=L[j]'(by omega):=⟨_,rfl⟩;obtain⟨Y,hY⟩:∃Y,Y=L[j+1]:=⟨_,rfl⟩;rw[←hX] at y0 HCD HED;rw[←hY] at y1 HCD;clear hX hY;have j0:(0:Int)≤(j:Int):=by omega
       have j1:(j:Int)<(L.length:Int):=by omega
       have j2:(j:Int)+1<(L.length:Int):=by omega
       have tj:IntKind.i64.wrap (j:Int)=j:=IntWalk.i64_in _ (by omega);have tj2:IntKind.i64.wrap ((j:Int)+1-1)=j:=by rw[show(j:Int)+1-1=j from by omega];exact tj
       have HS:Hid (∀w',Gr wr w'→(w'.cell? ⟨w.heap.size,0,none⟩=some (.slice a1 P.es.length c1)∧w'.cell? ⟨w.heap.size,1,none⟩=some (.slice a2 P.js.length c2)∧w'.cell? ⟨w.heap.size,2,none⟩=some (.slice a3 P.ss.length c3)∧w'.cell? ⟨w.heap.size,3,none⟩=some (.slice a4 P.ls.length c4)∧w'.cell? ⟨w.heap.size,4,none⟩=some (.int .i64 P.top)∧w'.cell? ⟨w.heap.size,5,none⟩=some (.int .i64 P.brake)∧w'.cell? ⟨w.heap.size,6,none⟩=some (.int .i64 P.margin)∧w'.cell? ⟨w.heap.size,7,none⟩=some (.int .i64 P.throw)∧w'.cell? ⟨w.heap.size,8,none⟩=some (.bool P.hard)∧w'.cell? ⟨b,o+j,none⟩=some (.int .i64 X)∧Gr wr w')):=fun w' h=>⟨(h.cell _ _ zb).trans b0,(h.cell _ _ zb).trans b1,(h.cell _ _ zb).trans b2,(h.cell _ _ zb).trans b3,(h.cell _ _ zb).trans b4,(h.cell _ _ zb).trans b5,(h.cell _ _ zb).trans b6,(h.cell _ _ zb).trans b7,(h.cell _ _ zb).trans b8,(h.cell _ _ zs2).trans y0,h⟩;have HSt:Hid (∀wx wy,(wx.cell? ⟨w.heap.size,0,none⟩=some (.slice a1 P.es.length c1)∧wx.cell? ⟨w.heap.size,1,none⟩=some (.slice a2 P.js.length c2)∧wx.cell? ⟨w.heap.size,2,none⟩=some (.slice a3 P.ss.length c3)∧wx.cell? ⟨w.heap.size,3,none⟩=some (.slice a4 P.ls.length c4)∧wx.cell? ⟨w.heap.size,4,none⟩=some (.int .i64 P.top)∧wx.cell? ⟨w.heap.size,5,none⟩=some (.int .i64 P.brake)∧wx.cell? ⟨w.heap.size,6,none⟩=some (.int .i64 P.margin)∧wx.cell? ⟨w.heap.size,7,none⟩=some (.int .i64 P.throw)∧wx.cell? ⟨w.heap.size,8,none⟩=some (.bool P.hard)∧wx.cell? ⟨b,o+j,none⟩=some (.int .i64 X)∧Gr wr wx)→Gr wx wy→(wy.cell? ⟨w.heap.size,0,none⟩=some (.slice a1 P.es.length c1)∧wy.cell? ⟨w.heap.size,1,none⟩=some (.slice a2 P.js.length c2)∧wy.cell? ⟨w.heap.size,2,none⟩=some (.slice a3 P.ss.length c3)∧wy.cell? ⟨w.heap.size,3,none⟩=some (.slice a4 P.ls.length c4)∧wy.cell? ⟨w.heap.size,4,none⟩=some (.int .i64 P.top)∧wy.cell? ⟨w.heap.size,5,none⟩=some (.int .i64 P.brake)∧wy.cell? ⟨w.heap.size,6,none⟩=some (.int .i64 P.margin)∧wy.cell? ⟨w.heap.size,7,none⟩=some (.int .i64 P.throw)∧wy.cell? ⟨w.heap.size,8,none⟩=some (.bool P.hard)∧wy.cell? ⟨b,o+j,none⟩=some (.int .i64 X)∧Gr wr wy)):=fun wx wy h h2=>HS.out _ (h.2.2.2.2.2.2.2.2.2.2.trans h2);have HSg:Hid (∀wx,(wx.cell? ⟨w.heap.size,0,none⟩=some (.slice a1 P.es.length c1)∧wx.cell? ⟨w.heap.size,1,none⟩=some (.slice a2 P.js.length c2)∧wx.cell? ⟨w.heap.size,2,none⟩=some (.slice a3 P.ss.length c3)∧wx.cell? ⟨w.heap.size,3,none⟩=some (.slice a4 P.ls.length c4)∧wx.cell? ⟨w.heap.size,4,none⟩=some (.int .i64 P.top)∧wx.cell? ⟨w.heap.size,5,none⟩=some (.int .i64 P.brake)∧wx.cell? ⟨w.heap.size,6,none⟩=some (.int .i64 P.margin)∧wx.cell? ⟨w.heap.size,7,none⟩=some (.int .i64 P.throw)∧wx.cell? ⟨w.heap.size,8,none⟩=some (.bool P.hard)∧wx.cell? ⟨b,o+j,none⟩=some (.int .i64 X)∧Gr wr wx)→Gr wr wx):=fun wx h=>h.2.2.2.2.2.2.2.2.2.2;have HS1:Hid (∀w',Gr wr w'→w'.cell? ⟨b,o+(j+1),none⟩=some (.int .i64 Y)):=fun w' h=>(h.cell _ _ zs2).trans y1;rcases hnx:aO P.js ⟨X,Q⟩ with _|⟨ye,yx⟩
       ·have HNX:=aA (fun v w=>jQ hnx v w);have HR:Hid (gT P L=false):=by unfold Hid;rw[HR0.out,←HC.out.1,HCD.out,hnx]
        dsimp only at HNX;clear hnx;go_wp2_with fail
        go_region_held3 (fun w'=>w'.cell? ⟨w.heap.size,0,none⟩=some (.slice a1 P.es.length c1)∧w'.cell? ⟨w.heap.size,1,none⟩=some (.slice a2 P.js.length c2)∧w'.cell? ⟨w.heap.size,2,none⟩=some (.slice a3 P.ss.length c3)∧w'.cell? ⟨w.heap.size,3,none⟩=some (.slice a4 P.ls.length c4)∧w'.cell? ⟨w.heap.size,4,none⟩=some (.int .i64 P.top)∧w'.cell? ⟨w.heap.size,5,none⟩=some (.int .i64 P.brake)∧w'.cell? ⟨w.heap.size,6,none⟩=some (.int .i64 P.margin)∧w'.cell? ⟨w.heap.size,7,none⟩=some (.int .i64 P.throw)∧w'.cell? ⟨w.heap.size,8,none⟩=some (.bool P.hard)∧w'.cell? ⟨b,o+j,none⟩=some (.int .i64 X)∧Gr wr w') (first|exact HS.out _ (Gr.refl _).drew|exact HSt.out _ _ (by assumption) h5|exact HSt.out _ _ (by assumption) ((Gr.refl _).alloc _)|exact HS.out _ (((Gr.refl wr).drew.trans h5).alloc _)|exact HS.out _ (Gr.setCell (Gr.setCell (((Gr.refl wr).alloc _).drew.trans h5) (Nat.le_refl _) _) (Nat.le_refl _) _)) (first|(go_at_call 121;(with_reducible refine(HNX.out _ _ (HPv.out _ (hwr.trans ?hzz))).mono ?_);(case hzz=>exact HSg.out _ (by assumption));rintro e w5 ⟨rfl,h5⟩;(first|(obtain⟨k0,k1,f0,f1,z5⟩:=Ap h5;have y5:=HS1.out _ (((Gr.refl wr).alloc _).drew.trans h5);have g5:=((Gr.refl wr).alloc _).drew.trans h5)|(have y5:=HS1.out _ ((Gr.refl wr).drew.trans h5);have g5:=(Gr.refl wr).drew.trans h5))))
        all_goals (first|(have HF:=hU (x:=Value.int .i64 0) (y:=Value.int .i64 0) h5;revert HF;generalize (w5.setCell ⟨wr.heap.size,0,none⟩ (Value.int .i64 0)).setCell ⟨wr.heap.size,1,none⟩ (Value.int .i64 0)=wz;generalize wr.heap.size=gz;intro HF)|(have HF:=eO (t:=63) (x:=Value.int .i64 0) (y:=Value.int .i64 0) g5;revert HF;generalize w5.alloc (.cells #[Value.int .i64 0,Value.int .i64 0] 63)=wz;generalize w5.heap.size=gz;intro HF));obtain⟨gn,gl,gs,q0,q1⟩:=HF
        all_goals go_wp2_with fail
        all_goals go_quiet (fail)
        all_goals go_wp2
        all_goals go_ret2
        all_goals exact tE.no HR.out ((hwr.trans gn).drewN _)
       ·have HNX:=aA (fun v w=>jK hnx v w);have HCY:Hid (dH P (L.drop j) Q=(decide (ye=Y)&&dH P (L.drop (j+1)) (1-yx))):=by unfold Hid;rw[HCD.out,hnx]
        have HEY:Hid (wV P (L.drop j) Q=yx::wV P (L.drop (j+1)) (1-yx)):=by unfold Hid;rw[HED.out,hnx]
        have hbd:=HJ.out _ _ hnx;dsimp only at HNX hbd;obtain⟨-,-,bd1,bd2⟩:=hbd;clear hnx HCD HED;by_cases hye:ye=Y
        ·have t5:=iJ hye;have HC2:Hid (dH P (L.drop (j+1)) (1-yx)=dH P L O∧(dH P L O=true→(E++[yx])++wV P (L.drop (j+1)) (1-yx)=Ev P L)):=by
          refine⟨?_,fun h=>?_⟩
          ·rw[←HC.out.1,HCY.out,decide_eq_true hye];rfl
          ·rw[←HC.out.2 h,HEY.out];simp
         clear hye HC HCY HEY;go_wp2_with fail
         go_region_held3 (fun w'=>w'.cell? ⟨w.heap.size,0,none⟩=some (.slice a1 P.es.length c1)∧w'.cell? ⟨w.heap.size,1,none⟩=some (.slice a2 P.js.length c2)∧w'.cell? ⟨w.heap.size,2,none⟩=some (.slice a3 P.ss.length c3)∧w'.cell? ⟨w.heap.size,3,none⟩=some (.slice a4 P.ls.length c4)∧w'.cell? ⟨w.heap.size,4,none⟩=some (.int .i64 P.top)∧w'.cell? ⟨w.heap.size,5,none⟩=some (.int .i64 P.brake)∧w'.cell? ⟨w.heap.size,6,none⟩=some (.int .i64 P.margin)∧w'.cell? ⟨w.heap.size,7,none⟩=some (.int .i64 P.throw)∧w'.cell? ⟨w.heap.size,8,none⟩=some (.bool P.hard)∧w'.cell? ⟨b,o+j,none⟩=some (.int .i64 X)∧Gr wr w') (first|exact HS.out _ (Gr.refl _).drew|exact HSt.out _ _ (by assumption) h5|exact HSt.out _ _ (by assumption) ((Gr.refl _).alloc _)|exact HS.out _ (((Gr.refl wr).drew.trans h5).alloc _)|exact HS.out _ (Gr.setCell (Gr.setCell (((Gr.refl wr).alloc _).drew.trans h5) (Nat.le_refl _) _) (Nat.le_refl _) _)) (first|(go_at_call 121;(with_reducible refine(HNX.out _ _ (HPv.out _ (hwr.trans ?hzz))).mono ?_);(case hzz=>exact HSg.out _ (by assumption));rintro e w5 ⟨rfl,h5⟩;(first|(obtain⟨k0,k1,f0,f1,z5⟩:=Ap h5;have y5:=HS1.out _ (((Gr.refl wr).alloc _).drew.trans h5);have g5:=((Gr.refl wr).alloc _).drew.trans h5)|(have y5:=HS1.out _ ((Gr.refl wr).drew.trans h5);have g5:=(Gr.refl wr).drew.trans h5))))
         all_goals (first|(have HF:=hU (x:=Value.int .i64 ye) (y:=Value.int .i64 yx) h5;revert HF;generalize (w5.setCell ⟨wr.heap.size,0,none⟩ (Value.int .i64 ye)).setCell ⟨wr.heap.size,1,none⟩ (Value.int .i64 yx)=wz;generalize wr.heap.size=gz;intro HF)|(have HF:=eO (t:=63) (x:=Value.int .i64 ye) (y:=Value.int .i64 yx) g5;revert HF;generalize w5.alloc (.cells #[Value.int .i64 ye,Value.int .i64 yx] 63)=wz;generalize w5.heap.size=gz;intro HF));obtain⟨gn,gl,gs,q0,q1⟩:=HF
         all_goals have y1z:=HS1.out _ gn
         all_goals have HOz:=aA (aE HO.out gn)
         all_goals have HLT:=aA (bL HO.out)
         all_goals have gzz:=g.trans gn
         all_goals go_wp2_with fail
         all_goals go_quiet (fail)
         all_goals
          go_wp2_with (first|(at_builtin;refine wpList_append_own _ rfl _ _ 45 rfl wd.heap.size 3 i0 (.int .i64 0) 1 8 Tryz.underlying45 hi0 hz0 hz1 hz2 rfl (by decide) _ _ _ rfl ((aE HOz.out ((Gr.refl _).drewN nq)).alloc _) ⟨wz.heap.size,0,none⟩ 1 1 [.int .i64 yx] rfl rfl ?c1 ?c2 ?c3 ?c4 ?c5 ?_))
          case c1=>exact cell_one_new _ _ _
          case c2=>simp[Value.oneCell']
          case c3=>unfold maxLen;omega
          case c4=>omega
          case c5=>have:=gzz.size;simp;omega
          intro v' w1 hown' hgrow _;have q1':=(hgrow.cell_far ⟨gz,1,none⟩ (by simp;omega) (fun e=>by have:=HLT.out gz e.symm;omega)).trans ((World.cell?_alloc_lt _ _ _ (by simpa using gs)).trans q1);have hg1:Gr wd w1:=Gr.grown ((gzz.drewN nq).alloc _) hgrow HO.out;have ho1:cD wd.heap.size w1 v' (E++[yx]):=cD.snoc hown';clear hown' hgrow;go_wp2
          go_roundw
          case rel=>exact⟨1-yx,_,j+1,E++[yx],rfl,rfl,by go_num,by omega,by omega,by omega,by simp;omega,ho1,hg1,HC2.out⟩
          case measure=>simp[intOf];omega
        ·have t5:=jW hye;have HR:Hid (gT P L=false):=by unfold Hid;rw[HR0.out,←HC.out.1,HCY.out,decide_eq_false hye];rfl
         clear hye HC HCY HEY;go_wp2_with fail
         go_region_held3 (fun w'=>w'.cell? ⟨w.heap.size,0,none⟩=some (.slice a1 P.es.length c1)∧w'.cell? ⟨w.heap.size,1,none⟩=some (.slice a2 P.js.length c2)∧w'.cell? ⟨w.heap.size,2,none⟩=some (.slice a3 P.ss.length c3)∧w'.cell? ⟨w.heap.size,3,none⟩=some (.slice a4 P.ls.length c4)∧w'.cell? ⟨w.heap.size,4,none⟩=some (.int .i64 P.top)∧w'.cell? ⟨w.heap.size,5,none⟩=some (.int .i64 P.brake)∧w'.cell? ⟨w.heap.size,6,none⟩=some (.int .i64 P.margin)∧w'.cell? ⟨w.heap.size,7,none⟩=some (.int .i64 P.throw)∧w'.cell? ⟨w.heap.size,8,none⟩=some (.bool P.hard)∧w'.cell? ⟨b,o+j,none⟩=some (.int .i64 X)∧Gr wr w') (first|exact HS.out _ (Gr.refl _).drew|exact HSt.out _ _ (by assumption) h5|exact HSt.out _ _ (by assumption) ((Gr.refl _).alloc _)|exact HS.out _ (((Gr.refl wr).drew.trans h5).alloc _)|exact HS.out _ (Gr.setCell (Gr.setCell (((Gr.refl wr).alloc _).drew.trans h5) (Nat.le_refl _) _) (Nat.le_refl _) _)) (first|(go_at_call 121;(with_reducible refine(HNX.out _ _ (HPv.out _ (hwr.trans ?hzz))).mono ?_);(case hzz=>exact HSg.out _ (by assumption));rintro e w5 ⟨rfl,h5⟩;(first|(obtain⟨k0,k1,f0,f1,z5⟩:=Ap h5;have y5:=HS1.out _ (((Gr.refl wr).alloc _).drew.trans h5);have g5:=((Gr.refl wr).alloc _).drew.trans h5)|(have y5:=HS1.out _ ((Gr.refl wr).drew.trans h5);have g5:=(Gr.refl wr).drew.trans h5))))
         all_goals (first|(have HF:=hU (x:=Value.int .i64 ye) (y:=Value.int .i64 yx) h5;revert HF;generalize (w5.setCell ⟨wr.heap.size,0,none⟩ (Value.int .i64 ye)).setCell ⟨wr.heap.size,1,none⟩ (Value.int .i64 yx)=wz;generalize wr.heap.size=gz;intro HF)|(have HF:=eO (t:=63) (x:=Value.int .i64 ye) (y:=Value.int .i64 yx) g5;revert HF;generalize w5.alloc (.cells #[Value.int .i64 ye,Value.int .i64 yx] 63)=wz;generalize w5.heap.size=gz;intro HF));obtain⟨gn,gl,gs,q0,q1⟩:=HF
         all_goals have y1z:=HS1.out _ gn
         all_goals go_wp2_with fail
         all_goals go_quiet (fail)
         all_goals go_wp2
         all_goals go_ret2
         all_goals exact tE.no HR.out ((hwr.trans gn).drewN _)
      ·have hce:=xQ (P:=P) (L:=L) (i:=j) (by omega) Q;have HR:Hid (gT P L=true):=by unfold Hid;rw[HR0.out,←HC.out.1];exact hce.1
       have HL:Hid (E=Ev P L):=by
        have:=HC.out.2 (by rw[←HC.out.1];exact hce.1);rw[hce.2,List.append_nil] at this;exact this
       have hv:=ho.vals (by unfold maxLen;omega);clear hce HC ho;go_wp2
       go_ret2
       exact tE.yes HR.out (by rw[←HL.out];exact hv) hwr
end Go.Proofs.YthkbcablnpbmgaaGreatDoor
