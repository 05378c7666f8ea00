/- Helps of the proof of ChartWord. -/
import Derived.Test.YthkbcablnpbmgaaGreatDoorRows
import Derived.Test.YthkbcablnpbmgaaGreatDoorW3
import Derived.Test.YthkbcablnpbmgaaGreatDoorW2
import Derived.Deep.RegionHeld3
import Derived.Deep.AppendLies
set_option linter.unusedVariables false
set_option linter.unusedSimpArgs false
set_option maxHeartbeats 1000000
set_option maxRecDepth 100000
namespace Go.Proofs.YthkbcablnpbmgaaGreatDoor
open Go.ChangeShapes Go.WideShapes Go.ChangeAt Go.RowKit Go.Maps
theorem Dh{P:Pln}{k:Nat}(hk:k<P.js.length):aY (P.js.take k)++[P.js[k].a,P.js[k].b]=aY (P.js.take (k+1)):=by
 rw[mH _ _ hk,kU]
theorem rT:∀(l:List Jn),(aY l).length=2*l.length
 | []=>rfl
 | j::t=>by rw[iP,List.length_cons,List.length_cons,rT t,List.length_cons];omega
theorem Do{l:List Prt}{a b:Prt}:(l++[a,b]).flatMap Prt.cs=l.flatMap Prt.cs++[.int .i64 a.e,.int .i64 a.x,.int .i64 b.e,.int .i64 b.x]:=by
 rw[List.flatMap_append];rfl
theorem D2{P:Pln}{L:List Prt}(hL:aY P.js=L)(i:Nat)(hi:i<L.length)(h:cS P L[i]=false):bI P=false:=by
 subst hL;exact kQ fun ho=>by
  have:=ho.2 _ (List.getElem_mem hi);rw[h] at this;cases this
theorem Cq{P:Pln}{L:List Prt}(hL:aY P.js=L)(i k:Nat)(hi:i<L.length)(hk:k<i)(h:L[k]'(by omega)=L[i]):bI P=false:=by
 subst hL;exact kQ fun ho=>by
  have:=List.pairwise_iff_getElem.1 ho.1 k i (by omega) hi hk;exact this h
theorem Bb{P:Pln}{L:List Prt}(hL:aY P.js=L)(h1:∀i (hi:i<L.length),cS P L[i]=true)(h2:∀i k (hi:i<L.length) (hk:k<i),L[k]'(by omega)≠L[i]):bI P=nW P:=by
 subst hL;exact sV ⟨List.pairwise_iff_getElem.2 fun i j hi hj hij=>h2 j i hj hij,fun x hx=>by
  obtain⟨i,hi,rfl⟩:=List.mem_iff_getElem.1 hx;exact h1 i hi⟩
theorem xA{P:Pln}{k:Nat}(hk:k<P.es.length)(h1:P.es[k].k=4)(h2:dF P ⟨k,0⟩=false):nW P=false:=by
 unfold nW;rw[List.all_eq_false];refine⟨k,by simpa using hk,?_⟩;rw[dZ P k hk,h1,h2];simp
theorem tZ{P:Pln}(h:∀k (hk:k<P.es.length),P.es[k].k=4→dF P ⟨k,0⟩=true):nW P=true:=by
 unfold nW;rw[List.all_eq_true];intro k hk;have hk':k<P.es.length:=by simpa using hk
 rw[dZ P k hk'];by_cases e:P.es[k].k=4
 ·rw[h k hk' e];simp
 ·simp[e]
theorem jL{P:Pln}{x:Prt}(h:aO P.js x=none):dF P x=false:=by unfold dF;rw[h]
theorem jR{P:Pln}{x y:Prt}(h:aO P.js x=some y):dF P x= !decide (aF P y.e=4):=by unfold dF;rw[h]
theorem wR(v:Value)(P:Pln)(w:World)(hP:aI w v P)(hn:P.js.length≤1000):
  Calls Tryz.prog 65 #[v] w fun e w'=>e= .returned (.bool (bI P))∧Gr w w':=by
 obtain⟨a1,c1,a2,c2,a3,c3,a4,c4,rfl,h1,h2,h3,h4⟩:=hP;have m1:=aL.len h1;unfold maxLen at m1;have H1:=aA h1;have H2:=aA h2;have HPv:=aA (fun(w':World) (g:Gr w w')=>aI.mk (w':=w') h1 h2 h3 h4 g);have HB:=aA (dG w P (.slice a1 P.es.length c1) (.slice a2 P.js.length c2) (.slice a3 P.ss.length c3) (.slice a4 P.ls.length c4));have hw0:=dW w P (.slice a1 P.es.length c1) (.slice a2 P.js.length c2) (.slice a3 P.ss.length c3) (.slice a4 P.ls.length c4);obtain⟨wb,hwb⟩:∃wb,wb=bxW w P (.slice a1 P.es.length c1) (.slice a2 P.js.length c2) (.slice a3 P.ss.length c3) (.slice a4 P.ls.length c4):=⟨_,rfl⟩;rw[←hwb] at HB hw0;unfold aX;obtain⟨i0,hi,hz0,hz1,hz2⟩:=info_parts Tryz.infoP;have HWB:=aA hwb;clear h1 h2 h3 h4 hwb;go_enter Tryz.func65,Tryz.ntmps65
 go_wp2_with fail
 rw[show(w.alloc (.cells #[.slice a1 P.es.length c1,.slice a2 P.js.length c2,.slice a3 P.ss.length c3,.slice a4 P.ls.length c4,.int .i64 P.top,.int .i64 P.brake,.int .i64 P.margin,.int .i64 P.throw,.bool P.hard] 27))=wb from HWB.out.symm];clear HWB;go_loopw [3,4] (fun v i wr=>∃(V:Value) (k:Nat),V=v∧i= .int .i64 k∧k≤P.js.length∧wI wb.heap.size wr V (aY (P.js.take k))∧Gr wb wr) (fun _ i _=>P.js.length-(intOf i).toNat)
 case atStart=>exact⟨_,0,rfl,rfl,Nat.zero_le _,wI.nil _ _,Gr.refl _⟩
 case round=>
  obtain⟨v1,k,rfl,rfl,hk,ho,g⟩:=hrel;have hbo:=HB.out.gr g;obtain⟨zb,b0,b1,b2,b3,b4,b5,b6,b7,b8⟩:=hbo;have HO:Hid (wr.ownsRow wb.heap.size 63 2 v1 (aY (P.js.take k)).length ((aY (P.js.take k)).flatMap Prt.cs)):=ho;have hgw:=hw0.trans g;by_cases hlt:k<P.js.length
  ·obtain⟨b,o,hsome,zs,y0,y1,y2,y3⟩:=(H2.out.gr hw0).at k hlt;have hb1:=HB.out.2.2.1;have zb1:=HB.out.1;subst hsome;have HT:=aA (@Dh P k hlt);have hk1:(k:Int)<(P.js.length:Int):=by omega
   have HKL:Hid ((aY (P.js.take k)).length≤2000):=by unfold Hid;rw[rT];simp;omega
   generalize P.js[k]=q at *;obtain⟨⟨ae,ax⟩,⟨be,bx⟩⟩:=q;generalize aY (P.js.take k)=L at *;dsimp only at y0 y1 y2 y3 HT;have HJS:Hid (∀w',Gr wb w'→(w'.cell? ⟨w.heap.size,1,none⟩=some (.slice (some ⟨b,o,none⟩) P.js.length c2)∧w'.cell? ⟨b,o+k*4,none⟩=some (.int .i64 ae)∧w'.cell? ⟨b,o+k*4+1,none⟩=some (.int .i64 ax)∧w'.cell? ⟨b,o+k*4+2,none⟩=some (.int .i64 be)∧w'.cell? ⟨b,o+k*4+2+1,none⟩=some (.int .i64 bx))):=fun w' h=>⟨(h.cell _ _ zb1).trans hb1,(h.cell _ _ zs).trans y0,(h.cell _ _ zs).trans y1,(h.cell _ _ zs).trans y2,(h.cell _ _ zs).trans y3⟩;have HG1:Hid (∀w1,((wr.alloc (.cells #[.int .i64 ae,.int .i64 ax,.int .i64 be,.int .i64 bx] 63)).drew).grownBy w1 v1.ownBlock→Gr wb w1):=fun w1 hgrow=>Gr.grown (g.alloc _).drew hgrow HO.out;go_wp2_with fail
   go_region_held3 (fun w'=>w'.cell? ⟨w.heap.size,1,none⟩=some (.slice (some ⟨b,o,none⟩) P.js.length c2)∧w'.cell? ⟨b,o+k*4,none⟩=some (.int .i64 ae)∧w'.cell? ⟨b,o+k*4+1,none⟩=some (.int .i64 ax)∧w'.cell? ⟨b,o+k*4+2,none⟩=some (.int .i64 be)∧w'.cell? ⟨b,o+k*4+2+1,none⟩=some (.int .i64 bx)) (first|exact HJS.out _ g|exact HJS.out _ g.drew|exact HJS.out _ (g.alloc _).drew|exact HJS.out _ (HG1.out _ hgrow)) ((refine step_append_lies _ (by rfl) _ _ _ (by rfl) wb.heap.size 63 i0 _ 2 16 Tryz.underlying114 hi hz0 hz1 hz2 rfl (by omega) v1 L.length (L.flatMap Prt.cs) (by rfl) ((HO.out.alloc _).drew) ⟨wr.heap.size,0,none⟩ 2 2 [.int .i64 ae,.int .i64 ax,.int .i64 be,.int .i64 bx] (by rfl) (by rfl) (World.news_of_block (cs:=#[.int .i64 ae,.int .i64 ax,.int .i64 be,.int .i64 bx]) (t:=63) (fr:=(0,0)) (heap_alloc_new wr _)) (by simp[Value.oneCell']) (by omega) (by have:=HKL.out;unfold maxLen;omega) (by have:=HKL.out;omega) (by have:=g.size;simp;omega) (wr.heap.size+1) (by simp) ?_;intro gg cap w1 hown1 hgrow hat hlt2))
   have hg1:=HG1.out _ hgrow;have ho1:wI wb.heap.size w1 (.slice (some ⟨gg,0,none⟩) (L.length+2) cap) (aY (P.js.take (k+1))):=by
    rw[←HT.out];unfold wI;rw[Do,List.length_append];exact hown1
   clear hown1 hgrow HO HG1 HJS hat y0 y1 y2 y3 b0 b1 b2 b3 b4 b5 b6 b7 b8 hb1;go_wp2
   go_roundw
   case rel=>exact⟨_,k+1,rfl,by go_num,by omega,ho1,hg1⟩
   case measure=>simp[intOf];omega
  ·have hl:aY (P.js.take k)=aY P.js:=by rw[List.take_of_length_le (by omega)]
   rw[hl] at ho;have hln:(aY P.js).length≤2000:=by rw[rT];omega
   have hv:=ho.prts (by unfold maxLen;omega);clear HO ho hl;obtain⟨L,hL⟩:∃L,aY P.js=L:=⟨_,rfl⟩;rw[hL] at hv hln;have HJA:=aA (D2 hL);have HJT:=aA (Cq hL);have HJY:=aA (Bb hL);clear hL;go_wp2_with fail
   have hv':=hv;obtain⟨av,cv,rfl,-,-⟩:=hv';have HV:=aA hv;have HB1:=aA (HB.out.gr g);clear hv zb b0 b1 b2 b3 b4 b5 b6 b7 b8 hlt hk g;obtain⟨wa,hwa⟩:∃wa,wa=wr:=⟨_,rfl⟩;subst hwa;go_loopg [5,6] L.length (fun gh x5 _ wr=>∃i:Nat,i+gh=L.length∧x5= .int .i64 i∧Hid (∀p q (hp:p<L.length) (hq:q<p),p<i→L[q]'(by omega)≠L[p])∧Hid (∀p (hp:p<L.length),p<i→cS P L[p]=true)∧Gr wa wr)
   case atStart=>exact⟨0,by omega,rfl,fun p q _ _ h=>by omega,fun p _ h=>by omega,Gr.refl _⟩
   case round=>
    obtain⟨i,hig,rfl,HA,HC,g⟩:=hrel;have HIG:=aA hig;clear hig;have hB:=HB1.out.gr g;have hwr:Gr w wr:=hgw.trans g;have hbo:=hB;obtain⟨zb,b0,b1,b2,b3,b4,b5,b6,b7,b8⟩:=hbo;by_cases hlt:i<L.length
    ·have i1:(i:Int)<(L.length:Int):=by omega
     obtain⟨b,o,hsome,zs,y0,y1⟩:=(HV.out.gr g).at i hlt;subst hsome;have HJAi:=aA (HJA.out i hlt);have HC':Hid (cS P L[i]=true→∀p (hp:p<L.length),p<i+1→cS P L[p]=true):=by
      intro h p hp hpi;by_cases e:p=i
      ·subst e;exact h
      ·exact HC.out p hp (by omega)
     have HA':Hid ((∀q (hq:q<i),L[q]'(by omega)≠L[i])→∀p q (hp:p<L.length) (hq:q<p),p<i+1→L[q]'(by omega)≠L[p]):=by
      intro h p q hp hq hpi;by_cases e:p=i
      ·subst e;exact h q hq
      ·exact HA.out p q hp hq (by omega)
     have HJTi:Hid (∀q (hq:q<i),L[q]'(by omega)=L[i]→bI P=false):=fun q hq h=>HJT.out i q hlt hq h;clear HA HC;have hcb:=fun(i:GrW wr) (o:Nat)=>GrW.cell zb i o;have hcp:=fun(i:GrW wr) (o:Nat)=>GrW.cell zs i o;have hld:=fun(i:GrW wr)=>(hB.gr i.gr).load;unfold aX at hld;obtain⟨x,hx⟩:∃x,x=L[i]:=⟨_,rfl⟩;have HX:=aA hx;rw[←hx] at y0 y1 HJAi HC' HA' HJTi;clear hx;obtain⟨xe,xx⟩:=x;dsimp only at y0 y1;have HH:=aA (fun(v':Value) (w':World) (h:aI w' v' P)=>Ad v' P ⟨xe,xx⟩ w' h);unfold Prt.v at HH;generalize hhp:cS P ⟨xe,xx⟩=hp at *;cases hp
     ·have HR:=aA (HJAi.out rfl);go_wp2_with fail
      (refine aG (by kernel_rfl) (by kernel_rfl) ?_;(repeat (go_big_quiet_step ((go_at_call 120;exact Calls.gr_of (HH.out _ _ (HPv.out _ (hwr.trans (GrW.gr _))))))));refine wpQuiet_nil ?_;intro wz hz;obtain⟨iz,hz⟩:=hz;obtain⟨wn,gn⟩:=iz;dsimp only at hz;obtain rfl:=hz.symm)
      go_wp2
      go_ret
      exact⟨aD HR.out.symm,hwr.trans gn⟩
     ·have HC2:=aA (HC'.out rfl);clear HC' HJAi;go_wp2_with fail
      (refine aG (by kernel_rfl) (by kernel_rfl) ?_;(repeat (go_big_quiet_step ((go_at_call 120;exact Calls.gr_of (HH.out _ _ (HPv.out _ (hwr.trans (GrW.gr _))))))));refine wpQuiet_nil ?_;intro wz hz;obtain⟨iz,hz⟩:=hz;obtain⟨wn,gn⟩:=iz;dsimp only at hz;obtain rfl:=hz.symm)
      have hcp2:=fun(o:Nat)=>(gn.cell b o zs);clear hcb hcp hld;go_wp2_with fail
      clear b0 b1 b2 b3 b4 b5 b6 b7 b8 hB;have g2:=g.trans gn;have HY0:=aA ((hcp2 _).trans y0);have HY1:=aA ((hcp2 _).trans y1);have zs2:=Nat.lt_of_lt_of_le zs gn.size;clear hcp2 y0 y1;go_loopg [6] i (fun gq x6 wy=>∃k:Nat,k+gq=i∧x6= .int .i64 k∧Hid (∀q (hq:q<i),q<k→L[q]'(by omega)≠⟨xe,xx⟩)∧Gr wn wy)
      case atStart=>exact⟨0,by omega,rfl,fun q _ h=>by omega,Gr.refl _⟩
      case round=>
       obtain⟨k,hkg,rfl,HQ,g3⟩:=hrel;have HKG:=aA hkg;clear hkg;by_cases hk:k<i
       ·have k1:(k:Int)<(i:Int):=by omega
        obtain⟨b2,o2,e2,z2,c0,c1'⟩:=(HV.out.gr (g2.trans g3)).at k (by omega);simp only[Option.some.injEq,Addr.mk.injEq,and_true] at e2;obtain⟨rfl,rfl⟩:=e2;have y0:=(g3.cell _ _ zs2).trans HY0.out;have y1:=(g3.cell _ _ zs2).trans HY1.out;have HQT:=aA (HJTi.out k hk);have HQ':Hid (L[k]≠⟨xe,xx⟩→∀q (hq:q<i),q<k+1→L[q]'(by omega)≠⟨xe,xx⟩):=by
         intro h q hq hqk;by_cases e:q=k
         ·subst e;exact h
         ·exact HQ.out q hq (by omega)
        clear HQ;obtain⟨y,hy⟩:∃y,y=L[k]:=⟨_,rfl⟩;rw[←hy] at c0 c1' HQT HQ';clear hy;obtain⟨ye,yx⟩:=y;dsimp only at c0 c1';have G1:=lJ .eql;by_cases he:(⟨ye,yx⟩:Prt)=⟨xe,xx⟩
        ·have HR:=aA (HQT.out he);have E1:∀w,(binOp .eql 63 (.agg #[.int .i64 ye,.int .i64 yx]) (.agg #[.int .i64 xe,.int .i64 xx])).run Tryz.prog w= .ok (.bool true) w:=fun w=>by rw[gI,decide_eq_true he]
         clear he;go_wp2_with fail
         go_quiet (fail)
         go_wp2
         go_ret
         exact⟨aD HR.out.symm,(hwr.trans (gn.trans g3)).drewN _⟩
        ·have HR:=aA (HQ'.out he);have E1:∀w,(binOp .eql 63 (.agg #[.int .i64 ye,.int .i64 yx]) (.agg #[.int .i64 xe,.int .i64 xx])).run Tryz.prog w= .ok (.bool false) w:=fun w=>by rw[gI,decide_eq_false he]
         clear he;go_wp2_with fail
         go_quiet (fail)
         go_wp2
         go_roundg (i-(k+1))
         case measure=>have:=HKG.out;omega
         case rel=>exact⟨k+1,by have:=HKG.out;omega,by go_num,HR.out,g3.drewN _⟩
       ·have HA2:=aA (HA'.out fun q hq=>HQ.out q hq (by omega));clear HQ;go_wp2
        go_roundg (L.length-(i+1))
        case measure=>have:=HIG.out;omega
        case rel=>exact⟨i+1,by have:=HIG.out;omega,by go_num,HA2.out,HC2.out,g2.trans g3⟩
    ·have HJ:Hid (bI P=nW P):=HJY.out (fun p hp=>HC.out p hp (by omega)) (fun p q hp hq=>HA.out p q hp hq (by omega));clear HA HC;go_wp2_with fail
     clear b0 b1 b2 b3 b4 b5 b6 b7 b8 zb hB;have HB2:=aA (HB1.out.gr g);clear HB1 hlt;obtain⟨wc,hwc⟩:∃wc,wc=wr:=⟨_,rfl⟩;subst hwc;have hwc:Gr w wc:=hwr;clear hwr g HIG HJA HJT HJY HV hgw;go_loopw [7,8,9] (fun x _ _ wr=>∃k:Nat,x= .int .i64 k∧k≤P.es.length∧Gr wc wr∧Hid (∀j (hj:j<P.es.length),j<k→P.es[j].k=4→dF P ⟨j,0⟩=true)) (fun x _ _ _=>P.es.length-(intOf x).toNat)
     case atStart=>exact⟨0,rfl,Nat.zero_le _,Gr.refl _,fun j _ h=>by omega⟩
     case round=>
      obtain⟨k,rfl,hk,g,HA⟩:=hrel;have hB:=HB2.out.gr g;have hwr:Gr w wr:=hwc.trans g;obtain⟨zb,b0,b1,b2,b3,b4,b5,b6,b7,b8⟩:=hB;by_cases hlt:k<P.es.length
      ·obtain⟨b,o,hsome,zs,-,y1,-⟩:=(H1.out.gr hwr).at k hlt;subst hsome;have hk1:(k:Int)<(P.es.length:Int):=by omega
       have HNO:=aA (@xA P k hlt);have HA':Hid ((P.es[k].k=4→dF P ⟨k,0⟩=true)→∀j (hj:j<P.es.length),j<k+1→P.es[j].k=4→dF P ⟨j,0⟩=true):=by
        intro h j hj hjk;by_cases e:j=k
        ·subst e;exact h
        ·exact HA.out j hj (by omega)
       clear HA;generalize P.es[k].k=qk at *;by_cases hqk:qk=4
       ·have t1:(qk==4)=true:=by simpa using hqk
        rcases hnx:aO P.js ⟨(k:Int),0⟩ with _|⟨ye,yx⟩
        ·have HR:Hid (bI P=false):=by unfold Hid;rw[HJ.out];exact HNO.out hqk (jL hnx)
         have HNX:=aA (fun v w=>jQ hnx v w);clear hqk hnx HNO HA';go_wp2_with (go_at_call 121;refine(HNX.out _ _ (HPv.out _ hwr)).mono ?_;rintro e w5 ⟨rfl,h5⟩)
         go_ret
         exact⟨aD HR.out.symm,(hwr.trans h5).alloc _⟩
        ·have HNX:=aA (fun v w=>jK hnx v w);have HOG:=aA (jR hnx);have HKD:=aA (fun(v':Value) (w':World) (h:aI w' v' P)=>iX v' P ye w' h);dsimp only at HNX HOG;generalize aF P ye=kk at *;clear hnx;by_cases hkk:kk=4
         ·have HR:Hid (bI P=false):=by unfold Hid;rw[HJ.out];exact HNO.out hqk (by rw[HOG.out,hkk];rfl)
          have t2:(kk==4)=true:=by simpa using hkk
          clear hqk HNO HA' hkk;go_wp2_with (first|(go_at_call 121;refine(HNX.out _ _ (HPv.out _ hwr)).mono ?_;rintro e w5 ⟨rfl,h5⟩;obtain⟨zb5,d0,d1,d2,d3,d4,d5,d6,d7,d8⟩:=HB2.out.gr (g.trans h5))|(go_at_call 122;refine(HKD.out _ _ (HPv.out _ ((hwr.trans h5).alloc _))).mono ?_;rintro e w6 ⟨rfl,h6⟩))
          go_ret
          exact⟨aD HR.out.symm,((hwr.trans h5).alloc _).trans h6⟩
         ·have HA2:=aA (HA'.out fun _=>by rw[HOG.out];simp[hkk]);have t2:(kk==4)=false:=by simpa using hkk
          clear hqk HNO HA' hkk;go_wp2_with (first|(go_at_call 121;refine(HNX.out _ _ (HPv.out _ hwr)).mono ?_;rintro e w5 ⟨rfl,h5⟩;obtain⟨zb5,d0,d1,d2,d3,d4,d5,d6,d7,d8⟩:=HB2.out.gr (g.trans h5))|(go_at_call 122;refine(HKD.out _ _ (HPv.out _ ((hwr.trans h5).alloc _))).mono ?_;rintro e w6 ⟨rfl,h6⟩))
          go_roundw
          case rel=>exact⟨k+1,by go_num,by omega,((g.trans h5).alloc _).trans h6,HA2.out⟩
          case measure=>simp[intOf];omega
       ·have t1:(qk==4)=false:=by simpa using hqk
        have HA2:=aA (HA'.out fun h=>absurd h hqk);clear HA' hqk HNO;go_wp2
        go_roundw
        case rel=>exact⟨k+1,by go_num,by omega,g,HA2.out⟩
        case measure=>simp[intOf];omega
      ·have HR:Hid (bI P=true):=by unfold Hid;rw[HJ.out];exact tZ fun j hj h=>HA.out j hj (by omega) h
       clear HA;go_wp2
       go_ret
       exact⟨aD HR.out.symm,hwr⟩
theorem Gl(l:List Sg)(x:Prt)(k:Nat):decide (bH l x=some k)=decide (aT l x=k):=by
 unfold aT;cases bH l x with
 | none=>simp
 | some j=>simp;omega
theorem zD(P:Pln)(k:Nat)(hk:k<P.ss.length):mI P k=(cS P P.ss[k].at_&&(decide (aF P P.ss[k].at_.e=1)||decide (aF P P.ss[k].at_.e=4))&&dF P P.ss[k].at_&&decide (aT P.ss P.ss[k].at_=k)):=by
 unfold mI;rw[aP _ _ hk];simp only[Gl]
theorem nG{P:Pln}{k:Nat}(hk:k<P.ss.length)(h:mI P k=false):cG P=false:=by
 unfold cG;have:(List.range P.ss.length).all (mI P)=false:=by
  rw[List.all_eq_false];exact⟨k,by simpa using hk,by simp[h]⟩
 rw[this];rfl
theorem oX{P:Pln}{k:Nat}(hk:k<P.es.length)(h1:P.es[k].k=4)(h:aT P.ss ⟨k,0⟩<0):cG P=false:=by
 unfold cG;have:((List.range P.es.length).all fun i=>!decide (aF P i=4)||(bH P.ss ⟨i,0⟩).isSome)=false:=by
  rw[List.all_eq_false];refine⟨k,by simpa using hk,?_⟩;rw[dZ P k hk,h1];unfold aT at h;cases hr:bH P.ss ⟨k,0⟩ with
  | none=>simp
  | some j=>rw[hr] at h;simp at h;omega
 rw[this];simp
theorem qV{P:Pln}(h1:∀k (hk:k<P.ss.length),mI P k=true)(h2:∀k (hk:k<P.es.length),P.es[k].k=4→0≤aT P.ss ⟨k,0⟩):cG P=true:=by
 unfold cG;have a:(List.range P.ss.length).all (mI P)=true:=by
  rw[List.all_eq_true];intro k hk;exact h1 k (by simpa using hk)
 have b:((List.range P.es.length).all fun i=>!decide (aF P i=4)||(bH P.ss ⟨i,0⟩).isSome)=true:=by
  rw[List.all_eq_true];intro k hk;have hk':k<P.es.length:=by simpa using hk
  rw[dZ P k hk'];by_cases e:P.es[k].k=4
  ·have:=h2 k hk' e;unfold aT at this;cases hr:bH P.ss ⟨k,0⟩ with
   | none=>rw[hr] at this;simp at this
   | some j=>simp
  ·simp[e]
 rw[a,b];rfl
theorem vF(v:Value)(P:Pln)(w:World)(hP:aI w v P)(hn:P.ss.length≤1000):
  Calls Tryz.prog 66 #[v] w fun e w'=>e= .returned (.bool (cG P))∧Gr w w':=by
 obtain⟨a1,c1,a2,c2,a3,c3,a4,c4,rfl,h1,h2,h3,h4⟩:=hP;have m1:=aL.len h1;unfold maxLen at m1;have H1:=aA h1;have H3:=aA h3;have HPv:=aA (fun(w':World) (g:Gr w w')=>aI.mk (w':=w') h1 h2 h3 h4 g);have HB:=aA (dG w P (.slice a1 P.es.length c1) (.slice a2 P.js.length c2) (.slice a3 P.ss.length c3) (.slice a4 P.ls.length c4));have hw0:=dW w P (.slice a1 P.es.length c1) (.slice a2 P.js.length c2) (.slice a3 P.ss.length c3) (.slice a4 P.ls.length c4);obtain⟨wb,hwb⟩:∃wb,wb=bxW w P (.slice a1 P.es.length c1) (.slice a2 P.js.length c2) (.slice a3 P.ss.length c3) (.slice a4 P.ls.length c4):=⟨_,rfl⟩;rw[←hwb] at HB hw0;unfold aX;have HWB:=aA hwb;clear h1 h2 h3 h4 hwb;go_enter Tryz.func66,Tryz.ntmps66
 go_wp2_with fail
 rw[show(w.alloc (.cells #[.slice a1 P.es.length c1,.slice a2 P.js.length c2,.slice a3 P.ss.length c3,.slice a4 P.ls.length c4,.int .i64 P.top,.int .i64 P.brake,.int .i64 P.margin,.int .i64 P.throw,.bool P.hard] 27))=wb from HWB.out.symm];clear HWB;go_loopw [3,4,5,6,7] (fun x _ _ _ _ wr=>∃k:Nat,x= .int .i64 k∧k≤P.ss.length∧Gr wb wr∧Hid (∀j (hj:j<P.ss.length),j<k→mI P j=true)) (fun x _ _ _ _ _=>P.ss.length-(intOf x).toNat)
 case atStart=>exact⟨0,rfl,Nat.zero_le _,Gr.refl _,fun j _ h=>by omega⟩
 case round=>
  obtain⟨k,rfl,hk,g,HA⟩:=hrel;have hB:=HB.out.gr g;have hwr:Gr w wr:=hw0.trans g;by_cases hlt:k<P.ss.length
  ·obtain⟨b,o,hsome,zs,-,y1,y2,-⟩:=(H3.out.gr hwr).at k hlt;have HX0:=aA (fun wx (h:Gr wr wx)=>hB.gr h);subst hsome;have hk1:(k:Int)<(P.ss.length:Int):=by omega
   have HSB:=aA (zD P k hlt);have HNO:=aA (@nG P k hlt);have HA':Hid (mI P k=true→∀j (hj:j<P.ss.length),j<k+1→mI P j=true):=by
    intro h j hj hjk;by_cases e:j=k
    ·subst e;exact h
    ·exact HA.out j hj (by omega)
   clear HA;generalize P.ss[k].at_=q at *;obtain⟨qe,qx⟩:=q;dsimp only at y1 y2;obtain⟨zb,b0,b1,b2,b3,b4,b5,b6,b7,b8⟩:=hB;have hwp:Gr w (wr.alloc (.cells #[.int .i64 qe,.int .i64 qx] 63)):=hwr.alloc _;have hz:Gr (wr.alloc (.cells #[.int .i64 qe,.int .i64 qx] 63)) (wr.alloc (.cells #[.int .i64 qe,.int .i64 qx] 63)):=Gr.refl _;have HX:Hid (∀wx,Gr (wr.alloc (.cells #[.int .i64 qe,.int .i64 qx] 63)) wx→bZ wx w.heap.size P _ _ _ _∧wx.cell? ⟨wr.heap.size,0,none⟩=some (.int .i64 qe)∧wx.cell? ⟨wr.heap.size,1,none⟩=some (.int .i64 qx)∧wr.heap.size<wx.heap.size):=fun wx h=>
    ⟨HX0.out wx (((Gr.refl wr).alloc _).trans h),(h.cell _ _ (by simp)).trans (by rw[World.cell?_alloc_mark];rfl),(h.cell _ _ (by simp)).trans (by rw[World.cell?_alloc_mark];rfl),Nat.lt_of_lt_of_le (by simp) h.size⟩
   have HH:=aA (fun(v':Value) (w':World) (h:aI w' v' P)=>Ad v' P ⟨qe,qx⟩ w' h);have HK:=aA (fun(v':Value) (w':World) (h:aI w' v' P)=>iX v' P qe w' h);have HRD:=aA (fun(v':Value) (w':World) (h:aI w' v' P)=>jJ v' P ⟨qe,qx⟩ w' h);have HON:=aA (@jL P ⟨qe,qx⟩);have HOS:=aA (fun y=>@jR P ⟨qe,qx⟩ y);unfold Prt.v at HH HRD;dsimp only at HH HRD HSB;generalize cS P ⟨qe,qx⟩=hh at *;generalize dF P ⟨qe,qx⟩=og at *;generalize aT P.ss ⟨qe,qx⟩=rd at *;generalize hkq:aF P qe=kk at *;clear hkq;cases hh
   have HR:=aA (HNO.out (by rw[HSB.out];rfl));rotate_left
   rcases (show(kk≠1∧kk≠4)∨kk=1∨kk=4 from by omega) with⟨n1,n4⟩|hk14;have HR:=aA (HNO.out (by rw[HSB.out];simp[n1,n4]));have t1:=jW n1;have t2:=jW n4;clear n1 n4;rotate_left
   have hk2:(kk=1∧(kk !=1)=false)∨(kk=4∧(kk !=1)=true∧(kk !=4)=false):=by
    rcases hk14 with e|e
    ·left;exact⟨e,iJ e⟩
    ·right;exact⟨e,jW (by omega),iJ e⟩
   have HS2:Hid (mI P k=(og&&decide (rd=k))):=by
    unfold Hid;rw[HSB.out];rcases hk14 with e|e<;>simp[e]
   clear HSB hk14;rcases hnx:aO P.js ⟨qe,qx⟩ with _|⟨ye,yx⟩;have HR:=aA (HNO.out (by rw[HS2.out,HON.out hnx];rfl));have HNX:=aA (fun v w=>jQ hnx v w);clear hnx;rcases hk2 with⟨-,t1⟩|⟨-,t1,t2⟩;rotate_left 2
   have HNX:=aA (fun v w=>jK hnx v w);have HOG:=aA (HOS.out _ hnx);have HKY:=aA (fun(v':Value) (w':World) (h:aI w' v' P)=>iX v' P ye w' h);dsimp only at HNX HOG;generalize aF P ye=ky at *;clear hnx HOS HON;by_cases hky:ky=4;have HR:=aA (HNO.out (by rw[HS2.out,HOG.out,hky];rfl));have t3:=fP hky;clear hky;rcases hk2 with⟨-,t1⟩|⟨-,t1,t2⟩;rotate_left 2
   have t3:=dN hky;by_cases hrd:rd=k;have HG:=aA (HA'.out (by rw[HS2.out,HOG.out,hrd];simp[hky]));have t4:=iJ hrd;clear hky hrd;rcases hk2 with⟨-,t1⟩|⟨-,t1,t2⟩;rotate_left 2
   have HR:=aA (HNO.out (by rw[HS2.out];simp[hrd]));have t4:=jW hrd;clear hky hrd;rcases hk2 with⟨-,t1⟩|⟨-,t1,t2⟩;all_goals
    go_wp2_with (first|(go_at_call 122;(with_reducible refine(HK.out _ _ (HPv.out _ (hwp.trans ?hzz))).mono ?_);(case hzz=>first|exact hz|exact hz.alloc _);rintro e w5 ⟨rfl,h5⟩;replace hz:=(show Gr (wr.alloc (.cells #[.int .i64 qe,.int .i64 qx] 63)) w5 from(by first|exact hz.trans h5|exact(hz.alloc _).trans h5));obtain⟨⟨zb5,d05,d15,d25,d35,d45,d55,d65,d75,d85⟩,e05,e15,z5⟩:=HX.out _ hz)|(go_at_call 120;(with_reducible refine(HH.out _ _ (HPv.out _ (hwp.trans ?hzz))).mono ?_);(case hzz=>first|exact hz|exact hz.alloc _);rintro e w6 ⟨rfl,h6⟩;replace hz:=(show Gr (wr.alloc (.cells #[.int .i64 qe,.int .i64 qx] 63)) w6 from(by first|exact hz.trans h6|exact(hz.alloc _).trans h6));obtain⟨⟨zb6,d06,d16,d26,d36,d46,d56,d66,d76,d86⟩,e06,e16,z6⟩:=HX.out _ hz)|(go_at_call 121;(with_reducible refine(HNX.out _ _ (HPv.out _ (hwp.trans ?hzz))).mono ?_);(case hzz=>first|exact hz|exact hz.alloc _);rintro e w7 ⟨rfl,h7⟩;replace hz:=(show Gr (wr.alloc (.cells #[.int .i64 qe,.int .i64 qx] 63)) w7 from(by first|exact hz.trans h7|exact(hz.alloc _).trans h7));obtain⟨⟨zb7,d07,d17,d27,d37,d47,d57,d67,d77,d87⟩,e07,e17,z7⟩:=HX.out _ hz)|(go_at_call 122;(with_reducible refine(HKY.out _ _ (HPv.out _ (hwp.trans ?hzz))).mono ?_);(case hzz=>first|exact hz|exact hz.alloc _);rintro e w8 ⟨rfl,h8⟩;replace hz:=(show Gr (wr.alloc (.cells #[.int .i64 qe,.int .i64 qx] 63)) w8 from(by first|exact hz.trans h8|exact(hz.alloc _).trans h8));obtain⟨⟨zb8,d08,d18,d28,d38,d48,d58,d68,d78,d88⟩,e08,e18,z8⟩:=HX.out _ hz)|(go_at_call 123;(with_reducible refine(HRD.out _ _ (HPv.out _ (hwp.trans ?hzz))).mono ?_);(case hzz=>first|exact hz|exact hz.alloc _);rintro e w9 ⟨rfl,h9⟩;replace hz:=(show Gr (wr.alloc (.cells #[.int .i64 qe,.int .i64 qx] 63)) w9 from(by first|exact hz.trans h9|exact(hz.alloc _).trans h9));obtain⟨⟨zb9,d09,d19,d29,d39,d49,d59,d69,d79,d89⟩,e09,e19,z9⟩:=HX.out _ hz))
    first|(go_ret;exact⟨aD HR.out.symm,(by first|exact hwp.trans hz|exact hwp.trans (hz.alloc _))⟩)|(go_roundw;(case rel=>exact⟨k+1,by go_num,by omega,(g.alloc _).trans hz,HG.out⟩);(case measure=>simp[intOf];omega))
  ·have HY:Hid ((∀k (hk:k<P.es.length),P.es[k].k=4→0≤aT P.ss ⟨k,0⟩)→cG P=true):=fun h=>qV (fun j hj=>HA.out j hj (by omega)) h;clear HA;obtain⟨zb,b0,b1,b2,b3,b4,b5,b6,b7,b8⟩:=hB;go_wp2_with fail
   clear zb b0 b1 b2 b3 b4 b5 b6 b7 b8 hlt;have HB2:=aA (HB.out.gr g);obtain⟨wc,hwc⟩:∃wc,wc=wr:=⟨_,rfl⟩;subst hwc;have hwc:Gr w wc:=hwr;clear hwr g;go_loopw [8] (fun x wr=>∃k:Nat,x= .int .i64 k∧k≤P.es.length∧Gr wc wr∧Hid (∀j (hj:j<P.es.length),j<k→P.es[j].k=4→0≤aT P.ss ⟨j,0⟩)) (fun x _=>P.es.length-(intOf x).toNat)
   case atStart=>exact⟨0,rfl,Nat.zero_le _,Gr.refl _,fun j _ h=>by omega⟩
   case round=>
    obtain⟨k,rfl,hk,g,HA⟩:=hrel;have hwr:Gr w wr:=hwc.trans g;by_cases hlt:k<P.es.length
    ·obtain⟨b,o,hsome,zs,-,y1,-⟩:=(H1.out.gr hwr).at k hlt;obtain⟨zb,b0,b1,b2,b3,b4,b5,b6,b7,b8⟩:=HB2.out.gr g;subst hsome;have hk1:(k:Int)<(P.es.length:Int):=by omega
     have HNO:=aA (@oX P k hlt);have HA':Hid ((P.es[k].k=4→0≤aT P.ss ⟨k,0⟩)→∀j (hj:j<P.es.length),j<k+1→P.es[j].k=4→0≤aT P.ss ⟨j,0⟩):=by
      intro h j hj hjk;by_cases e:j=k
      ·subst e;exact h
      ·exact HA.out j hj (by omega)
     clear HA;have HRD:=aA (fun(v':Value) (w':World) (h:aI w' v' P)=>jJ v' P ⟨k,0⟩ w' h);unfold Prt.v at HRD;dsimp only at HRD;generalize P.es[k].k=qk at *;generalize aT P.ss ⟨(k:Int),0⟩=rd at *;by_cases hqk:qk=4
     ·have t1:=fP hqk;by_cases hrd:rd<0
      ·have HR:=aA (HNO.out hqk hrd);clear hqk;go_wp2_with (go_at_call 123;refine(HRD.out _ _ (HPv.out _ hwr)).mono ?_;rintro e w5 ⟨rfl,h5⟩)
       go_ret
       exact⟨aD HR.out.symm,hwr.trans h5⟩
      ·have HG:=aA (HA'.out fun _=>by omega);clear hqk;go_wp2_with (go_at_call 123;refine(HRD.out _ _ (HPv.out _ hwr)).mono ?_;rintro e w5 ⟨rfl,h5⟩)
       go_roundw
       case rel=>exact⟨k+1,by go_num,by omega,g.trans h5,HG.out⟩
       case measure=>simp[intOf];omega
     ·have t1:=dN hqk;have HG:=aA (HA'.out fun h=>absurd h hqk);clear hqk;go_wp2
      go_roundw
      case rel=>exact⟨k+1,by go_num,by omega,g,HG.out⟩
      case measure=>simp[intOf];omega
    ·have HR:=aA (HY.out fun j hj h=>HA.out j hj (by omega) h);obtain⟨zb,b0,b1,b2,b3,b4,b5,b6,b7,b8⟩:=HB2.out.gr g;clear HA;go_wp2
     go_ret
     exact⟨aD HR.out.symm,hwr⟩
def cD(B:Nat)(w:World)(v:Value)(L:List Int):Prop:=w.ownsRow B 3 1 v L.length (L.map (Value.int .i64))
theorem cD.nil(B:Nat)(w:World):cD B w (.slice none 0 0) []:=⟨rfl,.inl ⟨rfl,rfl⟩⟩
theorem cD.snoc{B:Nat}{w:World}{v:Value}{L:List Int}{x:Int}(h:w.ownsRow B 3 1 v (L.length+1) (L.map (Value.int .i64)++[.int .i64 x])):cD B w v (L++[x]):=by
 unfold cD;simpa using h
theorem cD.vals{B:Nat}{w:World}{v:Value}{L:List Int}(h:cD B w v L)(hl:L.length≤maxLen):aR w v (L.map (Value.int .i64)):=by
 obtain⟨h1,h2⟩:=h;rcases h2 with⟨rfl,h0⟩|⟨g,cap,cur,rfl,hg,hh,hn,hcap,hsz,htake⟩
 ·have:L=[]:=List.length_eq_zero_iff.1 h0;subst this;exact⟨none,0,rfl,by simp,.inl rfl⟩
 ·refine⟨some ⟨g,0,none⟩,cap,by simp,by simpa using hl,.inr ⟨g,0,rfl,?_,?_⟩⟩
  ·rcases Nat.lt_or_ge g w.heap.size with h|h
   ·exact h
   ·rw[Array.getElem?_eq_none h] at hh;cases hh
  ·intro i x hx;rw[←htake] at hx;unfold World.cell?;simp only[hh];rw[List.getElem?_take] at hx;split at hx
   ·simpa using hx
   ·cases hx
theorem Tryz.infoI:(Tryz.prog.info? 3).map (fun i=>(i.zero,i.size,i.bytes))=some (some (.int .i64 0),1,8):=by kernel_rfl
theorem cD.one{w:World}{x:Int}:cD w.heap.size (w.alloc (.cells #[.int .i64 x] 3)) (.slice (some ⟨w.heap.size,0,none⟩) 1 1) [x]:=by
 refine⟨rfl,.inr ⟨w.heap.size,1,#[.int .i64 x],rfl,Nat.le_refl _,heap_alloc_new w _,Nat.le_refl _,by unfold maxLen;omega,rfl,rfl⟩⟩
theorem xO:∀(l:List Jn) (x y:Prt),aO l x=some y→y∈aY l
 | [],_,_,h=>by cases h
 | j::t,x,y,h=>by
  rw[iP];unfold aO at h;split at h
  ·cases h;simp
  ·split at h
   ·cases h;simp
   ·simp[xO t x y h]
theorem K1(k:Int):cC k≤4:=by
 unfold cC;split;·omega
 split;·omega
 split;·omega
 split<;>omega
theorem zN{P:Pln}{x:Prt}(h:cS P x=true):0≤x.e∧x.e<P.es.length∧0≤x.x∧x.x<4:=by
 unfold cS at h;simp only[Bool.and_eq_true,decide_eq_true_eq] at h;have:=K1 (aF P x.e);omega
theorem tO{P:Pln}(hj:∀x∈aY P.js,cS P x=true){x y:Prt}(h:aO P.js x=some y):0≤y.e∧y.e<P.es.length∧0≤y.x∧y.x<4:=zN (hj y (xO _ _ _ h))
def eU(P:Pln)(x:Prt)(b:Int):Bool:=match aO P.js x with|some y=>decide (y.e=b)|none=>false
theorem qJ{P:Pln}{x:Prt}{b:Int}(h:aO P.js x=none):eU P x b=false:=by unfold eU;rw[h]
theorem qM{P:Pln}{x y:Prt}{b:Int}(h:aO P.js x=some y):eU P x b=decide (y.e=b):=by unfold eU;rw[h]
theorem rH(P:Pln)(a b:Int):kO P a b=if eU P ⟨a,0⟩ b then 0 else if eU P ⟨a,1⟩ b then 1 else -1:=rfl
def wV(P:Pln):List Int→Int→List Int
 | a::b::t,out=>match aO P.js ⟨a,out⟩ with|some y=>y.x::wV P (b::t) (1-y.x)|none=>[]
 | _,_=>[]
def Ev(P:Pln):List Int→List Int
 | a::b::t=>(1-kO P a b)::wV P (a::b::t) (kO P a b)
 | [_]=>[0]
 | []=>[]
def gT(P:Pln)(L:List Int):Bool:=!decide (L.length=0)&&L.all (fun e=>decide (aF P e=1))&&sH P L
theorem Bu(P:Pln):gT P []=false:=rfl
theorem yG{P:Pln}{L:List Int}{i:Nat}(hi:i<L.length)(h:aF P L[i]≠1):gT P L=false:=by
 unfold gT;rw[dJ L _ i hi (by simpa using h)];simp
theorem Bv{P:Pln}{L:List Int}(h0:0<L.length)(h:∀i (hi:i<L.length),aF P L[i]=1):gT P L=sH P L:=by
 unfold gT;rw[dT L _ fun i hi=>by simpa using h i hi,decide_eq_false (by omega)];rfl
theorem K2{P:Pln}{L:List Int}(h:L.length=1):sH P L=true:=by
 match L,h with
 | [x],_=>rfl
theorem A6{P:Pln}{L:List Int}(h:2≤L.length):sH P L=(!decide (kO P (L[0]'(by omega)) (L[1]'(by omega))<0)&&dH P L (kO P (L[0]'(by omega)) (L[1]'(by omega)))):=by
 match L,h with
 | a::b::t,_=>rfl
theorem Kw{P:Pln}{L:List Int}(h:L.length=1):Ev P L=[0]:=by
 match L,h with
 | [x],_=>rfl
theorem Le{P:Pln}{L:List Int}(h:2≤L.length):Ev P L=(1-kO P (L[0]'(by omega)) (L[1]'(by omega)))::wV P L (kO P (L[0]'(by omega)) (L[1]'(by omega))):=by
 match L,h with
 | a::b::t,_=>rfl
theorem wG{P:Pln}{L:List Int}{i:Nat}(h:i+1<L.length)(o:Int):dH P (L.drop i) o=match aO P.js ⟨L[i],o⟩ with|some y=>decide (y.e=L[i+1])&&dH P (L.drop (i+1)) (1-y.x)|none=>false:=by
 rw[List.drop_eq_getElem_cons (by omega),List.drop_eq_getElem_cons h];rfl
theorem Hm{P:Pln}{L:List Int}{i:Nat}(h:i+1<L.length)(o:Int):wV P (L.drop i) o=match aO P.js ⟨L[i],o⟩ with|some y=>y.x::wV P (L.drop (i+1)) (1-y.x)|none=>[]:=by
 rw[List.drop_eq_getElem_cons (by omega),List.drop_eq_getElem_cons h];rfl
theorem xQ{P:Pln}{L:List Int}{i:Nat}(h:L.length≤i+1)(o:Int):dH P (L.drop i) o=true∧wV P (L.drop i) o=[]:=by
 match hd:L.drop i with
 | []=>exact⟨rfl,rfl⟩
 | [x]=>exact⟨rfl,rfl⟩
 | x::y::t=>
  have:=congrArg List.length hd;simp at this;omega
end Go.Proofs.YthkbcablnpbmgaaGreatDoor
