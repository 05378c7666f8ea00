/- Helps of the proof of ChartWord. -/
import Derived.Test.YthkbcablnpbmgaaGreatDoorRows
import Derived.Test.YthkbcablnpbmgaaGreatDoorW4
import Derived.Test.YthkbcablnpbmgaaGreatDoorW2
import Derived.Deep.RegionHeld3
import Derived.Deep.AppendLies
import Derived.Test.YthkbcablnpbmgaaGreatDoorW1
import Derived.Maps.OwnOps
import Derived.StringKeys
set_option linter.unusedVariables false
set_option linter.unusedSimpArgs false
set_option maxHeartbeats 1000000
set_option maxRecDepth 100000
namespace Go.Proofs.YthkbcablnpbmgaaGreatDoor
open Go.ChangeShapes Go.WideShapes Go.ChangeAt Go.RowKit Go.Maps
def qT(w:World)(P:Pln)(e:Ending)(w':World):Prop:=
 ∃m,e= .returned (.tuple #[m,.bool (bI P)])∧Gr w w'∧(bI P=true→∃b n f,m= .map (some b)∧w.heap.size≤b∧aS Tryz.prog 63 w' b n f∧FnL P.js f)
theorem qT.no{w w':World}{P:Pln}(h:bI P=false)(g:Gr w w'):qT w P (.returned (.tuple #[.map none,.bool false])) w':=
 ⟨_,by rw[h],g,fun h'=>by rw[h] at h';cases h'⟩
theorem qT.yes{w w':World}{P:Pln}{b n:Nat}{f:Value→Option Value}(h:bI P=true)(g:Gr w w')(hb:w.heap.size≤b)(hm:aS Tryz.prog 63 w' b n f)(hf:FnL P.js f):qT w P (.returned (.tuple #[.map (some b),.bool true])) w':=
 ⟨_,by rw[h],g,fun _=>⟨b,n,f,rfl,hb,hm,hf⟩⟩
theorem Ec(v:Value)(P:Pln)(w:World)(hP:aI w v P)(hk:fN P)(hn:P.js.length≤1000):
  Calls Tryz.prog 97 #[v] w (qT w P):=by
 obtain⟨a1,c1,a2,c2,a3,c3,a4,c4,rfl,h1,h2,h3,h4⟩:=hP;have m1:=aL.len h1;unfold maxLen at m1;have hmm:=@run_makeMap Tryz.prog;have H1:=aA h1;have H2:=aA h2;have HPv:=aA (fun(w':World) (g:Gr w w')=>aI.mk (w':=w') h1 h2 h3 h4 g);have HB:=aA (dG w P (.slice a1 P.es.length c1) (.slice a2 P.js.length c2) (.slice a3 P.ss.length c3) (.slice a4 P.ls.length c4));have hw0:=dW w P (.slice a1 P.es.length c1) (.slice a2 P.js.length c2) (.slice a3 P.ss.length c3) (.slice a4 P.ls.length c4);have hsz:(bxW w P (.slice a1 P.es.length c1) (.slice a2 P.js.length c2) (.slice a3 P.ss.length c3) (.slice a4 P.ls.length c4)).heap.size=w.heap.size+1:=by unfold bxW;simp
 obtain⟨wb,hwb⟩:∃wb,wb=bxW w P (.slice a1 P.es.length c1) (.slice a2 P.js.length c2) (.slice a3 P.ss.length c3) (.slice a4 P.ls.length c4):=⟨_,rfl⟩;rw[←hwb] at HB hw0 hsz;have HSZ:=aA hsz;have hm0:aS Tryz.prog 63 (wb.alloc (.map #[] 0)) (w.heap.size+1) 0 (fun _=>none):=by rw[←hsz];exact aS.made _ _ _
 have HM0:=aA hm0;unfold aX;have HWB:=aA hwb;have HKJ:=aA hk.js;clear h1 h2 h3 h4 hwb hk hsz hm0;go_enter Tryz.func97,Tryz.ntmps97
 go_wp2_with fail
 rw[show(w.alloc (.cells #[.slice a1 P.es.length c1,.slice a2 P.js.length c2,.slice a3 P.ss.length c3,.slice a4 P.ls.length c4,.int .i64 P.top,.int .i64 P.brake,.int .i64 P.margin,.int .i64 P.throw,.bool P.hard] 27))=wb from HWB.out.symm];clear HWB hmm;go_loopw [19] (fun x wr=>∃(k n:Nat) (f:Value→Option Value),x= .int .i64 k∧k≤P.js.length∧n≤2*k∧Gr wb wr∧aS Tryz.prog 63 wr (w.heap.size+1) n f∧Hid (FnL (P.js.take k) f)∧Hid (okL P (P.js.take k))) (fun x _=>P.js.length-(intOf x).toNat)
 case atStart=>exact⟨0,0,_,rfl,Nat.zero_le _,Nat.zero_le _,(Gr.refl _).alloc _,HM0.out,FnL.nil,Mn P⟩
 case round=>
  obtain⟨k,n,f,rfl,hk,hn2,g,hm,HF,HOK⟩:=hrel;have HM:=aA hm;clear hm;have hB:=HB.out.gr g;have hwr:Gr w wr:=hw0.trans g;by_cases hlt:k<P.js.length
  ·obtain⟨b,o,hsome,zs,y0,y1,y2,y3⟩:=(H2.out.gr hwr).at k hlt;have HX0:=aA (fun wx (h:Gr wr wx)=>hB.gr h);subst hsome;obtain⟨zb,b0,b1,b2,b3,b4,b5,b6,b7,b8⟩:=hB;have zbb1:w.heap.size<wr.heap.size+1:=by omega
   have zbb2:w.heap.size<wr.heap.size+1+1:=by omega
   have hk1:(k:Int)<(P.js.length:Int):=by omega
   have HRD:=aA (Hn k hlt HOK.out);have HKJk:=HKJ.out _ (List.getElem_mem hlt);have HTK:=aA (mH P.js k hlt);have HSA:=aA (fun x=>lX (P.js.take k) x);obtain⟨q,hq⟩:∃q,q=P.js[k]:=⟨_,rfl⟩;rw[←hq] at y0 y1 y2 y3 HRD HKJk HTK;clear hq;obtain⟨⟨ae,ax⟩,⟨be,bx⟩⟩:=q;dsimp only at y0 y1 y2 y3 HRD HKJk;have HPKA:Hid (cI ⟨ae,ax⟩):=⟨HKJk.1,HKJk.2.1⟩;have HPKB:Hid (cI ⟨be,bx⟩):=⟨HKJk.2.2.1,HKJk.2.2.2⟩;clear HKJk;have hwp:Gr w (wr.alloc (.cells #[.int .i64 ae,.int .i64 ax,.int .i64 be,.int .i64 bx] 94)):=hwr.alloc _;have hz:Gr (wr.alloc (.cells #[.int .i64 ae,.int .i64 ax,.int .i64 be,.int .i64 bx] 94)) (wr.alloc (.cells #[.int .i64 ae,.int .i64 ax,.int .i64 be,.int .i64 bx] 94)):=Gr.refl _;have HX:Hid (∀wx,Gr (wr.alloc (.cells #[.int .i64 ae,.int .i64 ax,.int .i64 be,.int .i64 bx] 94)) wx→bZ wx w.heap.size P _ _ _ _∧wx.cell? ⟨wr.heap.size,0,none⟩=some (.int .i64 ae)∧wx.cell? ⟨wr.heap.size,1,none⟩=some (.int .i64 ax)∧wx.cell? ⟨wr.heap.size,2,none⟩=some (.int .i64 be)∧wx.cell? ⟨wr.heap.size,3,none⟩=some (.int .i64 bx)∧wr.heap.size<wx.heap.size):=fun wx h=>
    ⟨HX0.out wx (((Gr.refl wr).alloc _).trans h),(h.cell _ _ (by simp)).trans (by rw[World.cell?_alloc_mark];rfl),(h.cell _ _ (by simp)).trans (by rw[World.cell?_alloc_mark];rfl),(h.cell _ _ (by simp)).trans (by rw[World.cell?_alloc_mark];rfl),(h.cell _ _ (by simp)).trans (by rw[World.cell?_alloc_mark];rfl),Nat.lt_of_lt_of_le (by simp) h.size⟩
   have HPA:=aA (fun(v':Value) (w':World) (h:aI w' v' P)=>vB v' P ⟨ae,ax⟩ w' h);have HPB:=aA (fun(v':Value) (w':World) (h:aI w' v' P)=>vB v' P ⟨be,bx⟩ w' h);unfold Prt.v at HPA HPB;dsimp only at HPA HPB;generalize hha:cS P ⟨ae,ax⟩=ha at *;generalize hhb:cS P ⟨be,bx⟩=hb at *;clear hha hhb;have HL1:=aA (fun wx (h:Gr wr wx) y (hn:aO (P.js.take k) ⟨ae,ax⟩=some y)=>cE (HM.out.gr h) HF.out HPKA.out hn);have HL1n:=aA (fun wx (h:Gr wr wx) (hn:aO (P.js.take k) ⟨ae,ax⟩=none)=>cF (HM.out.gr h) HF.out HPKA.out hn);have HL2:=aA (fun wx (h:Gr wr wx) y (hn:aO (P.js.take k) ⟨be,bx⟩=some y)=>cE (HM.out.gr h) HF.out HPKB.out hn);have HL2n:=aA (fun wx (h:Gr wr wx) (hn:aO (P.js.take k) ⟨be,bx⟩=none)=>cF (HM.out.gr h) HF.out HPKB.out hn);dsimp only at HL1 HL1n HL2 HL2n;have G1:=lJ .eql;rcases hA:aO (P.js.take k) ⟨ae,ax⟩ with _|⟨p1,p2⟩;rotate_left
   ·have HR:Hid (bI P=false):=HRD.out.2 fun h=>by
     have:=HSA.out ⟨ae,ax⟩;rw[hA] at this;exact h.1 (of_decide_eq_true this.symm)
    have l1:=HL1.out _ ((Gr.refl wr).alloc (.cells #[.int .i64 ae,.int .i64 ax,.int .i64 be,.int .i64 bx] 94)) _ hA;dsimp only at l1;rcases hBb:aO (P.js.take k) ⟨be,bx⟩ with _|⟨q1,q2⟩
    ·have l2:=HL2n.out _ (((Gr.refl wr).alloc (.cells #[.int .i64 ae,.int .i64 ax,.int .i64 be,.int .i64 bx] 94)).alloc (.cells #[.int .i64 p1,.int .i64 p2] 63)) hBb;clear hA hBb
     (go_wp2_with (first|(go_at_call 143;(with_reducible refine(HPA.out _ _ (HPv.out _ (hwp.trans ?hzz))).mono ?_);(case hzz=>first|exact hz|exact hz.alloc _|exact(hz.alloc _).alloc _);rintro e w5 ⟨rfl,h5⟩;replace hz:=(show Gr (wr.alloc (.cells #[.int .i64 ae,.int .i64 ax,.int .i64 be,.int .i64 bx] 94)) w5 from(by first|exact hz.trans h5|exact(hz.alloc _).trans h5|exact((hz.alloc _).alloc _).trans h5));obtain⟨⟨zb5,d05,d15,d25,d35,d45,d55,d65,d75,d85⟩,e05,e15,e25,e35,z5⟩:=HX.out _ hz)|(go_at_call 143;(with_reducible refine(HPB.out _ _ (HPv.out _ (hwp.trans ?hzz))).mono ?_);(case hzz=>first|exact hz|exact hz.alloc _|exact(hz.alloc _).alloc _);rintro e w6 ⟨rfl,h6⟩;replace hz:=(show Gr (wr.alloc (.cells #[.int .i64 ae,.int .i64 ax,.int .i64 be,.int .i64 bx] 94)) w6 from(by first|exact hz.trans h6|exact(hz.alloc _).trans h6|exact((hz.alloc _).alloc _).trans h6));obtain⟨⟨zb6,d06,d16,d26,d36,d46,d56,d66,d76,d86⟩,e06,e16,e26,e36,z6⟩:=HX.out _ hz));go_ret2;exact qT.no HR.out (by first|exact hwp.trans hz|exact hwp.trans ((hz.alloc _).alloc _)))
    ·have l2:=HL2.out _ (((Gr.refl wr).alloc (.cells #[.int .i64 ae,.int .i64 ax,.int .i64 be,.int .i64 bx] 94)).alloc (.cells #[.int .i64 p1,.int .i64 p2] 63)) _ hBb;dsimp only at l2;clear hA hBb
     (go_wp2_with (first|(go_at_call 143;(with_reducible refine(HPA.out _ _ (HPv.out _ (hwp.trans ?hzz))).mono ?_);(case hzz=>first|exact hz|exact hz.alloc _|exact(hz.alloc _).alloc _);rintro e w5 ⟨rfl,h5⟩;replace hz:=(show Gr (wr.alloc (.cells #[.int .i64 ae,.int .i64 ax,.int .i64 be,.int .i64 bx] 94)) w5 from(by first|exact hz.trans h5|exact(hz.alloc _).trans h5|exact((hz.alloc _).alloc _).trans h5));obtain⟨⟨zb5,d05,d15,d25,d35,d45,d55,d65,d75,d85⟩,e05,e15,e25,e35,z5⟩:=HX.out _ hz)|(go_at_call 143;(with_reducible refine(HPB.out _ _ (HPv.out _ (hwp.trans ?hzz))).mono ?_);(case hzz=>first|exact hz|exact hz.alloc _|exact(hz.alloc _).alloc _);rintro e w6 ⟨rfl,h6⟩;replace hz:=(show Gr (wr.alloc (.cells #[.int .i64 ae,.int .i64 ax,.int .i64 be,.int .i64 bx] 94)) w6 from(by first|exact hz.trans h6|exact(hz.alloc _).trans h6|exact((hz.alloc _).alloc _).trans h6));obtain⟨⟨zb6,d06,d16,d26,d36,d46,d56,d66,d76,d86⟩,e06,e16,e26,e36,z6⟩:=HX.out _ hz));go_ret2;exact qT.no HR.out (by first|exact hwp.trans hz|exact hwp.trans ((hz.alloc _).alloc _)))
   have l1:=HL1n.out _ ((Gr.refl wr).alloc (.cells #[.int .i64 ae,.int .i64 ax,.int .i64 be,.int .i64 bx] 94)) hA;rcases hBb:aO (P.js.take k) ⟨be,bx⟩ with _|⟨q1,q2⟩;rotate_left
   ·have HR:Hid (bI P=false):=HRD.out.2 fun h=>by
     have:=HSA.out ⟨be,bx⟩;rw[hBb] at this;exact h.2.1 (of_decide_eq_true this.symm)
    have l2:=HL2.out _ (((Gr.refl wr).alloc (.cells #[.int .i64 ae,.int .i64 ax,.int .i64 be,.int .i64 bx] 94)).alloc (.cells #[.int .i64 0,.int .i64 0] 63)) _ hBb;dsimp only at l2;clear hA hBb
    (go_wp2_with (first|(go_at_call 143;(with_reducible refine(HPA.out _ _ (HPv.out _ (hwp.trans ?hzz))).mono ?_);(case hzz=>first|exact hz|exact hz.alloc _|exact(hz.alloc _).alloc _);rintro e w5 ⟨rfl,h5⟩;replace hz:=(show Gr (wr.alloc (.cells #[.int .i64 ae,.int .i64 ax,.int .i64 be,.int .i64 bx] 94)) w5 from(by first|exact hz.trans h5|exact(hz.alloc _).trans h5|exact((hz.alloc _).alloc _).trans h5));obtain⟨⟨zb5,d05,d15,d25,d35,d45,d55,d65,d75,d85⟩,e05,e15,e25,e35,z5⟩:=HX.out _ hz)|(go_at_call 143;(with_reducible refine(HPB.out _ _ (HPv.out _ (hwp.trans ?hzz))).mono ?_);(case hzz=>first|exact hz|exact hz.alloc _|exact(hz.alloc _).alloc _);rintro e w6 ⟨rfl,h6⟩;replace hz:=(show Gr (wr.alloc (.cells #[.int .i64 ae,.int .i64 ax,.int .i64 be,.int .i64 bx] 94)) w6 from(by first|exact hz.trans h6|exact(hz.alloc _).trans h6|exact((hz.alloc _).alloc _).trans h6));obtain⟨⟨zb6,d06,d16,d26,d36,d46,d56,d66,d76,d86⟩,e06,e16,e26,e36,z6⟩:=HX.out _ hz));go_ret2;exact qT.no HR.out (by first|exact hwp.trans hz|exact hwp.trans ((hz.alloc _).alloc _)))
   have l2:=HL2n.out _ (((Gr.refl wr).alloc (.cells #[.int .i64 ae,.int .i64 ax,.int .i64 be,.int .i64 bx] 94)).alloc (.cells #[.int .i64 0,.int .i64 0] 63)) hBb;have HNA:Hid ((⟨ae,ax⟩:Prt)∉aY (P.js.take k)):=fun h=>by
    have:=HSA.out ⟨ae,ax⟩;rw[hA,decide_eq_true h] at this;cases this
   have HNB:Hid ((⟨be,bx⟩:Prt)∉aY (P.js.take k)):=fun h=>by
    have:=HSA.out ⟨be,bx⟩;rw[hBb,decide_eq_true h] at this;cases this
   clear hA hBb;by_cases hab:(⟨ae,ax⟩:Prt)=⟨be,bx⟩
   ·have HR:Hid (bI P=false):=HRD.out.2 fun h=>h.2.2.1 hab;have E1:∀w,(binOp .eql 63 (.agg #[.int .i64 ae,.int .i64 ax]) (.agg #[.int .i64 be,.int .i64 bx])).run Tryz.prog w= .ok (.bool true) w:=fun w=>by rw[gI,decide_eq_true hab]
    clear hab
    (go_wp2_with (first|(go_at_call 143;(with_reducible refine(HPA.out _ _ (HPv.out _ (hwp.trans ?hzz))).mono ?_);(case hzz=>first|exact hz|exact hz.alloc _|exact(hz.alloc _).alloc _);rintro e w5 ⟨rfl,h5⟩;replace hz:=(show Gr (wr.alloc (.cells #[.int .i64 ae,.int .i64 ax,.int .i64 be,.int .i64 bx] 94)) w5 from(by first|exact hz.trans h5|exact(hz.alloc _).trans h5|exact((hz.alloc _).alloc _).trans h5));obtain⟨⟨zb5,d05,d15,d25,d35,d45,d55,d65,d75,d85⟩,e05,e15,e25,e35,z5⟩:=HX.out _ hz)|(go_at_call 143;(with_reducible refine(HPB.out _ _ (HPv.out _ (hwp.trans ?hzz))).mono ?_);(case hzz=>first|exact hz|exact hz.alloc _|exact(hz.alloc _).alloc _);rintro e w6 ⟨rfl,h6⟩;replace hz:=(show Gr (wr.alloc (.cells #[.int .i64 ae,.int .i64 ax,.int .i64 be,.int .i64 bx] 94)) w6 from(by first|exact hz.trans h6|exact(hz.alloc _).trans h6|exact((hz.alloc _).alloc _).trans h6));obtain⟨⟨zb6,d06,d16,d26,d36,d46,d56,d66,d76,d86⟩,e06,e16,e26,e36,z6⟩:=HX.out _ hz));go_ret2;exact qT.no HR.out (by first|exact hwp.trans hz|exact hwp.trans ((hz.alloc _).alloc _)))
   have E1:∀w,(binOp .eql 63 (.agg #[.int .i64 ae,.int .i64 ax]) (.agg #[.int .i64 be,.int .i64 bx])).run Tryz.prog w= .ok (.bool false) w:=fun w=>by rw[gI,decide_eq_false hab]
   have HAB:=aA hab;clear hab;cases ha
   ·have HR:Hid (bI P=false):=HRD.out.2 fun h=>by cases h.2.2.2.1
    (go_wp2_with (first|(go_at_call 143;(with_reducible refine(HPA.out _ _ (HPv.out _ (hwp.trans ?hzz))).mono ?_);(case hzz=>first|exact hz|exact hz.alloc _|exact(hz.alloc _).alloc _);rintro e w5 ⟨rfl,h5⟩;replace hz:=(show Gr (wr.alloc (.cells #[.int .i64 ae,.int .i64 ax,.int .i64 be,.int .i64 bx] 94)) w5 from(by first|exact hz.trans h5|exact(hz.alloc _).trans h5|exact((hz.alloc _).alloc _).trans h5));obtain⟨⟨zb5,d05,d15,d25,d35,d45,d55,d65,d75,d85⟩,e05,e15,e25,e35,z5⟩:=HX.out _ hz)|(go_at_call 143;(with_reducible refine(HPB.out _ _ (HPv.out _ (hwp.trans ?hzz))).mono ?_);(case hzz=>first|exact hz|exact hz.alloc _|exact(hz.alloc _).alloc _);rintro e w6 ⟨rfl,h6⟩;replace hz:=(show Gr (wr.alloc (.cells #[.int .i64 ae,.int .i64 ax,.int .i64 be,.int .i64 bx] 94)) w6 from(by first|exact hz.trans h6|exact(hz.alloc _).trans h6|exact((hz.alloc _).alloc _).trans h6));obtain⟨⟨zb6,d06,d16,d26,d36,d46,d56,d66,d76,d86⟩,e06,e16,e26,e36,z6⟩:=HX.out _ hz));go_ret2;exact qT.no HR.out (by first|exact hwp.trans hz|exact hwp.trans ((hz.alloc _).alloc _)))
   cases hb
   ·have HR:Hid (bI P=false):=HRD.out.2 fun h=>by cases h.2.2.2.2
    (go_wp2_with (first|(go_at_call 143;(with_reducible refine(HPA.out _ _ (HPv.out _ (hwp.trans ?hzz))).mono ?_);(case hzz=>first|exact hz|exact hz.alloc _|exact(hz.alloc _).alloc _);rintro e w5 ⟨rfl,h5⟩;replace hz:=(show Gr (wr.alloc (.cells #[.int .i64 ae,.int .i64 ax,.int .i64 be,.int .i64 bx] 94)) w5 from(by first|exact hz.trans h5|exact(hz.alloc _).trans h5|exact((hz.alloc _).alloc _).trans h5));obtain⟨⟨zb5,d05,d15,d25,d35,d45,d55,d65,d75,d85⟩,e05,e15,e25,e35,z5⟩:=HX.out _ hz)|(go_at_call 143;(with_reducible refine(HPB.out _ _ (HPv.out _ (hwp.trans ?hzz))).mono ?_);(case hzz=>first|exact hz|exact hz.alloc _|exact(hz.alloc _).alloc _);rintro e w6 ⟨rfl,h6⟩;replace hz:=(show Gr (wr.alloc (.cells #[.int .i64 ae,.int .i64 ax,.int .i64 be,.int .i64 bx] 94)) w6 from(by first|exact hz.trans h6|exact(hz.alloc _).trans h6|exact((hz.alloc _).alloc _).trans h6));obtain⟨⟨zb6,d06,d16,d26,d36,d46,d56,d66,d76,d86⟩,e06,e16,e26,e36,z6⟩:=HX.out _ hz));go_ret2;exact qT.no HR.out (by first|exact hwp.trans hz|exact hwp.trans ((hz.alloc _).alloc _)))
   have HOK2:=aA (HRD.out.1 ⟨HNA.out,HNB.out,HAB.out,by trivial,by trivial⟩);have HF2:Hid (FnL (P.js.take (k+1)) (put (put f (Prt.v ⟨ae,ax⟩) (Prt.v ⟨be,bx⟩)) (Prt.v ⟨be,bx⟩) (Prt.v ⟨ae,ax⟩))):=by
    unfold Hid;rw[HTK.out];exact FnL.two HF.out ⟨⟨ae,ax⟩,⟨be,bx⟩⟩ HNA.out HNB.out HAB.out
   obtain⟨kla,hka⟩:=eK ⟨ae,ax⟩ HPKA.out.1 HPKA.out.2;obtain⟨klb,hkb⟩:=eK ⟨be,bx⟩ HPKB.out.1 HPKB.out.2;have HKA:=aA hka;have HKB:=aA hkb;clear hka hkb HL1 HL1n HL2 HL2n HRD HF HOK HSA;go_wp2_with (first|(go_at_call 143;(with_reducible refine(HPA.out _ _ (HPv.out _ (hwp.trans ?hzz))).mono ?_);(case hzz=>first|exact hz|exact hz.alloc _|exact(hz.alloc _).alloc _);rintro e w5 ⟨rfl,h5⟩;replace hz:=(show Gr (wr.alloc (.cells #[.int .i64 ae,.int .i64 ax,.int .i64 be,.int .i64 bx] 94)) w5 from(by first|exact hz.trans h5|exact(hz.alloc _).trans h5|exact((hz.alloc _).alloc _).trans h5));obtain⟨⟨zb5,d05,d15,d25,d35,d45,d55,d65,d75,d85⟩,e05,e15,e25,e35,z5⟩:=HX.out _ hz)|(go_at_call 143;(with_reducible refine(HPB.out _ _ (HPv.out _ (hwp.trans ?hzz))).mono ?_);(case hzz=>first|exact hz|exact hz.alloc _|exact(hz.alloc _).alloc _);rintro e w6 ⟨rfl,h6⟩;replace hz:=(show Gr (wr.alloc (.cells #[.int .i64 ae,.int .i64 ax,.int .i64 be,.int .i64 bx] 94)) w6 from(by first|exact hz.trans h6|exact(hz.alloc _).trans h6|exact((hz.alloc _).alloc _).trans h6));obtain⟨⟨zb6,d06,d16,d26,d36,d46,d56,d66,d76,d86⟩,e06,e16,e26,e36,z6⟩:=HX.out _ hz))
   have HZ:=aA hz;have HN0:Hid (n<maxLen):=by unfold Hid maxLen;omega
   have HN1:Hid (n+1<maxLen):=by unfold Hid maxLen;omega
   have hblt:=HM.out.lt;have HKP:Hid (∀(wx wy:World),(wx.cell? ⟨wr.heap.size,0,none⟩=some (.int .i64 ae)∧wx.cell? ⟨wr.heap.size,1,none⟩=some (.int .i64 ax)∧wx.cell? ⟨wr.heap.size,2,none⟩=some (.int .i64 be)∧wx.cell? ⟨wr.heap.size,2+1,none⟩=some (.int .i64 bx)∧wr.heap.size<wx.heap.size)→wx.grownBy wy (some (w.heap.size+1))→(wy.cell? ⟨wr.heap.size,0,none⟩=some (.int .i64 ae)∧wy.cell? ⟨wr.heap.size,1,none⟩=some (.int .i64 ax)∧wy.cell? ⟨wr.heap.size,2,none⟩=some (.int .i64 be)∧wy.cell? ⟨wr.heap.size,2+1,none⟩=some (.int .i64 bx)∧wr.heap.size<wy.heap.size)):=fun wx wy h hg=>
    have hne:∀j,some (⟨wr.heap.size,j,none⟩:Addr).block≠some (w.heap.size+1):=fun j e=>by simp at e;omega
    ⟨(hg.cell_far _ h.2.2.2.2 (hne 0)).trans h.1,(hg.cell_far _ h.2.2.2.2 (hne 1)).trans h.2.1,(hg.cell_far _ h.2.2.2.2 (hne 2)).trans h.2.2.1,(hg.cell_far _ h.2.2.2.2 (hne 3)).trans h.2.2.2.1,Nat.lt_of_lt_of_le h.2.2.2.2 hg.size⟩
   obtain⟨w7,hr7,hm7,hg7⟩:=(HM.out.gr (((Gr.refl wr).alloc _).trans HZ.out).drew).update cT Tryz.underlying99 HN0.out (val:=Prt.v ⟨be,bx⟩) HKA.out;obtain⟨w8,hr8,hm8,hg8⟩:=hm7.update cT Tryz.underlying99 HN1.out (val:=Prt.v ⟨ae,ax⟩) HKB.out;have r7:(Instr.mapUpdate 99 (.map (some (w.heap.size+1))) (.agg #[.int .i64 ae,.int .i64 ax]) (.agg #[.int .i64 be,.int .i64 bx])).run Tryz.prog w6.drew= .ok () w7:=hr7;have r8:(Instr.mapUpdate 99 (.map (some (w.heap.size+1))) (.agg #[.int .i64 be,.int .i64 bx]) (.agg #[.int .i64 ae,.int .i64 ax])).run Tryz.prog w7= .ok () w8:=hr8;clear hr7 hr8;have HM8:=aA hm8;clear hm7 hm8;go_region_held3 (fun w'=>w'.cell? ⟨wr.heap.size,0,none⟩=some (.int .i64 ae)∧w'.cell? ⟨wr.heap.size,1,none⟩=some (.int .i64 ax)∧w'.cell? ⟨wr.heap.size,2,none⟩=some (.int .i64 be)∧w'.cell? ⟨wr.heap.size,2+1,none⟩=some (.int .i64 bx)∧wr.heap.size<w'.heap.size) (first|exact⟨e06,e16,e26,e36,z6⟩|exact HKP.out _ _ (by assumption) hg8|exact HKP.out _ _ (by assumption) hg7) (fail)
   have g8:Gr wb w8:=Gr.grownM (Gr.grownM ((g.alloc _).trans hz).drew hg7 (by have:=HSZ.out;omega)) hg8 (by have:=HSZ.out;omega);go_wp2
   go_roundw
   case rel=>exact⟨k+1,n+1+1,_,by go_num,by omega,by omega,g8,HM8.out,HF2.out,HOK2.out⟩
   case measure=>simp[intOf];omega
  ·have hl:P.js.take k=P.js:=List.take_of_length_le (by omega);rw[hl] at HF HOK;have HJ:=aA (sV HOK.out);obtain⟨zb,b0,b1,b2,b3,b4,b5,b6,b7,b8⟩:=hB;go_wp2_with fail
   clear zb b0 b1 b2 b3 b4 b5 b6 b7 b8 hlt hl;have HB2:=aA (HB.out.gr g);obtain⟨wc,hwc⟩:∃wc,wc=wr:=⟨_,rfl⟩;subst hwc;have hwc:Gr w wc:=hwr;clear hwr g;go_loopw [11,76] (fun _ x wr=>∃k:Nat,x= .int .i64 k∧k≤P.es.length∧Gr wc wr∧Hid (∀j (hj:j<P.es.length),j<k→P.es[j].k=4→dF P ⟨j,0⟩=true)) (fun _ x _=>P.es.length-(intOf x).toNat)
   case atStart=>exact⟨0,rfl,Nat.zero_le _,Gr.refl _,fun j _ h=>by omega⟩
   case round=>
    obtain⟨k,rfl,hk,g,HA⟩:=hrel;have hwr:Gr w wr:=hwc.trans g;obtain⟨zb,b0,b1,b2,b3,b4,b5,b6,b7,b8⟩:=HB2.out.gr g;by_cases hlt:k<P.es.length
    ·obtain⟨b,o,hsome,zs,y0,y1,y2⟩:=(H1.out.gr hwr).at k hlt;subst hsome;have hk1:(k:Int)<(P.es.length:Int):=by omega
     have HNO:=aA (@xA P k hlt);have HA':Hid ((P.es[k].k=4→dF P ⟨k,0⟩=true)→∀j (hj:j<P.es.length),j<k+1→P.es[j].k=4→dF P ⟨j,0⟩=true):=by
      intro h j hj hjk;by_cases e:j=k
      ·subst e;exact h
      ·exact HA.out j hj (by omega)
     have HPK:Hid (cI ⟨(k:Int),0⟩):=⟨show I64 (k:Int) from WalkArith.wf_i64 (by omega),show I64 (0:Int) from WalkArith.wf_i64 (by omega)⟩;clear HA;obtain⟨q,hq⟩:∃q,q=P.es[k]:=⟨_,rfl⟩;rw[←hq] at y0 y1 y2 HNO HA';clear hq;obtain⟨qn,qk,ql⟩:=q;dsimp only at y0 y1 y2 HNO HA';by_cases hqk:qk=4
     ·have t1:=iJ hqk;rcases hnx:aO P.js ⟨(k:Int),0⟩ with _|⟨ye,yx⟩
      ·have HR:Hid (bI P=false):=by unfold Hid;rw[HJ.out];exact HNO.out hqk (jL hnx)
       have l1:=cF (HM.out.gr (g.alloc (.cells #[.string qn,.int .i64 qk,.int .i64 ql] 61))) HF.out HPK.out hnx;dsimp only at l1;clear hqk hnx HNO HA';go_wp2
       go_ret2
       exact qT.no HR.out ((hwr.alloc _).alloc _)
      ·have hbd:=tO HOK.out.2 hnx;obtain⟨hb1,hb2,-,-⟩:=hbd;dsimp only at hb1 hb2;obtain⟨m,rfl⟩:=Int.eq_ofNat_of_zero_le hb1;have hml:m<P.es.length:=by omega
       obtain⟨b',o',hsome',zs',-,y1',-⟩:=(H1.out.gr hwr).at m hml;simp only[Option.some.injEq,Addr.mk.injEq,and_true] at hsome';obtain⟨rfl,rfl⟩:=hsome';have HOG:=aA (jR hnx);have HKD:=aA (dZ P m hml);have l1:=cE (HM.out.gr (g.alloc (.cells #[.string qn,.int .i64 qk,.int .i64 ql] 61))) HF.out HPK.out hnx;dsimp only at l1 HOG;rw[HKD.out] at HOG;generalize P.es[m].k=kk at *;clear hnx HKD;by_cases hkk:kk=4
       ·have t2:=fP hkk;have HR:Hid (bI P=false):=by unfold Hid;rw[HJ.out];exact HNO.out hqk (by rw[HOG.out,hkk];rfl)
        clear hqk HNO HA' hkk;go_wp2
        go_ret2
        exact qT.no HR.out ((hwr.alloc _).alloc _)
       ·have t2:=dN hkk;have HA2:=aA (HA'.out fun _=>by rw[HOG.out];simp[hkk]);clear hqk HNO HA' hkk;go_wp2
        go_roundw
        case rel=>exact⟨k+1,by go_num,by omega,(g.alloc _).alloc _,HA2.out⟩
        case measure=>simp[intOf];omega
     ·have t1:=jW hqk;have HA2:=aA (HA'.out fun h=>absurd h hqk);clear HA' hqk HNO;go_wp2
      go_roundw
      case rel=>exact⟨k+1,by go_num,by omega,g.alloc _,HA2.out⟩
      case measure=>simp[intOf];omega
    ·have HR:Hid (bI P=true):=by unfold Hid;rw[HJ.out];exact tZ fun j hj h=>HA.out j hj (by omega) h
     clear HA;go_wp2
     go_ret2
     exact qT.yes HR.out hwr (by omega) (HM.out.gr g) HF.out
end Go.Proofs.YthkbcablnpbmgaaGreatDoor
namespace Go.Proofs.YthkbcablnpbmgaaGreatDoor
open Go.ChangeShapes Go.WideShapes Go.ChangeAt Go.RowKit Go.Maps
open Go.WideMaps (keyOf_string_mk)
theorem iI(w:World):(zeroValue 4).run Tryz.prog w= .ok (.bool false) w:=by kernel_rfl
def lA(l:List ByteArray)(f:Value→Option Value):Prop:=∀x:ByteArray,(x∈l→f (.string x)=some (.bool true))∧(x∉l→f (.string x)=none)
theorem lA.nil:lA [] (fun _=>none):=fun x=>⟨fun h=>(List.not_mem_nil h).elim,fun _=>rfl⟩
theorem lA.put{l:List ByteArray}{f:Value→Option Value}(h:lA l f)(x:ByteArray):lA (l++[x]) (put f (.string x) (.bool true)):=by
 intro y;unfold Go.Proofs.YthkbcablnpbmgaaGreatDoor.put;by_cases e:y=x
 ·subst e;simp
 ·have:¬(Value.string y=Value.string x):=by simp[e]
  rw[if_neg this];have h1:=h y;simp only[List.mem_append,List.mem_singleton,e,or_false];exact h1
theorem Hp(w:World)(P:Pln)(b:Nat)(av:Option Addr)(cv:Nat)(x0 x1 x2 x3:Value)(hx:bZ w b P x0 x1 x2 x3)(hs:x0= .slice av P.es.length cv)(hi:eS w (.slice av P.es.length cv) P.es)(hl:P.es.length≤1000)(i:Nat)(hlt:i<P.es.length):
  Calls Tryz.prog 94 #[.int .i64 i,.pointer (some ⟨b,0,none⟩)] w fun e w'=>e= .returned (.string P.es[i].n)∧w=w':=by
 subst hs;obtain⟨hb,d0,-⟩:=hx;obtain⟨b2,o,rfl,zs,y0,-,-⟩:=hi.at i hlt;have i1:(i:Int)<(P.es.length:Int):=by omega
 generalize P.es[i].n=nm at *;go_enter Tryz.func94,Tryz.ntmps94
 go_wp2
 go_ret
 exact⟨rfl,rfl⟩
theorem D5(N:List ByteArray)(b:Nat)(w:World)(hlen:∀x∈N,x.size≤maxLen)(hn:N.length≤1000)
  (hc:∀(w':World),Gr w w'→∀(i:Nat) (hi:i<N.length),Calls Tryz.prog 94 #[.int .i64 i,.pointer (some ⟨b,0,none⟩)] w' fun e w''=>e= .returned (.string N[i])∧w'=w''):
  Calls Tryz.prog 93 #[.int .i64 N.length,.func (.func 94) #[] #[.pointer (some ⟨b,0,none⟩)]] w fun e w'=>e= .returned (.bool (cN N))∧Gr w w':=by
 have hmm:=@run_makeMap Tryz.prog;have HC:=aA hc;have HLN:=aA hlen;clear hc hlen;go_enter Tryz.func93,Tryz.ntmps93
 go_wp2_with fail
 go_loopw [6,9] (fun _ x wr=>∃(i:Nat) (f:Value→Option Value),x= .int .i64 i∧i≤N.length∧Gr w wr∧aS Tryz.prog 9 wr w.heap.size i f∧Hid (lA (N.take i) f)∧Hid (∀p q (hp:p<N.length) (hq:q<p),p<i→N[p]≠N[q]'(by omega))) (fun _ x _=>N.length-(intOf x).toNat)
 case atStart=>exact⟨0,_,rfl,Nat.zero_le _,(Gr.refl _).alloc _,aS.made _ _ _,lA.nil,fun p q _ _ h=>by omega⟩
 case round=>
  obtain⟨i,f,rfl,hi,g,hm,HS,HA⟩:=hrel;have HM:=aA hm;clear hm;by_cases hlt:i<N.length
  ·have i1:(i:Int)<(N.length:Int):=by omega
   have HCI:=aA (fun w' (h:Gr w w')=>HC.out w' h i hlt);have hsz:=HLN.out _ (List.getElem_mem hlt);have hkey:=keyOf_string_mk (P:=Tryz.prog) Tryz.underlying9 hsz;have hlk:=HM.out.lookup jT Tryz.underlying195 (iI _) hkey;have HY:Hid (N[i]∈N.take i→cN N=true):=by
    intro h;obtain⟨k,hk,e⟩:=List.mem_iff_getElem.1 h;have hk':k<i:=by simp at hk;omega
    rw[List.getElem_take] at e;exact oF hlt hk' e.symm
   have HA':Hid (N[i]∉N.take i→∀p q (hp:p<N.length) (hq:q<p),p<i+1→N[p]≠N[q]'(by omega)):=by
    intro h p q hp hq hpi;by_cases e:p=i
    ·subst e;intro e2;exact h (by rw[e2];exact List.mem_iff_getElem.2 ⟨q,by simp;omega,by rw[List.getElem_take]⟩)
    ·exact HA.out p q hp hq (by omega)
   have HS':Hid (lA (N.take (i+1)) (put f (.string N[i]) (.bool true))):=by
    unfold Hid;rw[List.take_succ_eq_append_getElem hlt];exact HS.out.put _
   have HFX1:=aA (HS.out N[i]).1;have HFX2:=aA (HS.out N[i]).2;have HKY:=aA hkey;clear HA HS hsz hkey;generalize N[i]=x at *;by_cases hx:x∈N.take i
   ·have HR:=aA (HY.out hx);rw[HFX1.out hx] at hlk;simp only[Option.getD_some] at hlk;clear hx HY HA';go_wp2_with (go_at_call 94;(with_reducible refine(HCI.out _ g).mono ?_);rintro e w' ⟨rfl,rfl⟩)
    go_ret
    exact⟨aD HR.out.symm,g⟩
   ·have HA2:=aA (HA'.out hx);rw[HFX2.out hx] at hlk;simp only[Option.getD_none] at hlk;clear hx HY HA';go_wp2_with (first|(go_at_call 94;(with_reducible refine(HCI.out _ g).mono ?_);rintro e w' ⟨rfl,rfl⟩)|(at_mapUpdate;refine gX _ rfl _ _ _ 195 rfl jT Tryz.underlying195 rfl HM.out (by unfold maxLen;omega) _ _ _ rfl rfl HKY.out ?_;intro w2 hm2 hg2))
    have g2:Gr w w2:=Gr.grownM g hg2 (Nat.le_refl _);go_roundw
    case rel=>exact⟨i+1,_,by go_num,by omega,g2,hm2,HS'.out,HA2.out⟩
    case measure=>simp[intOf];omega
  ·have HR:=aA (rC fun p q hp hq=>HA.out p q hp hq (by omega));clear HA;go_wp2
   go_ret
   exact⟨aD HR.out.symm,g⟩
theorem Gb(w:World)(P:Pln)(b:Nat)(av:Option Addr)(cv:Nat)(x0 x1 x2 x3:Value)(hx:bZ w b P x0 x1 x2 x3)(hs:x2= .slice av P.ss.length cv)(hi:iM w (.slice av P.ss.length cv) P.ss)(hl:P.ss.length≤1000)(i:Nat)(hlt:i<P.ss.length):
  Calls Tryz.prog 95 #[.int .i64 i,.pointer (some ⟨b,0,none⟩)] w fun e w'=>e= .returned (.string P.ss[i].n)∧w=w':=by
 subst hs;obtain⟨hb,-,-,d2,-⟩:=hx;obtain⟨b2,o,rfl,zs,y0,-,-,-⟩:=hi.at i hlt;have i1:(i:Int)<(P.ss.length:Int):=by omega
 generalize P.ss[i].n=nm at *;go_enter Tryz.func95,Tryz.ntmps95
 go_wp2
 go_ret
 exact⟨rfl,rfl⟩
theorem Er(N:List ByteArray)(b:Nat)(w:World)(hlen:∀x∈N,x.size≤maxLen)(hn:N.length≤1000)
  (hc:∀(w':World),Gr w w'→∀(i:Nat) (hi:i<N.length),Calls Tryz.prog 95 #[.int .i64 i,.pointer (some ⟨b,0,none⟩)] w' fun e w''=>e= .returned (.string N[i])∧w'=w''):
  Calls Tryz.prog 93 #[.int .i64 N.length,.func (.func 95) #[] #[.pointer (some ⟨b,0,none⟩)]] w fun e w'=>e= .returned (.bool (cN N))∧Gr w w':=by
 have hmm:=@run_makeMap Tryz.prog;have HC:=aA hc;have HLN:=aA hlen;clear hc hlen;go_enter Tryz.func93,Tryz.ntmps93
 go_wp2_with fail
 go_loopw [6,9] (fun _ x wr=>∃(i:Nat) (f:Value→Option Value),x= .int .i64 i∧i≤N.length∧Gr w wr∧aS Tryz.prog 9 wr w.heap.size i f∧Hid (lA (N.take i) f)∧Hid (∀p q (hp:p<N.length) (hq:q<p),p<i→N[p]≠N[q]'(by omega))) (fun _ x _=>N.length-(intOf x).toNat)
 case atStart=>exact⟨0,_,rfl,Nat.zero_le _,(Gr.refl _).alloc _,aS.made _ _ _,lA.nil,fun p q _ _ h=>by omega⟩
 case round=>
  obtain⟨i,f,rfl,hi,g,hm,HS,HA⟩:=hrel;have HM:=aA hm;clear hm;by_cases hlt:i<N.length
  ·have i1:(i:Int)<(N.length:Int):=by omega
   have HCI:=aA (fun w' (h:Gr w w')=>HC.out w' h i hlt);have hsz:=HLN.out _ (List.getElem_mem hlt);have hkey:=keyOf_string_mk (P:=Tryz.prog) Tryz.underlying9 hsz;have hlk:=HM.out.lookup jT Tryz.underlying195 (iI _) hkey;have HY:Hid (N[i]∈N.take i→cN N=true):=by
    intro h;obtain⟨k,hk,e⟩:=List.mem_iff_getElem.1 h;have hk':k<i:=by simp at hk;omega
    rw[List.getElem_take] at e;exact oF hlt hk' e.symm
   have HA':Hid (N[i]∉N.take i→∀p q (hp:p<N.length) (hq:q<p),p<i+1→N[p]≠N[q]'(by omega)):=by
    intro h p q hp hq hpi;by_cases e:p=i
    ·subst e;intro e2;exact h (by rw[e2];exact List.mem_iff_getElem.2 ⟨q,by simp;omega,by rw[List.getElem_take]⟩)
    ·exact HA.out p q hp hq (by omega)
   have HS':Hid (lA (N.take (i+1)) (put f (.string N[i]) (.bool true))):=by
    unfold Hid;rw[List.take_succ_eq_append_getElem hlt];exact HS.out.put _
   have HFX1:=aA (HS.out N[i]).1;have HFX2:=aA (HS.out N[i]).2;have HKY:=aA hkey;clear HA HS hsz hkey;generalize N[i]=x at *;by_cases hx:x∈N.take i
   ·have HR:=aA (HY.out hx);rw[HFX1.out hx] at hlk;simp only[Option.getD_some] at hlk;clear hx HY HA';go_wp2_with (go_at_call 95;(with_reducible refine(HCI.out _ g).mono ?_);rintro e w' ⟨rfl,rfl⟩)
    go_ret
    exact⟨aD HR.out.symm,g⟩
   ·have HA2:=aA (HA'.out hx);rw[HFX2.out hx] at hlk;simp only[Option.getD_none] at hlk;clear hx HY HA';go_wp2_with (first|(go_at_call 95;(with_reducible refine(HCI.out _ g).mono ?_);rintro e w' ⟨rfl,rfl⟩)|(at_mapUpdate;refine gX _ rfl _ _ _ 195 rfl jT Tryz.underlying195 rfl HM.out (by unfold maxLen;omega) _ _ _ rfl rfl HKY.out ?_;intro w2 hm2 hg2))
    have g2:Gr w w2:=Gr.grownM g hg2 (Nat.le_refl _);go_roundw
    case rel=>exact⟨i+1,_,by go_num,by omega,g2,hm2,HS'.out,HA2.out⟩
    case measure=>simp[intOf];omega
  ·have HR:=aA (rC fun p q hp hq=>HA.out p q hp hq (by omega));clear HA;go_wp2
   go_ret
   exact⟨aD HR.out.symm,g⟩
theorem Ib(w:World)(P:Pln)(b:Nat)(av:Option Addr)(cv:Nat)(x0 x1 x2 x3:Value)(hx:bZ w b P x0 x1 x2 x3)(hs:x3= .slice av P.ls.length cv)(hi:lI w (.slice av P.ls.length cv) P.ls)(hl:P.ls.length≤1000)(i:Nat)(hlt:i<P.ls.length):
  Calls Tryz.prog 96 #[.int .i64 i,.pointer (some ⟨b,0,none⟩)] w fun e w'=>e= .returned (.string P.ls[i].n)∧w=w':=by
 subst hs;obtain⟨hb,-,-,-,d3,-⟩:=hx;obtain⟨b2,o,u,rfl,zs,y0,-,-⟩:=hi.at i hlt;have i1:(i:Int)<(P.ls.length:Int):=by omega
 generalize P.ls[i].n=nm at *;go_enter Tryz.func96,Tryz.ntmps96
 go_wp2
 go_ret
 exact⟨rfl,rfl⟩
theorem Dc(N:List ByteArray)(b:Nat)(w:World)(hlen:∀x∈N,x.size≤maxLen)(hn:N.length≤1000)
  (hc:∀(w':World),Gr w w'→∀(i:Nat) (hi:i<N.length),Calls Tryz.prog 96 #[.int .i64 i,.pointer (some ⟨b,0,none⟩)] w' fun e w''=>e= .returned (.string N[i])∧w'=w''):
  Calls Tryz.prog 93 #[.int .i64 N.length,.func (.func 96) #[] #[.pointer (some ⟨b,0,none⟩)]] w fun e w'=>e= .returned (.bool (cN N))∧Gr w w':=by
 have hmm:=@run_makeMap Tryz.prog;have HC:=aA hc;have HLN:=aA hlen;clear hc hlen;go_enter Tryz.func93,Tryz.ntmps93
 go_wp2_with fail
 go_loopw [6,9] (fun _ x wr=>∃(i:Nat) (f:Value→Option Value),x= .int .i64 i∧i≤N.length∧Gr w wr∧aS Tryz.prog 9 wr w.heap.size i f∧Hid (lA (N.take i) f)∧Hid (∀p q (hp:p<N.length) (hq:q<p),p<i→N[p]≠N[q]'(by omega))) (fun _ x _=>N.length-(intOf x).toNat)
 case atStart=>exact⟨0,_,rfl,Nat.zero_le _,(Gr.refl _).alloc _,aS.made _ _ _,lA.nil,fun p q _ _ h=>by omega⟩
 case round=>
  obtain⟨i,f,rfl,hi,g,hm,HS,HA⟩:=hrel;have HM:=aA hm;clear hm;by_cases hlt:i<N.length
  ·have i1:(i:Int)<(N.length:Int):=by omega
   have HCI:=aA (fun w' (h:Gr w w')=>HC.out w' h i hlt);have hsz:=HLN.out _ (List.getElem_mem hlt);have hkey:=keyOf_string_mk (P:=Tryz.prog) Tryz.underlying9 hsz;have hlk:=HM.out.lookup jT Tryz.underlying195 (iI _) hkey;have HY:Hid (N[i]∈N.take i→cN N=true):=by
    intro h;obtain⟨k,hk,e⟩:=List.mem_iff_getElem.1 h;have hk':k<i:=by simp at hk;omega
    rw[List.getElem_take] at e;exact oF hlt hk' e.symm
   have HA':Hid (N[i]∉N.take i→∀p q (hp:p<N.length) (hq:q<p),p<i+1→N[p]≠N[q]'(by omega)):=by
    intro h p q hp hq hpi;by_cases e:p=i
    ·subst e;intro e2;exact h (by rw[e2];exact List.mem_iff_getElem.2 ⟨q,by simp;omega,by rw[List.getElem_take]⟩)
    ·exact HA.out p q hp hq (by omega)
   have HS':Hid (lA (N.take (i+1)) (put f (.string N[i]) (.bool true))):=by
    unfold Hid;rw[List.take_succ_eq_append_getElem hlt];exact HS.out.put _
   have HFX1:=aA (HS.out N[i]).1;have HFX2:=aA (HS.out N[i]).2;have HKY:=aA hkey;clear HA HS hsz hkey;generalize N[i]=x at *;by_cases hx:x∈N.take i
   ·have HR:=aA (HY.out hx);rw[HFX1.out hx] at hlk;simp only[Option.getD_some] at hlk;clear hx HY HA';go_wp2_with (go_at_call 96;(with_reducible refine(HCI.out _ g).mono ?_);rintro e w' ⟨rfl,rfl⟩)
    go_ret
    exact⟨aD HR.out.symm,g⟩
   ·have HA2:=aA (HA'.out hx);rw[HFX2.out hx] at hlk;simp only[Option.getD_none] at hlk;clear hx HY HA';go_wp2_with (first|(go_at_call 96;(with_reducible refine(HCI.out _ g).mono ?_);rintro e w' ⟨rfl,rfl⟩)|(at_mapUpdate;refine gX _ rfl _ _ _ 195 rfl jT Tryz.underlying195 rfl HM.out (by unfold maxLen;omega) _ _ _ rfl rfl HKY.out ?_;intro w2 hm2 hg2))
    have g2:Gr w w2:=Gr.grownM g hg2 (Nat.le_refl _);go_roundw
    case rel=>exact⟨i+1,_,by go_num,by omega,g2,hm2,HS'.out,HA2.out⟩
    case measure=>simp[intOf];omega
  ·have HR:=aA (rC fun p q hp hq=>HA.out p q hp hq (by omega));clear HA;go_wp2
   go_ret
   exact⟨aD HR.out.symm,g⟩
end Go.Proofs.YthkbcablnpbmgaaGreatDoor
