/- Helps of the proof of ChartWord. -/
import Derived.Test.YthkbcablnpbmgaaGreatDoorRows
import Derived.Test.YthkbcablnpbmgaaGreatDoorW12
import Derived.Test.YthkbcablnpbmgaaGreatDoorW9
import Derived.Test.YthkbcablnpbmgaaGreatDoorW11
import Derived.Deep.RegionWith
import Derived.Deep.Cut
import Derived.Deep.CutRange
import Derived.Deep.DrawnRows
import Derived.BigRegion
set_option linter.unusedVariables false
set_option linter.unusedSimpArgs false
set_option maxHeartbeats 6000000
set_option maxRecDepth 100000
namespace Go.Proofs.YthkbcablnpbmgaaGreatDoor
open Go.ChangeShapes Go.WideShapes Go.ChangeAt Go.RowKit Go.Maps
attribute [local go_sem ↓] Go.wp_at_zero Go.wp_at_succ
theorem Ml(v:Value)(P:Pln)(w:World)(hP:aI w v P)(hn:P.es.length≤1000∧P.js.length≤1000∧P.ss.length≤1000∧P.ls.length≤1000)(hnl:∀l∈P.ls,l.es.length≤1000):
  Calls Tryz.prog 47 #[v] w fun e w'=>∃v',e= .returned v'∧aI w' v' P∧Gr w w':=by
 obtain⟨a1,c1,a2,c2,a3,c3,a4,c4,rfl,h1,h2,h3,h4⟩:=hP;have H1:=aA h1;have H2:=aA h2;have H3:=aA h3;have HC1:=aA (fun w' (h:Gr w w')=>oV _ _ _ w' (h1.gr h) (fun i j=>Ez _ _) (by omega));have HC2:=aA (fun w' (h:Gr w w')=>pC _ _ _ w' (h2.gr h) (fun i j=>Mi _ _) (by omega));have HC3:=aA (fun w' (h:Gr w w')=>mM _ _ _ w' (h3.gr h) (fun i j=>Je _ _) (by omega));have HB:=aA (dG w P (.slice a1 P.es.length c1) (.slice a2 P.js.length c2) (.slice a3 P.ss.length c3) (.slice a4 P.ls.length c4));have hw0:=dW w P (.slice a1 P.es.length c1) (.slice a2 P.js.length c2) (.slice a3 P.ss.length c3) (.slice a4 P.ls.length c4);clear h1 h2 h3;unfold aX;go_enter Tryz.func47,Tryz.ntmps47
 go_upto_region 1 with (fail)
 have hW2:Gr w ((w.alloc (.cells #[.slice a1 P.es.length c1,.slice a2 P.js.length c2,.slice a3 P.ss.length c3,.slice a4 P.ls.length c4,.int .i64 P.top,.int .i64 P.brake,.int .i64 P.margin,.int .i64 P.throw,.bool P.hard] 27)).alloc (.cells #[.slice none 0 0,.slice none 0 0,.slice none 0 0,.slice none 0 0,.int .i64 0,.int .i64 0,.int .i64 0,.int .i64 0,.bool false] 27)):=hw0.alloc _;have HBX:Hid (∀w',Gr ((w.alloc (.cells #[.slice a1 P.es.length c1,.slice a2 P.js.length c2,.slice a3 P.ss.length c3,.slice a4 P.ls.length c4,.int .i64 P.top,.int .i64 P.brake,.int .i64 P.margin,.int .i64 P.throw,.bool P.hard] 27)).alloc (.cells #[.slice none 0 0,.slice none 0 0,.slice none 0 0,.slice none 0 0,.int .i64 0,.int .i64 0,.int .i64 0,.int .i64 0,.bool false] 27)) w'→bZ w' w.heap.size P (.slice a1 P.es.length c1) (.slice a2 P.js.length c2) (.slice a3 P.ss.length c3) (.slice a4 P.ls.length c4)∧w'.frozen? ⟨w.heap.size,0,none⟩=false∧w'.frozen? ⟨w.heap.size,1,none⟩=false∧w'.frozen? ⟨w.heap.size,2,none⟩=false∧w'.frozen? ⟨w.heap.size,3,none⟩=false):=by
  intro w' h;have hz:w.heap.size<(((w.alloc (.cells #[.slice a1 P.es.length c1,.slice a2 P.js.length c2,.slice a3 P.ss.length c3,.slice a4 P.ls.length c4,.int .i64 P.top,.int .i64 P.brake,.int .i64 P.margin,.int .i64 P.throw,.bool P.hard] 27)).alloc (.cells #[.slice none 0 0,.slice none 0 0,.slice none 0 0,.slice none 0 0,.int .i64 0,.int .i64 0,.int .i64 0,.int .i64 0,.bool false] 27))).heap.size:=by simp;omega
  refine⟨(HB.out.gr ((Gr.refl _).alloc _)).gr h,?_,?_,?_,?_⟩<;>exact(h.frozen _ _ hz).trans (by simp)
 have HW3:Hid (bZ ((w.alloc (.cells #[.slice a1 P.es.length c1,.slice a2 P.js.length c2,.slice a3 P.ss.length c3,.slice a4 P.ls.length c4,.int .i64 P.top,.int .i64 P.brake,.int .i64 P.margin,.int .i64 P.throw,.bool P.hard] 27)).alloc (.cells #[.slice none 0 0,.slice none 0 0,.slice none 0 0,.slice none 0 0,.int .i64 0,.int .i64 0,.int .i64 0,.int .i64 0,.bool false] 27)) w.heap.size P (.slice a1 P.es.length c1) (.slice a2 P.js.length c2) (.slice a3 P.ss.length c3) (.slice a4 P.ls.length c4)∧eP ((w.alloc (.cells #[.slice a1 P.es.length c1,.slice a2 P.js.length c2,.slice a3 P.ss.length c3,.slice a4 P.ls.length c4,.int .i64 P.top,.int .i64 P.brake,.int .i64 P.margin,.int .i64 P.throw,.bool P.hard] 27)).alloc (.cells #[.slice none 0 0,.slice none 0 0,.slice none 0 0,.slice none 0 0,.int .i64 0,.int .i64 0,.int .i64 0,.int .i64 0,.bool false] 27)) w.heap.size∧(((w.alloc (.cells #[.slice a1 P.es.length c1,.slice a2 P.js.length c2,.slice a3 P.ss.length c3,.slice a4 P.ls.length c4,.int .i64 P.top,.int .i64 P.brake,.int .i64 P.margin,.int .i64 P.throw,.bool P.hard] 27)).alloc (.cells #[.slice none 0 0,.slice none 0 0,.slice none 0 0,.slice none 0 0,.int .i64 0,.int .i64 0,.int .i64 0,.int .i64 0,.bool false] 27))).heap.size=w.heap.size+2∧(∀o,o<9→∃u,(((w.alloc (.cells #[.slice a1 P.es.length c1,.slice a2 P.js.length c2,.slice a3 P.ss.length c3,.slice a4 P.ls.length c4,.int .i64 P.top,.int .i64 P.brake,.int .i64 P.margin,.int .i64 P.throw,.bool P.hard] 27)).alloc (.cells #[.slice none 0 0,.slice none 0 0,.slice none 0 0,.slice none 0 0,.int .i64 0,.int .i64 0,.int .i64 0,.int .i64 0,.bool false] 27))).cell? ⟨w.heap.size+1,o,none⟩=some u)∧eP ((w.alloc (.cells #[.slice a1 P.es.length c1,.slice a2 P.js.length c2,.slice a3 P.ss.length c3,.slice a4 P.ls.length c4,.int .i64 P.top,.int .i64 P.brake,.int .i64 P.margin,.int .i64 P.throw,.bool P.hard] 27)).alloc (.cells #[.slice none 0 0,.slice none 0 0,.slice none 0 0,.slice none 0 0,.int .i64 0,.int .i64 0,.int .i64 0,.int .i64 0,.bool false] 27)) (w.heap.size+1)):=by
  refine⟨HB.out.gr ((Gr.refl _).alloc _),(eP.new _ _ _).gr ((Gr.refl _).alloc _) (by simp),by simp,fun o ho=>?_,?_⟩
  ·have h9:=E4 27 (w.alloc (.cells #[.slice a1 P.es.length c1,.slice a2 P.js.length c2,.slice a3 P.ss.length c3,.slice a4 P.ls.length c4,.int .i64 P.top,.int .i64 P.brake,.int .i64 P.margin,.int .i64 P.throw,.bool P.hard] 27)) o ho;simpa using h9
  ·have:=eP.new (w.alloc (.cells #[.slice a1 P.es.length c1,.slice a2 P.js.length c2,.slice a3 P.ss.length c3,.slice a4 P.ls.length c4,.int .i64 P.top,.int .i64 P.brake,.int .i64 P.margin,.int .i64 P.throw,.bool P.hard] 27)) #[.slice none 0 0,.slice none 0 0,.slice none 0 0,.slice none 0 0,.int .i64 0,.int .i64 0,.int .i64 0,.int .i64 0,.bool false] 27;simpa using this
 go_cut [] from 4 (fun wc=>Tw1 w P (.slice a4 P.ls.length c4) wc)
 case first=>
  go_region_with (first|(go_at_call 101;(with_reducible refine(HC1.out _ ?_).mono ?_);(exact hW2.trans (Gr.refl _).drew);rintro e w6 ⟨v1,rfl,h6,o6⟩;obtain⟨x6,y6,rfl⟩:=aC o6;have k6:=((Gr.refl _).drew).trans h6;obtain⟨⟨zb6,d06,d16,d26,d36,d46,d56,d66,d76,d86⟩,f06,f16,f26,f36⟩:=HBX.out _ k6)|(go_at_call 102;(with_reducible refine(HC2.out _ ?_).mono ?_);(exact hW2.trans k6);rintro e w9 ⟨v2,rfl,h9,o9⟩;obtain⟨x9,y9,rfl⟩:=aC o9;have k9:=(k6).trans h9;obtain⟨⟨zb9,d09,d19,d29,d39,d49,d59,d69,d79,d89⟩,f09,f19,f29,f39⟩:=HBX.out _ k9)|(go_at_call 103;(with_reducible refine(HC3.out _ ?_).mono ?_);(exact hW2.trans k9);rintro e w12 ⟨v3,rfl,h12,o12⟩;obtain⟨x12,y12,rfl⟩:=aC o12;have k12:=(k9).trans h12;obtain⟨⟨zb12,d012,d112,d212,d312,d412,d512,d612,d712,d812⟩,f012,f112,f212,f312⟩:=HBX.out _ k12))
  all_goals
   go_wp2_with fail
   go_meet
   case rel=>exact K0 hW2 HW3.out.1 HW3.out.2.1 HW3.out.2.2.1 HW3.out.2.2.2.1 HW3.out.2.2.2.2 k6 h9 h12 (aQ o6 (by simp)) o9 o12 (by omega)
 case rest=>
  obtain⟨v1,v2,v3,gA,bA,fA,rA,cA,ffA,i1,i2,i3⟩:=hcut;clear HC1 HC2 HC3 HB HBX HW3 H1 H2 H3 hW2 hw0;have h4':=h4;obtain⟨S,hS1,hr4,hS4⟩:=h4.one;have HC4:=aA (oW _ _ _ wc (hr4.gr gA) hS1 (by omega));have hl4:=hr4.len;have HTS:=aA (fun(w5:World) (v4:Value) (g5:Gr wc w5) (o5:w5.ownsRow wc.heap.size 59 2 v4 P.ls.length (gZ 2 P.ls.length fun i j=>if j=0 then .string (P.ls.getD i default).n else S i))=>Cc gA bA rA cA ffA i1 i2 i3 g5 o5 hS4 hl4);have HBG:=aA (fun(w5:World) (g5:Gr wc w5)=>And.intro (bA.gr g5) (fA.gr g5 (by omega) 3 (by omega)));obtain⟨zA,b0,b1,b2,b3,b4,b5,b6,b7,b8⟩:=id bA;clear h4 h4' hr4 hS4 hS1 i1 i2 i3 cA ffA fA b0 b1 b2 b4 b5 b6 b7 b8;go_upto_region 3 with (first|(go_at_call 104;(with_reducible refine(HC4.out).mono ?_);rintro e w5 ⟨v4,rfl,h5,o5⟩;obtain⟨x5,y5,rfl⟩:=aC o5;obtain⟨⟨zb5,d05,d15,d25,d35,d45,d55,d65,d75,d85⟩,f35⟩:=HBG.out _ h5))
  obtain⟨g4,hT⟩:=HTS.out _ _ h5 o5;generalize hwr:w5.setCell ⟨w.heap.size,3,none⟩ (.slice x5 P.ls.length y5)=wr0 at hT ⊢;have hb:=hT.box;obtain⟨z0,b0,b1,b2,b3,b4,b5,b6,b7,b8⟩:=hb;have w1000:P.ls.length≤1000:=by omega
  obtain⟨p1,q1,rfl,-⟩:=id hT.i1;obtain⟨p2,q2,rfl,-⟩:=id hT.i2;obtain⟨p3,q3,rfl,-⟩:=id hT.i3;clear h5 o5 zb5 d05 d15 d25 d35 d45 d55 d65 d75 d85 f35 hwr HTS HBG HC4 gA bA;go_wp2_with fail
  clear z0 b0 b1 b2 b3 b4 b5 b6 b7 b8;go_loopw [23] (fun i wr=>∃k:Nat,i= .int .i64 k∧k≤P.ls.length∧TwL w P (.slice p1 P.es.length q1) (.slice p2 P.js.length q2) (.slice p3 P.ss.length q3) (.slice x5 P.ls.length y5) wc.heap.size g4 wr) (fun i _=>P.ls.length-(intOf i).toNat)
  case atStart=>exact⟨0,rfl,Nat.zero_le _,hT⟩
  case round=>
   obtain⟨k,rfl,hk,h⟩:=hrel;clear hT;have HT:=aA h;have hb:=h.box;obtain⟨z0,b0,b1,b2,b3,b4,b5,b6,b7,b8⟩:=hb;by_cases hlt:k<P.ls.length
   ·have hk1:(k:Int)<(P.ls.length:Int):=by omega
    obtain⟨ca,cb,cc,u,cd,ce⟩:=h.ln k hlt;have hx5:x5=some ⟨g4,0,none⟩:=by
     obtain⟨c,_,hx⟩:=h.v4;rcases hx with⟨h0,_⟩|hx
     ·omega
     ·injection hx
    subst hx5;have hkl:=hnl _ (List.getElem_mem hlt);have hkm:P.ls[k].es.length≤maxLen:=by unfold maxLen;omega
    have HCI:=aA (fun w' (g:Gr wr w')=>qB _ _ _ w' ((ce.vals.row1).gr g) (fun _ _=>rfl) (by omega));have HG:=aA (fun w6 (g:Gr wr w6)=>And.intro (HT.out.grow g).box ((HT.out.grow g).ln k hlt));clear h ca ce;go_upto_region 6 with (fail)
    go_region_with (first|(go_at_call 105;(with_reducible refine(HCI.out _ ?_).mono ?_);(exact(Gr.refl _).drew);rintro e w6 ⟨v6,rfl,g6,o6⟩;obtain⟨x6,y6,rfl⟩:=aC o6;have g7:=(Gr.refl wr).drew.trans g6;obtain⟨⟨z6,e0,e1,e2,e3,e4,e5,e6,e7,e8⟩,ca6,cb6,cc6,u6,cd6,ce6⟩:=HG.out _ g7))
    all_goals
     go_wp2_with fail
     go_roundw
     case rel=>exact⟨k+1,by go_num,hlt,HT.out.step g7 hlt (by simpa using o6) hkm⟩
     case measure=>simp[intOf];omega
   ·have hk1:¬(k:Int)<(P.ls.length:Int):=by omega
    obtain⟨r0,hr0⟩:=h.rc 0 (by omega);obtain⟨r1,hr1⟩:=h.rc 1 (by omega);obtain⟨r2,hr2⟩:=h.rc 2 (by omega);obtain⟨r3,hr3⟩:=h.rc 3 (by omega);obtain⟨r4,hr4⟩:=h.rc 4 (by omega);obtain⟨r5,hr5⟩:=h.rc 5 (by omega);obtain⟨r6,hr6⟩:=h.rc 6 (by omega);obtain⟨r7,hr7⟩:=h.rc 7 (by omega);obtain⟨r8,hr8⟩:=h.rc 8 (by omega);have f0:=h.rf 0 (by omega);have f1:=h.rf 1 (by omega);have f2:=h.rf 2 (by omega);have f3:=h.rf 3 (by omega);have f4:=h.rf 4 (by omega);have f5:=h.rf 5 (by omega);have f6:=h.rf 6 (by omega);have f7:=h.rf 7 (by omega);have f8:=h.rf 8 (by omega);clear h;go_wp2_with fail
    have hfar:Far (w.heap.size+1) wr _:=(((((((((Far.refl _ wr).set 0 (.slice p1 P.es.length q1)).set 1 (.slice p2 P.js.length q2)).set 2 (.slice p3 P.ss.length q3)).set 3 (.slice x5 P.ls.length y5)).set 4 (.int .i64 P.top)).set 5 (.int .i64 P.brake)).set 6 (.int .i64 P.margin)).set 7 (.int .i64 P.throw)).set 8 (.bool P.hard);refine bodyPost_ret (v:=aX P (.slice p1 P.es.length q1) (.slice p2 P.js.length q2) (.slice p3 P.ss.length q3) (.slice x5 P.ls.length y5)) (by simp[results,Tryz.results47,go_sem,hr0,hr1,hr2,hr3,hr4,hr5,hr6,hr7,hr8,aX]) rfl ⟨_,rfl,HT.out.done hfar,?_⟩;have g:=HT.out.gr
    iterate 9 refine Gr.setCell ?_ (by show w.heap.size≤w.heap.size+1;omega) _
    exact g
end Go.Proofs.YthkbcablnpbmgaaGreatDoor
namespace Go.Proofs.YthkbcablnpbmgaaGreatDoor
open Go.ChangeShapes Go.WideShapes Go.ChangeAt Go.RowKit Go.Maps
attribute [local go_sem ↓] Go.wp_at_zero Go.wp_at_succ
def Pb(P:Pln)(w:World)(e:Ending)(w':World):Prop:=
 Gr w w'∧((chk P=0∧∃b,e= .returned (.tuple #[.pointer (some ⟨b,0,none⟩),.int .i64 0])∧eR w' b P)∨(chk P≠0∧e= .returned (.tuple #[.pointer none,.int .i64 (chk P)])))
theorem Mx(v:Value)(P:Pln)(w:World)(hP:aI w v P)(hk:fN P)(hf:iC P=true):
  Calls Tryz.prog 21 #[v] w (Pb P w):=by
 have hbd:=zM hf;have HCK:=aA (fun(v':Value) (w':World) (h:aI w' v' P)=>Io v' P w' h hk (by have:=vZ hf;omega));have HTW:=aA (fun(v':Value) (w':World) (h:aI w' v' P)=>Ml v' P w' h (by omega) (fun l hl=>by have:=(hbd.2.2.2.2.1 l hl).1;omega));have HPI:=aA hP;obtain⟨a1,c1,a2,c2,a3,c3,a4,c4,rfl,h1,h2,h3,h4⟩:=hP;have H2:=aA h2;have H3:=aA h3;have H4:=aA h4;have HB:=aA (dG w P (.slice a1 P.es.length c1) (.slice a2 P.js.length c2) (.slice a3 P.ss.length c3) (.slice a4 P.ls.length c4));have hw0:=dW w P (.slice a1 P.es.length c1) (.slice a2 P.js.length c2) (.slice a3 P.ss.length c3) (.slice a4 P.ls.length c4);clear h1 h2 h3 h4;unfold aX at HPI ⊢;go_enter Tryz.func21,Tryz.ntmps21
 go_upto_region 2 with (first|(go_at_call 46;(with_reducible refine(HCK.out _ _ (HPI.out.gr ((Gr.refl w).alloc _))).mono ?_);rintro e w1 ⟨rfl,g1⟩))
 have gw1:Gr w w1:=hw0.trans g1;have hb1:=HB.out.gr g1;obtain⟨zb1,d0,d1,d2,d3,d4,d5,d6,d7,d8⟩:=hb1;generalize hck:chk P=ck at *;by_cases h0:ck=0
 ·subst h0;go_upto_region 4 with (fail)
  have um1:=Tryz.underlying99;have um2:=Tryz.underlying100;have um3:=Tryz.underlying101;have um4:=Tryz.underlying102;go_upto_region 5 with (first|(go_at_call 47;(with_reducible refine(HTW.out _ _ (HPI.out.gr gw1)).mono ?_);rintro e w2 ⟨v',rfl,hv2,g2⟩;obtain⟨p1,q1,p2,q2,p3,q3,p4,q4,rfl,-⟩:=id hv2;unfold aX;obtain⟨wa,wb,wc,wd,m1,m2,m3,m4,hsd,gd,hm1,hm2,hm3,hm4⟩:=F8 w2))
  have HN0:=iV.start (P:=P) (v1:=.slice p1 P.es.length q1) (v2:=.slice p2 P.js.length q2) (v3:=.slice p3 P.ss.length q3) (v4:=.slice p4 P.ls.length q4) hsd gd hm1 hm2 hm3 hm4;have gx:=HN0.gr;generalize hwx:wd.alloc (.cells #[.slice p1 P.es.length q1,.slice p2 P.js.length q2,.slice p3 P.ss.length q3,.slice p4 P.ls.length q4,.int .i64 P.top,.int .i64 P.brake,.int .i64 P.margin,.int .i64 P.throw,.bool P.hard,.map (some w2.heap.size),.map (some (w2.heap.size+1)),.map (some (w2.heap.size+2)),.map (some (w2.heap.size+3))] 104)=wx at *;have HBW:=aA (fun(w':World) (g:Gr w2 w')=>HB.out.gr ((g1.trans g2).trans g));have HGW:=aA (fun(w':World) (g:Gr w2 w')=>(gw1.trans g2).trans g);have hz2:w.heap.size<w2.heap.size:=Nat.lt_of_lt_of_le zb1 g2.size;have HV2:=aA hv2;have HKJ:=aA hk.js;have HKS:=aA hk.ss;clear hwx hm1 hm2 hm3 hm4 m1 m2 m3 m4 hsd gd hv2 zb1 d0 d1 d2 d3 d4 d5 d6 d7 d8 HTW;obtain⟨zb,b0,b1,b2,b3,b4,b5,b6,b7,b8⟩:=HBW.out _ gx;go_wp2_with fail
  clear zb b0 b1 b2 b3 b4 b5 b6 b7 b8;have HN:=aA HN0;clear HN0 gx;go_loopw [33] (fun i wr=>∃(k n:Nat) (f:Value→Option Value),i= .int .i64 k∧k≤P.js.length∧n≤2*k∧Hid (iV w2 P (.slice p1 P.es.length q1) (.slice p2 P.js.length q2) (.slice p3 P.ss.length q3) (.slice p4 P.ls.length q4) n f 0 (fun _=>none) 0 (fun _=>none) 0 (fun _=>none) wr)∧Hid (FnL (P.js.take k) f)) (fun i _=>P.js.length-(intOf i).toNat)
  case atStart=>exact⟨0,0,_,rfl,Nat.zero_le _,Nat.zero_le _,HN,FnL.nil⟩
  case round=>
   obtain⟨k,n,f,rfl,hkl,hnk,HNW,HF⟩:=hrel;have hb:=HBW.out _ HNW.out.gr;obtain⟨zb,b0,b1,b2,b3,b4,b5,b6,b7,b8⟩:=hb;have hj2:=H2.out.gr (HGW.out _ HNW.out.gr);by_cases hlt:k<P.js.length
   ·have hk1:(k:Int)<(P.js.length:Int):=by omega
    obtain⟨b,o,hsome,zs,y0,y1,y2,y3⟩:=hj2.at k hlt;subst hsome;have HR1:=aA (D3 hck k hlt HF.out);have HKJk:=HKJ.out _ (List.getElem_mem hlt);obtain⟨q,hq⟩:∃q,q=P.js[k]:=⟨_,rfl⟩;rw[←hq] at y0 y1 y2 y3 HR1 HKJk;clear hq;obtain⟨⟨ae,ax⟩,⟨be,bx⟩⟩:=q;dsimp only at y0 y1 y2 y3 HR1 HKJk;go_upto_region 8 with (fail)
    have hpa:cI ⟨ae,ax⟩:=⟨HKJk.1,HKJk.2.1⟩;have hpb:cI ⟨be,bx⟩:=⟨HKJk.2.2.1,HKJk.2.2.2⟩;obtain⟨ka,hka⟩:=eK ⟨ae,ax⟩ hpa.1 hpa.2;obtain⟨kb,hkb⟩:=eK ⟨be,bx⟩ hpb.1 hpb.2;have hzr:=HNW.out.net.1;have x0:(wr.alloc (.cells #[.int .i64 ae,.int .i64 ax,.int .i64 be,.int .i64 bx] 94)).cell? ⟨wr.heap.size,0,none⟩=some (.int .i64 ae):=by rw[World.cell?_alloc_mark];rfl
    have x1:(wr.alloc (.cells #[.int .i64 ae,.int .i64 ax,.int .i64 be,.int .i64 bx] 94)).cell? ⟨wr.heap.size,1,none⟩=some (.int .i64 ax):=by rw[World.cell?_alloc_mark];rfl
    have x2:(wr.alloc (.cells #[.int .i64 ae,.int .i64 ax,.int .i64 be,.int .i64 bx] 94)).cell? ⟨wr.heap.size,2,none⟩=some (.int .i64 be):=by rw[World.cell?_alloc_mark];rfl
    have x3:(wr.alloc (.cells #[.int .i64 ae,.int .i64 ax,.int .i64 be,.int .i64 bx] 94)).cell? ⟨wr.heap.size,3,none⟩=some (.int .i64 bx):=by rw[World.cell?_alloc_mark];rfl
    have hzy:wr.heap.size<(wr.alloc (.cells #[.int .i64 ae,.int .i64 ax,.int .i64 be,.int .i64 bx] 94)).heap.size:=by simp
    have NY:=HNW.out.grow ((Gr.refl wr).alloc (.cells #[.int .i64 ae,.int .i64 ax,.int .i64 be,.int .i64 bx] 94));generalize wr.alloc (.cells #[.int .i64 ae,.int .i64 ax,.int .i64 be,.int .i64 bx] 94)=wy at x0 x1 x2 x3 hzy NY ⊢;generalize hbb:wr.heap.size=bb at x0 x1 x2 x3 hzy hzr ⊢;have hne:bb≠w2.heap.size:=by omega
    have hz4:=NY.net.1;have hne4:w2.heap.size+4≠w2.heap.size:=by omega
    have NY:=NY.grow ((Gr.refl wy).drew);obtain⟨e1,s1,w01,r1,gr1,-,-,st1⟩:=NY.nx.entry cT Tryz.underlying99 (by unfold maxLen;omega) yJ hka;obtain⟨w10,r2,mp1,gr2⟩:=st1 (.agg #[.int .i64 be,.int .i64 bx]);have N1:=NY.put1 mp1 gr2;obtain⟨e2,s2,w11,r3,gr3,-,-,st2⟩:=N1.nx.entry cT Tryz.underlying99 (by unfold maxLen;omega) yJ hkb;obtain⟨w20,r4,mp2,gr4⟩:=st2 (.agg #[.int .i64 ae,.int .i64 ax]);have N2:=aA (N1.put1 mp2 gr4);have z10:=Nat.lt_of_lt_of_le hzy gr2.size;have z104:=Nat.lt_of_lt_of_le hz4 gr2.size;have cy:=NY.c9;have c01:=(cQ (o:=9) gr1 hz4 hne4).trans cy;have c10:=(cQ (o:=9) gr2 hz4 hne4).trans cy;have c11:=(cQ (o:=9) gr3 z104 hne4).trans c10;have x001:=(cQ (o:=0) gr1 hzy hne).trans x0;have x101:=(cQ (o:=1) gr1 hzy hne).trans x1;have x201:=(cQ (o:=2) gr1 hzy hne).trans x2;have x301:=(cQ (o:=3) gr1 hzy hne).trans x3;have x010:=(cQ (o:=0) gr2 hzy hne).trans x0;have x110:=(cQ (o:=1) gr2 hzy hne).trans x1;have x210:=(cQ (o:=2) gr2 hzy hne).trans x2;have x310:=(cQ (o:=3) gr2 hzy hne).trans x3;have x011:=(cQ (o:=0) gr3 z10 hne).trans x010;have x111:=(cQ (o:=1) gr3 z10 hne).trans x110;have x211:=(cQ (o:=2) gr3 z10 hne).trans x210;have x311:=(cQ (o:=3) gr3 z10 hne).trans x310;unfold Prt.v at r1 r3;dsimp only at r1 r3;have HF':=aA HR1.out;clear st1 st2 mp1 mp2 N1 gr1 gr2 gr3 gr4 NY;go_region
    all_goals
     go_wp2_with fail
     go_roundw
     case rel=>exact⟨k+1,n+1+1,_,by go_num,hlt,by omega,N2,HR1⟩
     case measure=>simp[intOf];omega
   ·have hk1:¬(k:Int)<(P.js.length:Int):=by omega
    have ekl:k=P.js.length:=by omega
    have HF1:Hid (FnL P.js f):=by have:=HF.out;rwa [ekl,List.take_length] at this
    clear HF;have hn1:n≤1000:=by omega
    clear hj2;go_wp2_with fail
    clear zb b0 b1 b2 b3 b4 b5 b6 b7 b8;go_loopw [61] (fun i wr=>∃(k2 n2:Nat) (f2:Value→Option Value),i= .int .i64 k2∧k2≤P.ss.length∧n2≤k2∧Hid (iV w2 P (.slice p1 P.es.length q1) (.slice p2 P.js.length q2) (.slice p3 P.ss.length q3) (.slice p4 P.ls.length q4) n f n2 f2 0 (fun _=>none) 0 (fun _=>none) wr)∧Hid (FnR (P.ss.take k2) f2)) (fun i _=>P.ss.length-(intOf i).toNat)
    case atStart=>exact⟨0,0,_,rfl,Nat.zero_le _,Nat.zero_le _,HNW,FnR.nil⟩
    case round=>
    clear HNW hk1 hlt hkl hnk ekl;obtain⟨k2,n2,f2,rfl,hkl,hnk,HNW,HF⟩:=hrel;have hb:=HBW.out _ HNW.out.gr;obtain⟨zb,b0,b1,b2,b3,b4,b5,b6,b7,b8⟩:=hb;have hj3:=H3.out.gr (HGW.out _ HNW.out.gr);by_cases hlt:k2<P.ss.length
    ·have hk2:(k2:Int)<(P.ss.length:Int):=by omega
     obtain⟨b,o,hsome,zs,y0,y1,y2,y3⟩:=hj3.at k2 hlt;subst hsome;have HR1:=aA (C6 hck k2 hlt HF.out);have HKSk:=HKS.out _ (List.getElem_mem hlt);obtain⟨q,hq⟩:∃q,q=P.ss[k2]:=⟨_,rfl⟩;rw[←hq] at y0 y1 y2 y3 HR1 HKSk;clear hq;obtain⟨nm,⟨ae,ax⟩,au⟩:=q;dsimp only at y0 y1 y2 y3 HR1 HKSk;go_upto_region 13 with (fail)
     have hpa:cI ⟨ae,ax⟩:=⟨HKSk.1,HKSk.2.1⟩;obtain⟨ka,hka⟩:=eK ⟨ae,ax⟩ hpa.1 hpa.2;have hzr:=HNW.out.net.1;have x1:(wr.alloc (.cells #[.string nm,.int .i64 ae,.int .i64 ax,.bool au] 65)).cell? ⟨wr.heap.size,1,none⟩=some (.int .i64 ae):=by rw[World.cell?_alloc_mark];rfl
     have x2:(wr.alloc (.cells #[.string nm,.int .i64 ae,.int .i64 ax,.bool au] 65)).cell? ⟨wr.heap.size,2,none⟩=some (.int .i64 ax):=by rw[World.cell?_alloc_mark];rfl
     have hzy:wr.heap.size<(wr.alloc (.cells #[.string nm,.int .i64 ae,.int .i64 ax,.bool au] 65)).heap.size:=by simp
     have NY:=HNW.out.grow ((Gr.refl wr).alloc (.cells #[.string nm,.int .i64 ae,.int .i64 ax,.bool au] 65));generalize wr.alloc (.cells #[.string nm,.int .i64 ae,.int .i64 ax,.bool au] 65)=wy at x1 x2 hzy NY ⊢;generalize hbb:wr.heap.size=bb at x1 x2 hzy hzr ⊢;have hz4:=NY.net.1;have NY:=NY.grow ((Gr.refl wy).drew);obtain⟨w10,r2,mp1,gr2⟩:=NY.rd.update cT Tryz.underlying100 (by unfold maxLen;omega) hka (val:=.int .i64 k2);have N2:=aA (NY.put2 mp1 gr2);have cy:=NY.c10;unfold Prt.v at r2;dsimp only at r2;clear mp1 gr2 NY;go_region
     all_goals
      go_wp2_with fail
      go_roundw
      case rel=>exact⟨k2+1,n2+1,_,by go_num,hlt,by omega,N2,HR1⟩
      case measure=>simp[intOf];omega
    ·have hk2:¬(k2:Int)<(P.ss.length:Int):=by omega
     have ekl:k2=P.ss.length:=by omega
     have HF2:Hid (FnR P.ss f2):=by have:=HF.out;rwa [ekl,List.take_length] at this
     clear HF;have hn2:n2≤1000:=by omega
     clear hj3;go_wp2_with fail
     clear zb b0 b1 b2 b3 b4 b5 b6 b7 b8;go_loopw [77] (fun i wr=>∃(k3 n3:Nat) (f3:Value→Option Value) (n4:Nat) (f4:Value→Option Value),i= .int .i64 k3∧k3≤P.ls.length∧n3≤1000*k3∧n4≤1000*k3∧Hid (iV w2 P (.slice p1 P.es.length q1) (.slice p2 P.js.length q2) (.slice p3 P.ss.length q3) (.slice p4 P.ls.length q4) n f n2 f2 n3 f3 n4 f4 wr)) (fun i _=>P.ls.length-(intOf i).toNat)
     case atStart=>exact⟨0,0,_,0,_,rfl,Nat.zero_le _,Nat.zero_le _,Nat.zero_le _,HNW⟩
     case round=>
     clear HNW hk2 hlt hkl hnk ekl;obtain⟨k3,n3,f3,n4,f4,rfl,hkl,hn3,hn4,HNW⟩:=hrel;have hb:=HBW.out _ HNW.out.gr;obtain⟨zb,b0,b1,b2,b3,b4,b5,b6,b7,b8⟩:=hb;by_cases hlt:k3<P.ls.length
     ·have hk3:(k3:Int)<(P.ls.length:Int):=by omega
      obtain⟨b,o,u,hsome,zs,y0,y1,hu⟩:=H4.out.at k3 hlt;subst hsome;have gwr:=HGW.out _ HNW.out.gr;replace y0:=(gwr.cell _ _ zs).trans y0;replace y1:=(gwr.cell _ _ zs).trans y1;replace zs:=Nat.lt_of_lt_of_le zs gwr.size;have hel:P.ls[k3].es.length≤60:=(hbd.2.2.2.2.1 _ (List.getElem_mem hlt)).1;have hei:=(hk.ls _ (List.getElem_mem hlt)).2;obtain⟨q,hq⟩:∃q,q=P.ls[k3]:=⟨_,rfl⟩;rw[←hq] at y0 hu hel hei;clear hq;obtain⟨nm,L⟩:=q;dsimp only at y0 hu hel hei;have HU:=aA hu;obtain⟨au,cu,rfl,-⟩:=hu;rw[List.length_map] at HU y1;go_upto_region 18 with (fail)
      have hzr:=HNW.out.net.1;have x1:(wr.alloc (.cells #[.string nm,.slice au L.length cu] 59)).cell? ⟨wr.heap.size,1,none⟩=some (.slice au L.length cu):=by rw[World.cell?_alloc_mark];rfl
      have hzy:wr.heap.size<(wr.alloc (.cells #[.string nm,.slice au L.length cu] 59)).heap.size:=by simp
      have NY:=HNW.out.grow ((Gr.refl wr).alloc (.cells #[.string nm,.slice au L.length cu] 59));generalize wr.alloc (.cells #[.string nm,.slice au L.length cu] 59)=wy at x1 hzy NY ⊢;have HUY:=aA (HU.out.gr (HGW.out _ NY.gr));generalize hbb:wr.heap.size=bb at x1 hzy hzr ⊢;go_upto_if 85 with (fail)
      go_cut [12] from 86 to 108 (fun i wc=>∃z:Int,i= .int .i64 z∧Gr wy wc)
      case first=>
       by_cases h1:1<L.length
       ·have h1':(1:Int)<(L.length:Int):=by omega
        obtain⟨be,oe,hau,zbe,e0⟩:=dA HUY.out 0 (by omega);obtain⟨be',oe',hau',-,e1⟩:=dA HUY.out 1 h1;subst hau;simp only[Option.some.injEq,Addr.mk.injEq,and_true] at hau';obtain⟨rfl,rfl⟩:=hau';rw[Nat.add_zero] at e0;have cy:=NY.c9;have ny:=NY.net.1;have hpk:cI ⟨L[0],0⟩:=⟨hei _ (List.getElem_mem _),by show(Lit.int .i64 0).wf=true;rfl⟩;cases hnx:aO P.js ⟨L[0],0⟩ with
        | none=>
         have l1:=cF (NY.nx.gr ((Gr.refl wy).drew)) HF1.out hpk hnx;have l2:=cF (NY.nx.gr (((Gr.refl wy).alloc (.cells #[.int .i64 0,.int .i64 0] 63)).drew)) HF1.out hpk hnx;dsimp only at l1 l2;go_upto_region 20 with (fail)
         go_region
         all_goals
          go_upto_region 21 with (fail)
          go_region
          all_goals
           go_wp2_with fail
           go_meet
           case rel=>exact⟨0,rfl,(((Gr.refl wy).alloc _).drew).drew⟩
        | some y=>
         obtain⟨ye,yx⟩:=y;have l1:=cE (NY.nx.gr ((Gr.refl wy).drew)) HF1.out hpk hnx;have l2:=cE (NY.nx.gr (((Gr.refl wy).alloc (.cells #[.int .i64 0,.int .i64 0] 63)).drew)) HF1.out hpk hnx;dsimp only at l1 l2;by_cases hy:ye=L[1];all_goals
          go_upto_region 20 with (fail)
          go_region
          all_goals
           go_upto_region 21 with (fail)
           go_region
           all_goals
            go_wp2_with fail
            go_meet
            case rel=>exact⟨_,rfl,(((Gr.refl wy).alloc _).drew).drew⟩
       ·have h1':¬(1:Int)<(L.length:Int):=by omega
        go_wp2_with fail
        go_meet
        case rel=>exact⟨0,rfl,Gr.refl _⟩
      case rest=>
       obtain⟨z,rfl,gc⟩:=hcut;have NC:=aA (NY.grow gc);have xc1:=(gc.cell _ _ hzy).trans x1;have zc:=Nat.lt_of_lt_of_le hzy gc.size;clear HUY x1 hzy;go_wp2_with fail
       clear xc1 zc;go_loopw [12,112] (fun a i wt=>∃(z:Int) (j n5:Nat) (f5:Value→Option Value) (n6:Nat) (f6:Value→Option Value),a= .int .i64 z∧i= .int .i64 j∧j≤L.length∧n5≤1000*k3+j∧n6≤1000*k3+j∧Hid (iV w2 P (.slice p1 P.es.length q1) (.slice p2 P.js.length q2) (.slice p3 P.ss.length q3) (.slice p4 P.ls.length q4) n f n2 f2 n5 f5 n6 f6 wt)) (fun _ i _=>L.length-(intOf i).toNat)
       case atStart=>exact⟨z,0,n3,f3,n4,f4,rfl,rfl,Nat.zero_le _,by omega,by omega,NC⟩
       case round=>
       clear NC NY HNW y0 y1;obtain⟨z,j,n5,f5,n6,f6,rfl,rfl,hjl,hn5,hn6,HNW⟩:=hrel;by_cases hjt:j<L.length
       ·have hj1:(j:Int)<(L.length:Int):=by omega
        obtain⟨be,oe,hau,zbe,e0⟩:=dA (HU.out.gr (HGW.out _ HNW.out.gr)) j hjt;subst hau;have hei1:=hei _ (List.getElem_mem hjt);generalize L[j]=ev at e0 hei1;go_upto_region 26 with (fail)
        have NY:=HNW.out.grow ((Gr.refl wr).drew);have hz4:=NY.net.1;have hne2:w2.heap.size+4≠w2.heap.size+2:=by omega
        have hne3:w2.heap.size+4≠w2.heap.size+3:=by omega
        obtain⟨ka,hka⟩:=Mp ev hei1;obtain⟨v1',s1,w01,r1,gr1,-,-,st1⟩:=NY.ln.entry rB Tryz.underlying101 (by unfold maxLen;omega) Ig hka;obtain⟨w10,r2,mp1,gr2⟩:=st1 (.agg #[.int .i64 k3,.int .i64 j]);have N1:=NY.put3 mp1 gr2;have z104:=Nat.lt_of_lt_of_le hz4 gr2.size;obtain⟨v2',s2,w11,r3,gr3,-,-,st2⟩:=N1.ld.entry rB Tryz.underlying102 (by unfold maxLen;omega) Cd hka;obtain⟨w20,r4,mp2,gr4⟩:=st2 (.int .i64 z);have N2:=aA (N1.put4 mp2 gr4);have cy1:=NY.c11;have cy2:=NY.c12;have c011:=(cQ (o:=11) gr1 hz4 hne2).trans cy1;have c012:=(cQ (o:=12) gr1 hz4 hne2).trans cy2;have c101:=(cQ (o:=11) gr2 hz4 hne2).trans cy1;have c102:=(cQ (o:=12) gr2 hz4 hne2).trans cy2;have c111:=(cQ (o:=11) gr3 z104 hne3).trans c101;have c112:=(cQ (o:=12) gr3 z104 hne3).trans c102;have c209:=N2.out.c9;have z20:=N2.out.net.1;obtain⟨ge,gy,r5⟩:=Eu (x:=⟨ev,wrap64 (1-z)⟩) N2.out.nx HF1.out ⟨hei1,by exact wrap64_wf _⟩;dsimp only at r5;have r6:=Dn ge gy w20;clear st1 st2 mp1 mp2 N1 gr1 gr2 gr3 gr4 NY;go_region
        all_goals
         go_wp2_with fail
         go_roundw
         case rel=>exact⟨gy,j+1,n5+1,_,n6+1,_,rfl,by go_num,hjt,by omega,by omega,N2⟩
         case measure=>simp[intOf];omega
       ·have hj1:¬(j:Int)<(L.length:Int):=by omega
        go_wp2_with fail
        go_roundw
        case rel=>exact⟨k3+1,n5,f5,n6,f6,by go_num,hlt,by omega,by omega,HNW⟩
        case measure=>simp[intOf];omega
     ·have hk3:¬(k3:Int)<(P.ls.length:Int):=by omega
      go_wp2_with fail
      go_ret2
      refine⟨HGW.out _ HNW.out.gr,.inl ⟨hck,_,rfl,HNW.out.isNet ?_ HF1.out HF2.out⟩⟩;unfold aX at HV2;exact HV2.out
 ·go_wp2_with fail
  go_ret2
  exact⟨gw1,.inr ⟨by rw[hck];exact h0,by rw[hck];rfl⟩⟩
end Go.Proofs.YthkbcablnpbmgaaGreatDoor
namespace Go.Proofs.YthkbcablnpbmgaaGreatDoor
open Go.ChangeShapes Go.WideShapes Go.ChangeAt Go.RowKit Go.Maps
end Go.Proofs.YthkbcablnpbmgaaGreatDoor
