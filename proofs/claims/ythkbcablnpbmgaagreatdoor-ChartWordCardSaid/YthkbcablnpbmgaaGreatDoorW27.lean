/- Helps of the proof of ChartWord. -/
import Derived.Test.YthkbcablnpbmgaaGreatDoorRows
import Derived.Test.YthkbcablnpbmgaaGreatDoorW22
import Derived.Test.YthkbcablnpbmgaaGreatDoorW26
import Derived.Test.YthkbcablnpbmgaaGreatDoorW20
import Derived.Deep.AppendLies
import Derived.Test.YthkbcablnpbmgaaGreatDoorW23
import Derived.Test.YthkbcablnpbmgaaGreatDoorW9
set_option linter.unusedVariables false
set_option linter.unusedSimpArgs false
set_option maxHeartbeats 4000000
set_option maxRecDepth 100000
namespace Go.Proofs.YthkbcablnpbmgaaGreatDoor
open Go.ChangeShapes Go.WideShapes Go.ChangeAt Go.RowKit Go.Maps
theorem Tryz.infoWs:(Tryz.prog.info? 170).map (fun i=>(i.zero,i.size,i.bytes))=some (some (.slice none 0 0),1,24):=by kernel_rfl
def F2(w0 w:World)(b:Nat)(be:Int)(Q:List (Fr×Value))(v1 v2 v3:Value)(P:Pln)(x:Prt)(Z:Nat→Prop)(w':World):Prop:=
 Gr w0 w'∧∃v u1 u2 u3,PaS w0.heap.size w' b be (Q++[(iO P x,v)]) u1 u2 u3∧Kp (PaX b v1 v2 v3) w w'∧(∀k,PaX b u1 u2 u3 k→PaX b v1 v2 v3 k∨w.heap.size≤k)∧Frz (fun k=>PaX b u1 u2 u3 k∨Z k) w' (fun w2=>fZ w2 v (aU (aF P x.e) x.x))∧kK v
theorem J3{w0 w w1 w2 w3 w5 w6:World}{b:Nat}{be:Int}{Q:List (Fr×Value)}{v1 v2 v3 u1 u2 u3 v:Value}{P:Pln}{x:Prt}{Z:Nat→Prop}
  (G:Gr w0 w6) (hR:PaR w0.heap.size w6 b be (dQ Q++[⟨x.e,x.x,-1⟩]) (lY Q++[.int .i64 0]) (Q.map Prod.snd++[v]) u1 u2 u3)
  (k1:Kp (PaX b v1 v2 v3) w w1) (k2:Kp (PaX b v1 v2 v3) w1 w2) (h1:∀i,u1.ownBlock=some i→v1.ownBlock=some i∨w1.heap.size≤i)
  (k3:Kp (PaX b u1 v2 v3) w2 w3) (h2:∀i,u2.ownBlock=some i→v2.ownBlock=some i∨w2.heap.size≤i) (k5:Gr w3 w5) (k6:Kp (PaX b u1 u2 v3) w5 w6) (h3:∀i,u3.ownBlock=some i→v3.ownBlock=some i∨w5.heap.size≤i)
  (hW:fZ w5 v (aU (aF P x.e) x.x)) (hf:∀k,v.ownBlock=some k→w3.heap.size≤k) (hl3:∀k,PaX b u1 u2 v3 k→k<w3.heap.size) (hZ:∀k,Z k→k<w.heap.size) (hv:kK v):F2 w0 w b be Q v1 v2 v3 P x Z w6:=by
 have z1:=k1.1;have z2:=k2.1;have z3:=k3.1;have z5:=k5.size;have s1:∀k,PaX b u1 v2 v3 k→PaX b v1 v2 v3 k∨w.heap.size≤k:=fun k hk=>by
  rcases PaX.st (w:=w1) (g:=0) h1 hk with h|h
  ·exact .inl h
  ·right;omega
 have s2:∀k,PaX b u1 u2 v3 k→PaX b v1 v2 v3 k∨w.heap.size≤k:=fun k hk=>by
  rcases PaX.po (w:=w2) (g:=0) h2 hk with h|h
  ·exact s1 k h
  ·right;omega
 have s3:∀k,PaX b u1 u2 u3 k→PaX b u1 u2 v3 k∨w5.heap.size≤k:=fun k hk=>PaX.le (w:=w5) (g:=0) h3 hk;refine⟨G,v,u1,u2,u3,hR.toS (by rw[lS];rfl) (by unfold lY;rw[List.map_append];rfl) (by rw[List.map_append];rfl),?_,fun k hk=>?_,?_,hv⟩
 ·exact(((k1.trans k2).trans' k3 s1).trans' (Kp.gr k5) s2).trans' k6 s2
 ·rcases s3 k hk with h|h
  ·exact s2 k h
  ·right;omega
 ·have hA:Frz (fun k=>PaX b u1 u2 v3 k∨Z k) w5 (fun w2=>fZ w2 v (aU (aF P x.e) x.x)):=Mc hW hf fun k hk=>by
   rcases hk with hk|hk
   ·exact hl3 k hk
   ·have:=hZ k hk;omega
  refine hA.sub (k6.mono fun k _ hk=>.inl hk) fun k hk=>?_;rcases hk with hk|hk
  ·rcases s3 k hk with h|h
   ·exact .inl (.inl h)
   ·exact .inr h
  ·exact .inl (.inr hk)
theorem Iw(w0:World)(bn:Nat)(P:Pln)(x:Prt)(w:World)(b:Nat)(be:Int)(Q:List (Fr×Value))(v1 v2 v3:Value)(Z:Nat→Prop)(hN:eR w0 bn P)(G:Gr w0 w)(hb:w0.heap.size≤b)(h:PaS w0.heap.size w b be Q v1 v2 v3)(hq:Q.length≤100)(hZ:∀k,Z k→k<w.heap.size):
  Calls Tryz.prog 108 #[.pointer (some ⟨b,0,none⟩),.pointer (some ⟨bn,0,none⟩),.agg #[.int .i64 x.e,.int .i64 x.x]] w fun e w'=>e= .returned (.tuple #[])∧F2 w0 w b be Q v1 v2 v3 P x Z w':=by
 have HOU:=aA (fun(w':World) (g:Gr w0 w')=>zI bn P x.e x.x w' (hN.gr g));have hR:=h.toR;have hl1:(dQ Q).length≤100:=by rw[fE];exact hq
 have hl2:(lY Q).length≤100:=by unfold lY;rw[List.length_map];exact hq
 have hl3:(Q.map Prod.snd).length≤100:=by rw[List.length_map];exact hq
 have HEND:=aA (fun w1 w2 w3 w5 w6 u1 u2 u3 v=>@J3 w0 w w1 w2 w3 w5 w6 b be Q v1 v2 v3 u1 u2 u3 v P x Z);rw[kI] at HOU;obtain⟨i0,hi0,hi1,hi2,hi3⟩:=info_parts Tryz.infoSt;obtain⟨j0,hj0,hj1,hj2,hj3⟩:=info_parts Tryz.infoI;obtain⟨m0,hm0,hm1,hm2,hm3⟩:=info_parts Tryz.infoWs;generalize aU (aF P x.e) x.x=OL at *;have HZ:=aA hZ;clear h hZ hN hq;generalize F2 w0 w b be Q v1 v2 v3 P x Z=POST at *;generalize dQ Q=L1 at *;generalize lY Q=L2 at *;generalize Q.map Prod.snd=L3 at *;obtain⟨xe,xx⟩:=x;dsimp only at *;go_enter Tryz.func108,Tryz.ntmps108
 go_upto_region 1 with fail
 have G1:Gr w (w.alloc (.cells #[.int .i64 xe,.int .i64 xx] 63)):=(Gr.refl _).alloc _;have y0:(w.alloc (.cells #[.int .i64 xe,.int .i64 xx] 63)).cell? ⟨w.heap.size,0,none⟩=some (.int .i64 xe):=by rw[World.cell?_alloc_mark];rfl
 have y1:(w.alloc (.cells #[.int .i64 xe,.int .i64 xx] 63)).cell? ⟨w.heap.size,1,none⟩=some (.int .i64 xx):=by rw[World.cell?_alloc_mark];rfl
 have zx:w.heap.size<(w.alloc (.cells #[.int .i64 xe,.int .i64 xx] 63)).heap.size:=by simp
 have HR1:=aA (hR.gr G1);have HK1:=aA (Kp.gr (X:=PaX b v1 v2 v3) G1);have hxb:b<w.heap.size:=aB hR.box;have hxs:=hR.lt;have GA:=G.trans G1;generalize w.alloc (.cells #[.int .i64 xe,.int .i64 xx] 63)=w1 at *;generalize w.heap.size=xb at *;clear hR;obtain⟨a1,a2,a3,c1,c2,c3,rfl,rfl,rfl⟩:=HR1.out.form;go_cut [] from 6 to 19 (fun wc=>Gr w0 wc∧∃u1,PaR w0.heap.size wc b be (L1++[⟨xe,xx,-1⟩]) L2 L3 u1 (.slice a2 L2.length c2) (.slice a3 L3.length c3)∧Kp (PaX b (.slice a1 L1.length c1) (.slice a2 L2.length c2) (.slice a3 L3.length c3)) w1 wc∧∀i,u1.ownBlock=some i→(Value.slice a1 L1.length c1).ownBlock=some i∨w1.heap.size≤i)
 case first=>
  obtain⟨zb,⟨b0,b1,b2,b3⟩,fb⟩:=HR1.out.cells;have fb1:=fb 1;obtain⟨far1,far2,far3⟩:=HR1.out.far;have z0:=GA.size;clear b0 b2 b3 fb;go_region_law ((refine step_append_lies _ (by rfl) _ _ _ (by rfl) w0.heap.size 81 i0 _ 3 24 Tryz.underlying43 hi0 hi1 hi2 hi3 rfl (by decide) (.slice a1 L1.length c1) L1.length (L1.flatMap Stp.cs) (by rfl) ((aE HR1.out.st ((Gr.refl _).alloc _)).drew) ⟨w1.heap.size,0,none⟩ 1 1 [.int .i64 xe,.int .i64 xx,.int .i64 (-1)] (by rfl) (by rfl) (World.news_of_block (heap_alloc_new w1 _)) (by simp[Value.oneCell']) (by omega) (by unfold maxLen;omega) (by omega) (by simp;omega) (w1.heap.size+1) (by simp) ?_;intro gg cap w9 hown hgrow hat hlt;have cu9:=(hgrow.cell_far ⟨b,1,none⟩ (by simp;omega) (by simpa using far1));have fu9:=(hgrow.frozen_far ⟨b,1,none⟩ (by simp;omega) (by simpa using far1))))
  all_goals go_wp2_with fail
  all_goals go_meet
  all_goals
   case rel=>
    have gq:Gr w1 (w1.alloc (.cells #[.int .i64 xe,.int .i64 xx,.int .i64 (-1)] 81)).drew:=((Gr.refl w1).alloc _).drew;obtain⟨p1,p2⟩:=HR1.out.putSt (x:=⟨xe,xx,-1⟩) gq hgrow hown;exact⟨(Gr.grown (GA.trans gq) hgrow HR1.out.st).setCell hb _,_,p1,p2,iT (W:=w1) hat (by omega)⟩
 case rest=>
 obtain⟨GB,u1,hR2,k2,s1⟩:=hcut;obtain⟨w2,hw2⟩:∃u,u=wc:=⟨_,rfl⟩;subst hw2;have HR2:=aA hR2;have HK2:=aA k2;have HS1:=aA s1;have hbx:=k2.2 xb zx (fun hx=>by have:=hxs _ hx;omega);have x0:w2.cell? ⟨xb,0,none⟩=some (.int .i64 xe):=(World.cell?_of_block (a:=⟨xb,0,none⟩) hbx).trans y0;have x1:w2.cell? ⟨xb,1,none⟩=some (.int .i64 xx):=(World.cell?_of_block (a:=⟨xb,1,none⟩) hbx).trans y1;have zx2:=Nat.lt_of_lt_of_le zx k2.1;obtain⟨d1,-,-,f1,-,-,rfl,-,-⟩:=hR2.form;clear hR2 k2 s1 hbx y0 y1;obtain⟨zb,⟨b0,b1,b2,b3⟩,fb⟩:=HR2.out.cells;have fb2:=fb 2;obtain⟨-,far2,-⟩:=HR2.out.far;have z0:=GB.size;clear b0 b1 b3 fb;go_upto_region 3 with (first|(at_builtin;refine wpList_append_lies _ rfl _ _ 45 rfl w0.heap.size 3 j0 (.int .i64 0) 1 8 Tryz.underlying45 hj0 hj1 hj2 hj3 rfl (by decide) _ _ _ rfl (aE HR2.out.po ((Gr.refl w2).alloc _)) ⟨w2.heap.size,0,none⟩ 1 1 [.int .i64 0] rfl rfl ?c1 ?c2 ?c3 ?c4 ?c5 ?c6 (w2.heap.size+1) ?c7 ?_))
 try (case c1=>exact cell_one_new _ _ _)
 try (case c2=>first|(intro u hu;simp at hu;subst hu;rfl)|simp[Value.oneCell'])
 try (case c3=>omega)
 try (case c4=>(unfold maxLen;omega))
 try (case c5=>omega)
 try (case c6=>(simp;omega))
 try (case c6=>omega)
 try (case c7=>simp)
 intro gg cap w9 hown hgrow hat hgl;have cu9:=(hgrow.cell_far ⟨b,2,none⟩ (by simp;omega) (by simpa using far2));have fu9:=(hgrow.frozen_far ⟨b,2,none⟩ (by simp;omega) (by simpa using far2));have zb9:b<w9.heap.size:=Nat.lt_of_lt_of_le (by simp;omega) hgrow.size;go_upto_region 3 with fail
 have gq:Gr w2 (w2.alloc (.cells #[.int .i64 0] 3)):=(Gr.refl w2).alloc _;obtain⟨p1,p2⟩:=HR2.out.putPo (x:=.int .i64 0) gq hgrow hown;have HR3:=aA p1;have HK3:=aA p2;have HS2:Hid (∀i,(Value.slice (some ⟨gg,0,none⟩) (L2.length+1) cap).ownBlock=some i→(Value.slice a2 L2.length c2).ownBlock=some i∨w2.heap.size≤i):=iT (W:=w2) hat (by omega);have GC:Gr w0 (w9.setCell ⟨b,2,none⟩ (.slice (some ⟨gg,0,none⟩) (L2.length+1) cap)):=(Gr.grown (GB.trans gq) hgrow HR2.out.po).setCell hb _;have hbx:=p2.2 xb zx2 (fun hx=>by
  rcases PaX.st (w:=w1) (g:=0) HS1.out hx with h|h
  ·have:=hxs _ h;omega
  ·omega)
 have y0:=(World.cell?_of_block (a:=⟨xb,0,none⟩) hbx).trans x0;have y1:=(World.cell?_of_block (a:=⟨xb,1,none⟩) hbx).trans x1;have zx3:=Nat.lt_of_lt_of_le zx2 p2.1;clear p1 p2 hbx x0 x1 hown hgrow hat hgl cu9 fu9 zb9 gq zb b2 fb2 far2;generalize w9.setCell ⟨b,2,none⟩ (.slice (some ⟨gg,0,none⟩) (L2.length+1) cap)=w3 at *;obtain⟨zb,⟨b0,b1,b2,b3⟩,fb⟩:=HR3.out.cells;have fb3:=fb 3;clear b0 b1 b2 fb;have GD:=GC.trans (Gr.refl w3).drew;have z0:=GC.size;have hvl:=HR3.out.lt;have HVL:=aA hvl;clear hvl;go_region_law (first
  | (go_simp;go_at_call 147;(with_reducible refine(HOU.out _ GD).mono ?_);rintro e5 w5 ⟨vw,rfl,hW5',g5,hf5',hc5'⟩;obtain⟨wa,wc5,rfl,-⟩:=id hW5';have HW5:=aA hW5';have HF5:=aA hf5';have HC5:=aA hc5';clear hW5' hf5' hc5';have g35:Gr w3 w5:=(Gr.refl w3).drew.trans g5;have HR5:=aA (HR3.out.gr g35);obtain⟨zb5,⟨-,-,-,b35⟩,fb5⟩:=HR5.out.cells;have fb35:=fb5 3;clear fb5;obtain⟨-,-,far35⟩:=HR5.out.far;have z05:=(GC.trans g35).size;try go_wp2_with fail)
  | (refine step_append_lies _ (by rfl) _ _ _ (by rfl) w0.heap.size 170 m0 _ 1 24 Tryz.underlying164 hm0 hm1 hm2 hm3 rfl (by decide) (.slice a3 L3.length c3) L3.length L3 (by rfl) (aE HR5.out.le ((Gr.refl _).alloc _)) ⟨w5.heap.size,0,none⟩ 1 1 [.slice wa OL.length wc5] (by rfl) (by rfl) (World.news_of_block (heap_alloc_new w5 _)) (by simp[Value.oneCell']) (by omega) (by unfold maxLen;omega) (by omega) (by simp;omega) (w5.heap.size+1) (by simp) ?_;intro gh caq w9 hown hgrow hat hlt;have cu9:=(hgrow.cell_far ⟨b,3,none⟩ (by simp;omega) (by simpa using far35));have fu9:=(hgrow.frozen_far ⟨b,3,none⟩ (by simp;omega) (by simpa using far35))))
 all_goals go_wp2_with fail
 all_goals ((try simp only[Exit.inBlock,Exit.then]);(first|refine bodyPost_ret (results_none rfl _ _ _) rfl ?_|refine bodyPost_end (results_none rfl _ _ _) rfl ?_))
 all_goals
  have gq:Gr w5 (w5.alloc (.cells #[.slice wa OL.length wc5] 170)):=(Gr.refl w5).alloc _;obtain⟨p1,p2⟩:=HR5.out.putLe (x:=.slice wa OL.length wc5) gq hgrow hown;exact⟨rfl,HEND.out w1 w2 w3 w5 _ _ _ _ _ ((Gr.grown ((GC.trans g35).trans gq) hgrow HR5.out.le).setCell hb _) p1 HK1.out HK2.out HS1.out HK3.out HS2.out g35 p2 (iT (W:=w5) hat (by omega)) HW5.out (fun k hk=>Nat.le_trans (Nat.le_refl _) (HF5.out k hk)) HVL.out HZ.out HC5.out⟩
def OfX(b b7:Nat)(v1 v2 v3 vo:Value)(k:Nat):Prop:=PaX b v1 v2 v3 k∨(vo.ownBlock=some k∨k=b7)
structure OfS (w0:World) (b b7:Nat) (be:Int) (Q:List (Fr×Value)) (O:List (Rod×S5)) (v1 v2 v3 vo:Value) (x:Prt) (w:World):Prop where
 gr:Gr w0 w
 lo:w0.heap.size≤b∧w0.heap.size≤b7
 pa:PaS w0.heap.size w b be Q v1 v2 v3
 ways:Bj (OfX b b7 v1 v2 v3 vo) w Q
 out:bG w0.heap.size w vo O
 rods:Frz (OfX b b7 v1 v2 v3 vo) w fun w'=>bM w0.heap.size w' O
 x7:w.heap[b7]? =some (.cells #[.int .i64 x.e,.int .i64 x.x] 63)
section
variable {w0 w w' w2 w9 wq:World} {b b7:Nat} {be:Int} {Q:List (Fr×Value)} {O:List (Rod×S5)} {v1 v2 v3 vo:Value} {x:Prt}
theorem OfS.lt(h:OfS w0 b b7 be Q O v1 v2 v3 vo x w):∀k,OfX b b7 v1 v2 v3 vo k→k<w.heap.size:=fun k hk=>by
 rcases hk with hk|hk|hk
 ·exact h.pa.toR.lt k hk
 ·exact bL h.out k hk
 ·rw[hk];exact aB h.x7
theorem OfS.grow(h:OfS w0 b b7 be Q O v1 v2 v3 vo x w)(g:Gr w w'):OfS w0 b b7 be Q O v1 v2 v3 vo x w':=
 ⟨h.gr.trans g,h.lo,h.pa.gr g,h.ways.sub (Kp.gr g) fun i hi=>.inl hi,aE h.out g,h.rods.gr g,(g.block b7 (aB h.x7)).trans h.x7⟩
theorem OfS.push{P:Pln}(h:OfS w0 b b7 be Q O v1 v2 v3 vo x w)(hp:F2 w0 w b be Q v1 v2 v3 P x (fun k=>vo.ownBlock=some k∨k=b7) w'):∃v u1 u2 u3,OfS w0 b b7 be (Q++[(iO P x,v)]) O u1 u2 u3 vo x w':=by
 obtain⟨g,v,u1,u2,u3,p1,k1,s1,f1,c1⟩:=hp;have hR:=h.pa.toR;have kX:Kp (OfX b b7 v1 v2 v3 vo) w w':=k1.mono fun k _ hk=>.inl hk;have sX:∀k,OfX b b7 u1 u2 u3 vo k→OfX b b7 v1 v2 v3 vo k∨w.heap.size≤k:=fun k hk=>by
  rcases hk with hk|hk
  ·rcases s1 k hk with h|h
   ·exact .inl (.inl h)
   ·exact .inr h
  ·exact .inl (.inr hk)
 refine⟨v,u1,u2,u3,g,h.lo,p1,fun q hq=>?_,?_,h.rods.sub kX sX,?_⟩
 ·rcases List.mem_append.1 hq with hq|hq
  ·exact⟨(h.ways q hq).1.sub kX sX,(h.ways q hq).2⟩
  ·rw[List.mem_singleton.1 hq];exact⟨f1,c1⟩
 ·refine bT h.out fun k hk=>k1.2 k (bL h.out k hk) fun hx=>?_;rcases hx with hx|hx|hx|hx
  ·exact aK h.out h.pa.box (by decide) (by rw[hk,hx])
  ·exact kZ h.out h.pa.st (by decide) hk hx rfl
  ·exact kZ h.out h.pa.po (by decide) hk hx rfl
  ·exact kZ h.out h.pa.le (by decide) hk hx rfl
 ·refine(k1.2 b7 (aB h.x7) fun hx=>?_).trans h.x7;rcases hx with hx|hx|hx|hx
  ·have h1:=h.pa.box;rw[←hx,h.x7] at h1;simp at h1
  ·exact aK h.pa.st h.x7 (by decide) hx.symm
  ·exact aK h.pa.po h.x7 (by decide) hx.symm
  ·exact aK h.pa.le h.x7 (by decide) hx.symm
theorem OfS.put{r:Rod}{V:S5}{gg n c M:Nat}(h:OfS w0 b b7 be Q O v1 v2 v3 vo x w)(hM:∀k,OfX b b7 v1 v2 v3 vo k→k<M)(hM0:w0.heap.size≤M)(hr:cM M w V r)(hl:gC r)(gq:Gr w wq)(hgrow:wq.grownBy w9 vo.ownBlock)
  (hown:w9.ownsRow w0.heap.size 47 9 (.slice (some ⟨gg,0,none⟩) n c) (O.length+1) ((O.flatMap fun p=>cL p.1 p.2)++cL r V)) (hat:vo.ownBlock=some gg∨gg=wq.heap.size):OfS w0 b b7 be Q (O++[(r,V)]) v1 v2 v3 (.slice (some ⟨gg,0,none⟩) n c) x w9:=by
 have hq:=h.grow gq;have kX:Kp (OfX b b7 v1 v2 v3 vo) w w9:=(Kp.gr gq).trans (Kp.grown hgrow fun k hk=>.inr (.inl hk));have zq:=gq.size;have sX:∀k,OfX b b7 v1 v2 v3 (.slice (some ⟨gg,0,none⟩) n c) k→OfX b b7 v1 v2 v3 vo k∨w.heap.size≤k:=fun k hk=>by
  rcases hk with hk|hk|hk
  ·exact .inl (.inl hk)
  ·rcases iT (W:=w) hat zq k hk with h|h
   ·exact .inl (.inr (.inl h))
   ·exact .inr h
  ·exact .inl (.inr (.inr hk))
 refine⟨Gr.grown hq.gr hgrow hq.out,h.lo,⟨?_,?_,?_,?_⟩,h.ways.sub kX sX,bG.snoc hown,?_,?_⟩
 ·exact(hgrow.block b (aB hq.pa.box) (aK hq.out hq.pa.box (by decide))).trans hq.pa.box
 ·exact aN hq.pa.st hgrow hq.out (by decide)
 ·exact aN hq.pa.po hgrow hq.out (by decide)
 ·exact aN hq.pa.le hgrow hq.out (by decide)
 ·intro w3 k3;have h1:=(h.rods.sub kX sX) w3 k3;have h2:Frz (OfX b b7 v1 v2 v3 vo) w fun w'=>cM M w' V r:=hr.frzB hM;have h3:=(h2.sub kX sX) w3 k3;exact h1.snoc (h3.base hM0) hl
 ·exact(hgrow.block b7 (aB hq.x7) (aK hq.out hq.x7 (by decide))).trans hq.x7
theorem OfS.pop{q:Fr×Value}{a1 a2 a3:Option Addr}{c1 c2 c3:Nat}(h:OfS w0 b b7 be (Q++[q]) O (.slice a1 (Q.length+1) c1) (.slice a2 (Q.length+1) c2) (.slice a3 (Q.length+1) c3) vo x w)
  (hw:w'=((w.drew.setCell ⟨b,1,none⟩ (.slice a1 Q.length c1)).setCell ⟨b,2,none⟩ (.slice a2 Q.length c2)).setCell ⟨b,3,none⟩ (.slice a3 Q.length c3)):OfS w0 b b7 be Q O (.slice a1 Q.length c1) (.slice a2 Q.length c2) (.slice a3 Q.length c3) vo x w':=by
 subst hw;obtain⟨p1,k1⟩:=h.pa.pop;have kX:Kp (OfX b b7 (.slice a1 (Q.length+1) c1) (.slice a2 (Q.length+1) c2) (.slice a3 (Q.length+1) c3) vo) w _:=k1.mono fun k _ hk=>.inl (.inl hk);have e1:∀ {a:Option Addr} {n m c:Nat} {k:Nat},(Value.slice a n c).ownBlock=some k→(Value.slice a m c).ownBlock=some k:=fun {a n m c k} h=>by cases a<;>exact h
 have sX:∀k,OfX b b7 (.slice a1 Q.length c1) (.slice a2 Q.length c2) (.slice a3 Q.length c3) vo k→OfX b b7 (.slice a1 (Q.length+1) c1) (.slice a2 (Q.length+1) c2) (.slice a3 (Q.length+1) c3) vo k∨w.heap.size≤k:=fun k hk=>by
  rcases hk with (hk|hk|hk|hk)|hk
  ·exact .inl (.inl (.inl hk))
  ·exact .inl (.inl (.inr (.inl (e1 hk))))
  ·exact .inl (.inl (.inr (.inr (.inl (e1 hk)))))
  ·exact .inl (.inl (.inr (.inr (.inr (e1 hk)))))
  ·exact .inl (.inr hk)
 have nb:∀k,vo.ownBlock=some k→k≠b:=fun k hk e=>aK h.out h.pa.box (by decide) (by rw[hk,e]);have n7:b7≠b:=fun e=>by
  have h1:=h.pa.box;rw[←e,h.x7] at h1;simp at h1
 have hw:Bj (OfX b b7 (.slice a1 Q.length c1) (.slice a2 Q.length c2) (.slice a3 Q.length c3) vo) (((w.drew.setCell ⟨b,1,none⟩ (.slice a1 Q.length c1)).setCell ⟨b,2,none⟩ (.slice a2 Q.length c2)).setCell ⟨b,3,none⟩ (.slice a3 Q.length c3)) Q:=by
  intro q' hq;exact⟨((h.ways q' (List.mem_append_left _ hq)).1).sub kX sX,(h.ways q' (List.mem_append_left _ hq)).2⟩
 refine⟨(((h.gr.drew.setCell h.lo.1 _).setCell h.lo.1 _).setCell h.lo.1 _),h.lo,p1,hw,bT h.out fun k hk=>k1.2 k (bL h.out k hk) (nb k hk),h.rods.sub kX sX,(k1.2 b7 (aB h.x7) n7).trans h.x7⟩
theorem It(L:List Stp)(s:Stp)(o:Int):((L++[s]).flatMap Stp.cs).set (L.length*3+2) (.int .i64 o)=((L++[(⟨s.e,s.i,o⟩:Stp)]).flatMap Stp.cs):=by
 rw[List.flatMap_append,List.flatMap_append,List.set_append_right _ _ (by rw[oN];omega),oN];have:L.length*3+2-L.length*3=2:=by omega
 rw[this];rfl
theorem OfS.take{q:Fr×Value}{a:Int×Int}{l:List (Int×Int)}{g1 g2 g3 c1 c2 c3 gw ow nw cw:Nat}{A:Option Addr}
  (h:OfS w0 b b7 be (Q++[q]) O (.slice (some ⟨g1,0,none⟩) (Q.length+1) c1) (.slice (some ⟨g2,0,none⟩) (Q.length+1) c2) (.slice (some ⟨g3,0,none⟩) (Q.length+1) c3) vo x w) (hq:q.1.l=a::l) (hv:q.2= .slice (some ⟨gw,ow,none⟩) nw cw) (hA:1<nw→A=some ⟨gw,ow+2,none⟩) (hn:1≤nw):
  OfS w0 b b7 be (Q++[(dP q.1 a l,.slice A (nw-1) (cw-1))]) O (.slice (some ⟨g1,0,none⟩) (Q.length+1) c1) (.slice (some ⟨g2,0,none⟩) (Q.length+1) c2) (.slice (some ⟨g3,0,none⟩) (Q.length+1) c3) vo x
   (((w.setCell ⟨g3,Q.length,none⟩ (.slice A (nw-1) (cw-1))).setCell ⟨g1,Q.length*3+2,none⟩ (.int .i64 a.1)).setCell ⟨g2,Q.length,none⟩ (.int .i64 a.2)):=by
 obtain⟨hb,o1,o2,o3⟩:=h.pa;rw[List.length_append,List.length_singleton] at o1 o2 o3;have x1:OfX b b7 (.slice (some ⟨g1,0,none⟩) (Q.length+1) c1) (.slice (some ⟨g2,0,none⟩) (Q.length+1) c2) (.slice (some ⟨g3,0,none⟩) (Q.length+1) c3) vo g1:=.inl (.inr (.inl rfl));have x2:OfX b b7 (.slice (some ⟨g1,0,none⟩) (Q.length+1) c1) (.slice (some ⟨g2,0,none⟩) (Q.length+1) c2) (.slice (some ⟨g3,0,none⟩) (Q.length+1) c3) vo g2:=.inl (.inr (.inr (.inl rfl)));have x3:OfX b b7 (.slice (some ⟨g1,0,none⟩) (Q.length+1) c1) (.slice (some ⟨g2,0,none⟩) (Q.length+1) c2) (.slice (some ⟨g3,0,none⟩) (Q.length+1) c3) vo g3:=.inl (.inr (.inr (.inr rfl)));have kX:Kp (OfX b b7 (.slice (some ⟨g1,0,none⟩) (Q.length+1) c1) (.slice (some ⟨g2,0,none⟩) (Q.length+1) c2) (.slice (some ⟨g3,0,none⟩) (Q.length+1) c3) vo) w (((w.setCell ⟨g3,Q.length,none⟩ (.slice A (nw-1) (cw-1))).setCell ⟨g1,Q.length*3+2,none⟩ (.int .i64 a.1)).setCell ⟨g2,Q.length,none⟩ (.int .i64 a.2)):=
  ((Kp.set x3).trans (Kp.set x1)).trans (Kp.set x2)
 have p1:=lF (o:=Q.length) (u:=.slice A (nw-1) (cw-1)) o1 o3 (by decide);have r1:=(World.ownsRow.stored p1 (Q.length*3+2) (.int .i64 a.1)).1;have e1:((dQ (Q++[q])).flatMap Stp.cs).set (Q.length*3+2) (.int .i64 a.1)=(dQ (Q++[(dP q.1 a l,.slice A (nw-1) (cw-1))])).flatMap Stp.cs:=by
  rw[lS,lS];have:=It (dQ Q) (stF q.1) a.1;rw[fE] at this;exact this
 rw[e1] at r1;have o2':=lF (o:=Q.length*3+2) (u:=.int .i64 a.1) (lF (o:=Q.length) (u:=.slice A (nw-1) (cw-1)) o2 o3 (by decide)) p1 (by decide);have r2:=(World.ownsRow.stored o2' Q.length (.int .i64 a.2)).1;have e2:(lY (Q++[q])).set Q.length (.int .i64 a.2)=lY (Q++[(dP q.1 a l,.slice A (nw-1) (cw-1))]):=by
  unfold lY;rw[List.map_append,List.map_append,List.set_append_right _ _ (by rw[List.length_map];omega),List.length_map,Nat.sub_self];rfl
 rw[e2] at r2;have r3:=(World.ownsRow.stored o3 Q.length (.slice A (nw-1) (cw-1))).1;have e3:((Q++[q]).map Prod.snd).set Q.length (.slice A (nw-1) (cw-1))=(Q++[(dP q.1 a l,Value.slice A (nw-1) (cw-1))]).map Prod.snd:=by
  rw[List.map_append,List.map_append,List.set_append_right _ _ (by rw[List.length_map];omega),List.length_map,Nat.sub_self];rfl
 rw[e3] at r3;have z1:=dS o1 g1 rfl;have z2:=dS o2 g2 rfl;have z3:=dS o3 g3 rfl;have m:∀(k:Nat) (T:TypeId) (cs:Array Value),w.heap[k]? =some (.cells cs T)→T≠81→T≠3→T≠170→(((w.setCell ⟨g3,Q.length,none⟩ (.slice A (nw-1) (cw-1))).setCell ⟨g1,Q.length*3+2,none⟩ (.int .i64 a.1)).setCell ⟨g2,Q.length,none⟩ (.int .i64 a.2)).heap[k]? =w.heap[k]?:=fun k T cs hk t1 t2 t3=>by
  have n1:k≠g1:=fun e=>aK o1 hk t1 (by rw[e];rfl);have n2:k≠g2:=fun e=>aK o2 hk t2 (by rw[e];rfl);have n3:k≠g3:=fun e=>aK o3 hk t3 (by rw[e];rfl);rw[heap_setCell_other _ ⟨g2,Q.length,none⟩ k _ n2,heap_setCell_other _ ⟨g1,Q.length*3+2,none⟩ k _ n1,heap_setCell_other _ ⟨g3,Q.length,none⟩ k _ n3]
 refine⟨((h.gr.setCell z3 _).setCell z1 _).setCell z2 _,h.lo,⟨(m b _ _ hb (by decide) (by decide) (by decide)).trans hb,?_,?_,?_⟩,fun q' hq'=>?_,?_,h.rods.kp kX,(m b7 _ _ h.x7 (by decide) (by decide) (by decide)).trans h.x7⟩
 ·rw[List.length_append,List.length_singleton];exact lF r1 o2' (by decide)
 ·rw[List.length_append,List.length_singleton];exact r2
 ·rw[List.length_append,List.length_singleton];exact lF (lF r3 p1 (by decide)) o2' (by decide)
 ·rcases List.mem_append.1 hq' with hq'|hq'
  ·exact⟨((h.ways q' (List.mem_append_left _ hq')).1).kp kX,(h.ways q' (List.mem_append_left _ hq')).2⟩
  ·rw[List.mem_singleton.1 hq'];obtain⟨f1,f2⟩:=h.ways q (by simp);rw[hv] at f2;refine⟨fun w3 k3=>?_,fun a n c e=>by cases e;have:=f2 _ _ _ rfl;omega⟩;have:=(f1.kp kX) w3 k3;rw[hv,hq] at this;exact Hc this hA
 ·refine bT h.out fun k hk=>?_;rcases h.out.2 with⟨e,_⟩|⟨g,cap,cur,e,_,hh,_⟩
  ·rw[e] at hk;simp[Value.ownBlock] at hk
  ·have:g=k:=by rw[e] at hk;simpa[Value.ownBlock] using hk
   subst this;exact m g _ _ hh (by decide) (by decide) (by decide)
theorem OfS.setX(h:OfS w0 b b7 be Q O v1 v2 v3 vo x w)(z:Prt):OfS w0 b b7 be Q O v1 v2 v3 vo z ((w.setCell ⟨b7,0,none⟩ (.int .i64 z.e)).setCell ⟨b7,1,none⟩ (.int .i64 z.x)):=by
 have kX:Kp (OfX b b7 v1 v2 v3 vo) w ((w.setCell ⟨b7,0,none⟩ (.int .i64 z.e)).setCell ⟨b7,1,none⟩ (.int .i64 z.x)):=(Kp.set (.inr (.inr rfl))).trans (Kp.set (.inr (.inr rfl)));have hx1:=heap_setCell_same w b7 0 _ _ (.int .i64 z.e) h.x7;have hx2:=heap_setCell_same (w.setCell ⟨b7,0,none⟩ (.int .i64 z.e)) b7 1 _ _ (.int .i64 z.x) hx1;have n7:b≠b7:=fun e=>by
  have h1:=h.pa.box;rw[e,h.x7] at h1;simp at h1
 refine⟨(h.gr.setCell h.lo.2 _).setCell h.lo.2 _,h.lo,⟨?_,?_,?_,?_⟩,h.ways.sub kX fun i hi=>.inl hi,?_,h.rods.kp kX,hx2⟩
 ·rw[heap_setCell_other _ ⟨b7,1,none⟩ b _ n7,heap_setCell_other _ ⟨b7,0,none⟩ b _ n7];exact h.pa.box
 ·exact bD (bD h.pa.st h.x7 (by decide)) hx1 (by decide)
 ·exact bD (bD h.pa.po h.x7 (by decide)) hx1 (by decide)
 ·exact bD (bD h.pa.le h.x7 (by decide)) hx1 (by decide)
 ·exact bD (bD h.out h.x7 (by decide)) hx1 (by decide)
end
end Go.Proofs.YthkbcablnpbmgaaGreatDoor
namespace Go.Proofs.YthkbcablnpbmgaaGreatDoor
open Go.ChangeShapes Go.WideShapes Go.ChangeAt Go.RowKit Go.Maps
theorem RqS.new{w w2:World}{L:List Stp}{u:Value}{s d en:Int}(g:Gr (w.alloc (.cells #[.int .i64 0,.int .i64 0,.int .i64 0,.slice none 0 0,.slice none 0 0,.slice none 0 0,.slice none 0 0,.slice none 0 0,.bool false] 47)) w2)(h:dO ((w.alloc (.cells #[.int .i64 0,.int .i64 0,.int .i64 0,.slice none 0 0,.slice none 0 0,.slice none 0 0,.slice none 0 0,.slice none 0 0,.bool false] 47))).heap.size w2 u L):
  RqS w w2.heap.size w.heap.size (w2.alloc (.cells #[.int .i64 s,.int .i64 d,.int .i64 en,u,.slice none 0 0,.slice none 0 0,.slice none 0 0,.slice none 0 0,.bool false] 47)) ⟨s,d,en,L,[],[],[],[],false⟩ ⟨u,.slice none 0 0,.slice none 0 0,.slice none 0 0,.slice none 0 0⟩:=by
 have hz:w.heap.size<((w.alloc (.cells #[.int .i64 0,.int .i64 0,.int .i64 0,.slice none 0 0,.slice none 0 0,.slice none 0 0,.slice none 0 0,.slice none 0 0,.bool false] 47))).heap.size:=by simp
 have h1:=g.size;have ga:Gr w2 (w2.alloc (.cells #[.int .i64 s,.int .i64 d,.int .i64 en,u,.slice none 0 0,.slice none 0 0,.slice none 0 0,.slice none 0 0,.bool false] 47)):=(Gr.refl _).alloc _;refine⟨(((Gr.refl w).alloc _).trans g).trans ga,⟨by omega,Nat.le_refl _,by omega⟩,heap_alloc_new _ _,?_,⟨aQ (aE h ga) (by omega),bV.nil _ _,bV.nil _ _,cD.nil _ _,cD.nil _ _⟩,fun k hk=>by simp[Value.ownBlock] at hk,fun k hk=>by simp[Value.ownBlock] at hk⟩;rw[ga.block _ (by omega),g.block _ hz];exact heap_alloc_new _ _
theorem Gq(Q:List (Fr×Value))(k:Nat)(hk:k<Q.length):lG (Q.take (k+1))=kD (lG (Q.take k)) Q[k].1.x.e Q[k].1.p:=by
 rw[List.take_add_one,List.getElem?_eq_getElem hk];exact sE _ _
theorem Bw(Q:List (Fr×Value)):(lG Q).length≤Q.length:=by
 unfold lG;have:=qC (fun q:Fr×Value=>if q.1.p=0 then ([]:List Nd) else [⟨q.1.x.e,q.1.p⟩]) 1 Q (fun q _=>by split<;>simp);omega
theorem rW(B b:Nat)(be:Int)(Q:List (Fr×Value))(v1 v2 v3:Value)(s d en:Int)(w:World)(h:PaS B w b be Q v1 v2 v3)(hq:Q.length≤100):
  Calls Tryz.prog 109 #[.pointer (some ⟨b,0,none⟩),.int .i64 s,.int .i64 d,.int .i64 en] w fun e w'=>∃V,e= .returned (eL (gU s d en Q) V)∧cM w.heap.size w' V (gU s d en Q)∧Gr w w':=by
 have hR:=h.toR;have hst:dO B w v1 (dQ Q):=hR.st;have hls:(dQ Q).length=Q.length:=fE Q;have HIS:=aA (hst.stps (by rw[hls];unfold maxLen;omega));have HCL:=aA (fun(w':World) (g:Gr w w')=>wH (dQ Q) v1 w' (HIS.out.gr g) (by rw[hls];omega));obtain⟨i0,hi0,hi1,hi2,hi3⟩:=info_parts Tryz.infoNd;have HPO:=aA h.po;obtain⟨a1,a2,a3,c1',c2',c3',e1,e2,e3⟩:=h.len;subst e1 e2 e3;obtain⟨zb,⟨b0,b1,b2,b3⟩,-⟩:=h.cells;have HB:=aA (fun(w':World) (g:Gr w w')=>(⟨Nat.lt_of_lt_of_le zb g.size,(g.cell _ _ zb).trans b1,(g.cell _ _ zb).trans b2⟩:b<w'.heap.size∧w'.cell? ⟨b,1,none⟩=some (.slice a1 Q.length c1')∧w'.cell? ⟨b,2,none⟩=some (.slice a2 Q.length c2')));have G0:Gr w (w.alloc (.cells #[.int .i64 0,.int .i64 0,.int .i64 0,.slice none 0 0,.slice none 0 0,.slice none 0 0,.slice none 0 0,.slice none 0 0,.bool false] 47)):=(Gr.refl _).alloc _;obtain⟨zb0,b10,-⟩:=HB.out _ G0;have HG0:=aA G0;have HNW:=aA (fun(w2:World) (u:Value)=>@RqS.new w w2 (dQ Q) u s d en);clear h hR hst b0 b1 b2 b3 zb G0;go_enter Tryz.func109,Tryz.ntmps109
 go_upto_region 2 with (first|(go_at_call 50;(with_reducible refine(HCL.out _ HG0.out).mono ?_);rintro e w2 ⟨u,rfl,g2,o2⟩;obtain⟨ua,uc,rfl⟩:=aC o2;have HQ0:=aA (HNW.out w2 _ g2 o2);clear g2 o2))
 try rw[hls] at HQ0
 clear HCL HNW zb0 b10;have hgz:=HQ0.out.gr;generalize w2.alloc (.cells #[.int .i64 s,.int .i64 d,.int .i64 en,.slice ua Q.length uc,.slice none 0 0,.slice none 0 0,.slice none 0 0,.slice none 0 0,.bool false] 47)=w3 at *;generalize w2.heap.size=rb at *;generalize hrz:w.heap.size=rz at HQ0 ⊢;obtain⟨zb,b1,b2⟩:=HB.out _ hgz;clear hgz;go_wp2_with fail
 go_loopw [26] (fun i wr=>∃(k:Nat) (nv:Value),i= .int .i64 k∧k≤Q.length∧RqS w rb rz wr ⟨s,d,en,dQ Q,lG (Q.take k),[],[],[],false⟩ ⟨.slice ua Q.length uc,nv,.slice none 0 0,.slice none 0 0,.slice none 0 0⟩) (fun i _=>Q.length-(intOf i).toNat)
 case atStart=>exact⟨0,.slice none 0 0,rfl,Nat.zero_le _,HQ0.out⟩
 case round=>
  obtain⟨k,nv,rfl,hk,hq'⟩:=hrel;clear zb b1 b2 HQ0;have HQ:=aA hq';have g:=hq'.gr;obtain⟨zb,b1,b2⟩:=HB.out _ g;clear hq';by_cases hlt:k<Q.length
  ·have hk1:(k:Int)<(Q.length:Int):=by omega
   have hkl:k<(dQ Q).length:=by rw[hls];exact hlt
   obtain⟨g2,c2'',e2,-,hg2⟩:=kN HPO.out (by omega);cases e2
   have yp:wr.cell? ⟨g2,k,none⟩=some (.int .i64 Q[k].1.p):=by
    rw[g.cell _ _ hg2,World.ownsRow.cellAt HPO.out k (by omega)];unfold lY;rw[List.getElem?_map,List.getElem?_eq_getElem hlt];rfl
   have zg2:=Nat.lt_of_lt_of_le hg2 g.size;have his:bQ wr (.slice a1 (dQ Q).length c1') (dQ Q):=by rw[hls];exact HIS.out.gr g
   obtain⟨bb,o,hs,z,y0,y1,y2⟩:=his.at k hkl;subst hs;have hsk:(dQ Q)[k]=stF Q[k].1:=by simp[dQ]
   rw[hsk] at y0 y1 y2;have HTK:=aA (Gq Q k hlt);have hnl:(lG (Q.take k)).length≤100:=by have:=Bw (Q.take k);rw[List.length_take] at this;omega
   unfold stF at y0 y1 y2;dsimp only at y0 y1 y2;generalize Q[k].1.x.e=E at *;generalize Q[k].1.x.x=I at *;generalize Q[k].1.o=O at *;generalize Q[k].1.p=N at *;by_cases hn:N=0
   ·subst hn;have HT2:Hid (lG (Q.take (k+1))=lG (Q.take k)):=by show _=_;rw[HTK.out];unfold kD;rw[if_pos rfl]
    clear HTK hkl hsk his;go_wp2_with fail
    go_roundw
    case rel=>exact⟨k+1,nv,by go_num,hlt,by rw[HT2.out];exact HQ.out.grow ((Gr.refl _).alloc _)⟩
    case measure=>simp[intOf];omega
   ·have HT2:Hid (lG (Q.take (k+1))=lG (Q.take k)++[⟨E,N⟩]):=by show _=_;rw[HTK.out];unfold kD;rw[if_neg hn]
    have hn2:(N !=0)=true:=jW hn;clear HTK hkl hsk his hn;go_upto_region 6 with fail
    have gA:Gr wr (wr.alloc (.cells #[.int .i64 E,.int .i64 I,.int .i64 O] 81)):=(Gr.refl _).alloc _;have HQA:=aA (HQ.out.grow gA);have x0:(wr.alloc (.cells #[.int .i64 E,.int .i64 I,.int .i64 O] 81)).cell? ⟨wr.heap.size,0,none⟩=some (.int .i64 E):=by rw[World.cell?_alloc_mark];rfl
    have zx:wr.heap.size<(wr.alloc (.cells #[.int .i64 E,.int .i64 I,.int .i64 O] 81)).heap.size:=by simp
    have yp':=(gA.cell _ _ zg2).trans yp;have b2':=(gA.cell _ _ zb).trans b2;have zb':=Nat.lt_of_lt_of_le zb gA.size;have zg2':=Nat.lt_of_lt_of_le zg2 gA.size;clear yp b2 zb zg2 b1 y0 y1 y2 z HQ g gA;generalize wr.alloc (.cells #[.int .i64 E,.int .i64 I,.int .i64 O] 81)=wq at *;generalize wr.heap.size=xb at *;obtain⟨na,nc,hnv⟩:=aC HQA.out.rn.nd;dsimp only at hnv;subst hnv
    (obtain⟨zr,⟨c0,c1,c2,c3,c4,c5,c6,c7,c8⟩,fr⟩:=HQA.out.cells;have q4:=fr 4;clear fr;dsimp only at c0 c1 c2 c3 c4 c5 c6 c7 c8)
    have far4:=aK HQA.out.rn.nd HQA.out.hb (by decide);have z0:=HQA.out.gr.size;go_region_law ((refine step_append_lies _ (by rfl) _ _ _ (by rfl) w.heap.size 112 i0 _ 2 16 Tryz.underlying44 hi0 hi1 hi2 hi3 rfl (by decide) (.slice na (lG (Q.take k)).length nc) (lG (Q.take k)).length ((lG (Q.take k)).flatMap Nd.cs) (by rfl) ((aE HQA.out.rn.nd ((Gr.refl _).alloc _)).drew) ⟨wq.heap.size,0,none⟩ 1 1 [.int .i64 E,.int .i64 N] (by rfl) (by rfl) (World.news_of_block (heap_alloc_new wq _)) (by simp[Value.oneCell']) (by omega) (by unfold maxLen;omega) (by omega) (by simp;omega) (wq.heap.size+1) (by simp) ?_;intro gg cap w9 hown hgrow hat hlt9;have cu9:=(hgrow.cell_far ⟨rb,4,none⟩ (by simp;omega) (by simpa using far4));have fu9:=(hgrow.frozen_far ⟨rb,4,none⟩ (by simp;omega) (by simpa using far4))))
    all_goals go_wp2_with fail
    all_goals go_roundw
    all_goals try (case measure=>(simp[intOf];omega))
    all_goals
     case rel=>
      refine⟨k+1,.slice (some ⟨gg,0,none⟩) ((lG (Q.take k)).length+1) cap,by go_num,hlt,?_⟩;rw[HT2.out];exact(HQA.out.putNd (x:=⟨E,N⟩) (((Gr.refl wq).alloc _).drew) hgrow hown (by simpa using hat)).1
  ·have hk1:¬(k:Int)<(Q.length:Int):=by omega
   have hk2:k=Q.length:=by omega
   subst hk2;rw[List.take_length] at HQ;obtain⟨na,nc,hnv⟩:=aC HQ.out.rn.nd;dsimp only at hnv;subst hnv;have HF:=aA (fun w9=>HQ.out.fin w9);obtain⟨zz,⟨z0,z1,z2,z3,z4,z5,z6,z7,z8⟩,f0,f1,f2,f3,f4,f5,f6,f7,f8⟩:=lN HQ.out.hz
   (obtain⟨zr,⟨c0,c1,c2,c3,c4,c5,c6,c7,c8⟩,fr⟩:=HQ.out.cells;have q4:=fr 4;clear fr;dsimp only at c0 c1 c2 c3 c4 c5 c6 c7 c8)
   go_wp2_with fail
   try simp only[Exit.inBlock,Exit.then]
   obtain⟨hzz,q1,q2⟩:=HF.out _ rfl;rw[hrz] at q1;refine bodyPost_ret (results_cell_row rfl _ _ rz 47 _ _ _ rfl hzz Tryz.underlying47 rfl (by kernel_rfl)) rfl ?_;exact⟨⟨.slice ua Q.length uc,.slice na (lG Q).length nc,.slice none 0 0,.slice none 0 0,.slice none 0 0⟩,rfl,q1,q2⟩
theorem uI(b:Nat)(P:Pln)(w:World)(hN:eR w b P):
  Calls Tryz.prog 48 #[.pointer (some ⟨b,0,none⟩)] w fun e w'=>e= .returned (.int .i64 P.ss.length)∧Gr w w':=by
 obtain⟨v1,v2,v3,v4,bn,n1,f1,br,n2,f2,bl,n3,f3,bd,n4,f4,hb,hp,c9,c10,c11,c12,m1,hf1,m2,hf2,m3,m4⟩:=hN;obtain⟨a1,c1,a2,c2,a3,c3,a4,c4,hv,-,-,h3,-⟩:=hp;unfold aX at hv;simp only[Value.agg.injEq,Array.mk.injEq,List.cons.injEq,and_true,true_and] at hv;obtain⟨rfl,rfl,rfl,rfl⟩:=hv;obtain⟨zb,-,-,b2,-⟩:=hb;go_enter Tryz.func48,Tryz.ntmps48
 go_wp2_with fail
 go_ret
 exact⟨rfl,Gr.refl _⟩
def atS(P:Pln)(i:Int):Prt×Bool:=if 0≤i∧i<P.ss.length then ((P.ss.getD i.toNat default).at_,true) else (⟨0,0⟩,false)
theorem Ho(b:Nat)(P:Pln)(i:Int)(w:World)(hN:eR w b P):
  Calls Tryz.prog 106 #[.pointer (some ⟨b,0,none⟩),.int .i64 i] w fun e w'=>e= .returned (.tuple #[.agg #[.int .i64 (atS P i).1.e,.int .i64 (atS P i).1.x],.bool (atS P i).2])∧Gr w w':=by
 obtain⟨v1,v2,v3,v4,bn,n1,f1,br,n2,f2,bl,n3,f3,bd,n4,f4,hb,hp,c9,c10,c11,c12,m1,hf1,m2,hf2,m3,m4⟩:=hN;obtain⟨a1,c1,a2,c2,a3,c3,a4,c4,hv,-,-,h3,-⟩:=hp;unfold aX at hv;simp only[Value.agg.injEq,Array.mk.injEq,List.cons.injEq,and_true,true_and] at hv;obtain⟨rfl,rfl,rfl,rfl⟩:=hv;obtain⟨zb,-,-,b2,-⟩:=hb;have m3':=aL.len h3;unfold maxLen at m3';by_cases h0:i<0
 ·have HE:Hid (atS P i=(⟨0,0⟩,false)):=aA (by unfold atS;rw[if_neg (by omega)]);rw[HE.out];go_enter Tryz.func106,Tryz.ntmps106
  go_wp2_with fail
  refine bodyPost_ret (v:=.tuple #[.agg #[.int .i64 0,.int .i64 0],.bool false]) (by simp[results,Tryz.results106,go_sem]) rfl ⟨rfl,?_⟩;first|exact(Gr.refl _).alloc _|exact(((Gr.refl _).alloc _).setCell (Nat.le_refl _) _).setCell (Nat.le_refl _) _
 ·obtain⟨k,rfl⟩:=Int.eq_ofNat_of_zero_le (show 0≤i by omega);by_cases hk:k<P.ss.length
  ·have hk1:(k:Int)<(P.ss.length:Int):=by omega
   have hk3:¬P.ss.length≤k:=by omega
   obtain⟨bb,o,hs,z,y0,y1,y2,y3⟩:=h3.at k hk;subst hs;have HE:Hid (atS P k=(P.ss[k].at_,true)):=aA (by unfold atS;rw[if_pos (by omega),Int.toNat_natCast,aP _ _ hk]);rw[HE.out];generalize P.ss[k]=q at *;obtain⟨qn,⟨qe,qx⟩,qa⟩:=q;dsimp only at y0 y1 y2 y3 ⊢;clear HE;go_enter Tryz.func106,Tryz.ntmps106
   go_wp2_with fail
   refine bodyPost_ret (v:=.tuple #[.agg #[.int .i64 qe,.int .i64 qx],.bool true]) (by simp[results,Tryz.results106,go_sem]) rfl ⟨rfl,?_⟩;first|exact(Gr.refl _).alloc _|exact(((Gr.refl _).alloc _).setCell (Nat.le_refl _) _).setCell (Nat.le_refl _) _
  ·have hk1:¬(k:Int)<(P.ss.length:Int):=by omega
   have hk3:P.ss.length≤k:=by omega
   have HE:Hid (atS P k=(⟨0,0⟩,false)):=aA (by unfold atS;rw[if_neg (by omega)]);rw[HE.out];go_enter Tryz.func106,Tryz.ntmps106
   go_wp2_with fail
   refine bodyPost_ret (v:=.tuple #[.agg #[.int .i64 0,.int .i64 0],.bool false]) (by simp[results,Tryz.results106,go_sem]) rfl ⟨rfl,?_⟩;first|exact(Gr.refl _).alloc _|exact(((Gr.refl _).alloc _).setCell (Nat.le_refl _) _).setCell (Nat.le_refl _) _
end Go.Proofs.YthkbcablnpbmgaaGreatDoor
