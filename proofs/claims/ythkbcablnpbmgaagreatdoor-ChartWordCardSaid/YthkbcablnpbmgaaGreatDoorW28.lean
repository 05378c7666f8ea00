/- Helps of the proof of ChartWord. -/
import Derived.Test.YthkbcablnpbmgaaGreatDoorRows
import Derived.Test.YthkbcablnpbmgaaGreatDoorW27
import Derived.Test.YthkbcablnpbmgaaGreatDoorW24
import Derived.Test.YthkbcablnpbmgaaGreatDoorW16
import Derived.Deep.LoopGhost
import Derived.WalkMore
import Derived.Deep.CutRange
import Derived.Deep.CutBlock
import Derived.Deep.AppendLies
import Derived.BigRegion
set_option linter.unusedVariables false
set_option linter.unusedSimpArgs false
set_option maxHeartbeats 16000000
set_option maxRecDepth 100000
namespace Go.Proofs.YthkbcablnpbmgaaGreatDoor
open Go.ChangeShapes Go.WideShapes Go.ChangeAt Go.RowKit Go.Maps
theorem Tryz.infoRo:(Tryz.prog.info? 47).map (fun i=>(i.zero,i.size,i.bytes))=some (some (.agg #[.int .i64 0,.int .i64 0,.int .i64 0,.slice none 0 0,.slice none 0 0,.slice none 0 0,.slice none 0 0,.slice none 0 0,.bool false]),9,152):=by kernel_rfl
theorem oO{P:Pln}(hk:chk P=0){y:Prt}(hy:y∈bB P):cI y:=by
 obtain⟨⟨h1,h2⟩,h3,h4,-⟩:=pS (dM hk hy);obtain⟨hz,-⟩:=eT hk;exact⟨kA (by omega) (by omega),kA (by omega) (by omega)⟩
theorem mY{P:Pln}(hk:chk P=0){y:Prt}(hy:y∈bB P){o:Int}(h0:0≤o)(h1:o≤3):cI ⟨y.e,o⟩:=
 ⟨(oO hk hy).1,show I64 o from kA (by omega) (by omega)⟩
theorem OfS.new{w w2:World}{x0:Prt}{be:Int}(g:Gr w w2):OfS w (w2.heap.size+1) w2.heap.size be [] [] (.slice none 0 0) (.slice none 0 0) (.slice none 0 0) (.slice none 0 0) x0 ((w2.alloc (.cells #[.int .i64 x0.e,.int .i64 x0.x] 63)).alloc (.cells #[.int .i64 be,.slice none 0 0,.slice none 0 0,.slice none 0 0] 166)):=by
 have g1:Gr w2 ((w2.alloc (.cells #[.int .i64 x0.e,.int .i64 x0.x] 63)).alloc (.cells #[.int .i64 be,.slice none 0 0,.slice none 0 0,.slice none 0 0] 166)):=((Gr.refl _).alloc _).alloc _;have z:=g.size;have hs:(w2.alloc (.cells #[.int .i64 x0.e,.int .i64 x0.x] 63)).heap.size=w2.heap.size+1:=by simp
 refine⟨g.trans g1,⟨by omega,z⟩,⟨?_,⟨rfl,.inl ⟨rfl,rfl⟩⟩,⟨rfl,.inl ⟨rfl,rfl⟩⟩,⟨rfl,.inl ⟨rfl,rfl⟩⟩⟩,(fun q hq=>by cases hq),bG.nil _ _,fun w' _=>bM.nil _ _,?_⟩
 ·rw[←hs];exact heap_alloc_new _ _
 ·exact(((Gr.refl (w2.alloc (.cells #[.int .i64 x0.e,.int .i64 x0.x] 63))).alloc _).block _ (by omega)).trans (heap_alloc_new _ _)
def OfI(P:Pln)(s:Nat)(be:Int)(w:World)(b b7:Nat)(M:Nat)(vo:Value)(wr:World):Prop:=
 ∃Q O v1 v2 v3 x,OfS w b b7 be Q O v1 v2 v3 vo x wr∧Q.length≤12∧(∀q∈Q,q.1.x∈bB P∧∀a∈q.1.l,0≤a.1∧a.1≤3)∧x∈bB P∧O.map Prod.fst++rG P be s Q x=ofR P s∧tC P be s Q x≤M
def OfJ(P:Pln)(s:Nat)(be:Int)(w:World)(b b7:Nat)(M:Nat)(vo:Value)(wr:World):Prop:=
 ∃Q O v1 v2 v3 x,OfS w b b7 be Q O v1 v2 v3 vo x wr∧Q.length≤12∧(∀q∈Q,q.1.x∈bB P∧∀a∈q.1.l,0≤a.1∧a.1≤3)∧O.map Prod.fst++jH P be s Q=ofR P s∧iR P be s Q≤M
theorem OfI.no{P:Pln}{s:Nat}{be:Int}{w:World}{b b7 M:Nat}{vo:Value}{wr w2:World}{Q:List (Fr×Value)}{O:List (Rod×S5)}{v1 v2 v3:Value}{x:Prt}(h:OfS w b b7 be Q O v1 v2 v3 vo x wr)(hl:Q.length≤12)(hq:∀q∈Q,q.1.x∈bB P∧∀a∈q.1.l,0≤a.1∧a.1≤3)
  (ht:O.map Prod.fst++rG P be s Q x=ofR P s) (hc:tC P be s Q x≤M) (hm:Ag be (dQ Q) x.e=false) (g:Gr wr w2):OfJ P s be w b b7 (M-1) vo w2:=by
 obtain⟨h1,h2⟩:=xP (P:=P) (s:=s) hm;exact⟨Q,O,v1,v2,v3,x,h.grow g,hl,hq,by rw[←h1];exact ht,by omega⟩
theorem uA{s d en:Int}{Q:List (Fr×Value)}(h:Q.length≤100):gC (gU s d en Q):=by
 have h1:=fE Q;have h2:=Bw Q;unfold gC gU maxLen;dsimp only
 refine⟨by omega,by omega,by simp,by simp,by simp⟩
theorem Fd{P:Pln}{s:Nat}{O:List (Rod×S5)}{T:List Rod}(h:O.map Prod.fst++T=ofR P s):O.length≤4096:=by
 have h1:=congrArg List.length h;have h2:=tG P s;rw[List.length_append,List.length_map] at h1;omega
theorem Kk{P:Pln}{Q:List (Fr×Value)}{x:Prt}{v:Value}(hq:∀q∈Q,q.1.x∈bB P∧∀a∈q.1.l,0≤a.1∧a.1≤3)(hx:x∈bB P):∀q∈Q++[(iO P x,v)],q.1.x∈bB P∧∀a∈q.1.l,0≤a.1∧a.1≤3:=fun q hq'=>by
 rcases List.mem_append.1 hq' with h|h
 ·exact hq q h
 ·rw[List.mem_singleton.1 h];exact⟨hx,fun a ha=>nI ha⟩
theorem wC{α:Type}(l:List α):l=[]∨∃t x,l=t++[x]:=
 pF (p:=fun l=>l=[]∨∃t x,l=t++[x]) (.inl rfl) (fun l x _=>.inr ⟨l,x,rfl⟩) l
theorem Oq{P:Pln}{Q:List (Fr×Value)}{q:Fr×Value}{a:Int×Int}{l:List (Int×Int)}{v:Value}(hq:∀r∈Q++[q],r.1.x∈bB P∧∀a∈r.1.l,0≤a.1∧a.1≤3)(hl:q.1.l=a::l):∀r∈Q++[(dP q.1 a l,v)],r.1.x∈bB P∧∀a∈r.1.l,0≤a.1∧a.1≤3:=fun r hr=>by
 rcases List.mem_append.1 hr with h|h
 ·exact hq r (List.mem_append_left _ h)
 ·rw[List.mem_singleton.1 h];have:=hq q (by simp);exact⟨this.1,fun c hc=>this.2 c (by rw[hl];exact List.mem_cons_of_mem _ hc)⟩
theorem OfJ.found{P:Pln}{s:Nat}{be:Int}{w:World}{b b7 M:Nat}{vo:Value}{wr:World}{Q:List (Fr×Value)}{O:List (Rod×S5)}{v1 v2 v3:Value}{x:Prt}{r:Rod}{V:S5}{T:List Rod}(h:OfS w b b7 be Q (O++[(r,V)]) v1 v2 v3 vo x wr)(hl:Q.length≤12)(hq:∀q∈Q,q.1.x∈bB P∧∀a∈q.1.l,0≤a.1∧a.1≤3)
  (ht:O.map Prod.fst++T=ofR P s) (hT:T=[r]++jH P be s Q) (hc:iR P be s Q≤M):OfJ P s be w b b7 M vo wr:=
 ⟨Q,O++[(r,V)],v1,v2,v3,x,h,hl,hq,by rw[List.map_append,List.append_assoc,←ht,hT];rfl,hc⟩
theorem De(bn:Nat)(P:Pln)(s:Nat)(hs:s<P.ss.length)(w:World)(hN:eR w bn P)(hk:chk P=0)(hok:fN P):
  Calls Tryz.prog 49 #[.pointer (some ⟨bn,0,none⟩),.int .i64 s] w fun e w'=>∃v O,e= .returned v∧bG w.heap.size w' v O∧bM w.heap.size w' O∧O.map Prod.fst=ofR P s∧Gr w w':=by
 have hAt:atS P s=(P.ss[s].at_,true):=by
  unfold atS;rw[if_pos ⟨by omega,by omega⟩,Int.toNat_natCast,aP _ _ hs]
 have HA:=aA (Ho bn P s w hN);rw[hAt] at HA;have hat:=hok.ss _ (List.getElem_mem hs);have HR:Hid (ofR P s=match aO P.js P.ss[s].at_ with|none=>[]|some x=>onR P P.ss[s].at_.e 12 (gO s) x):=by
  show ofR P s=_;unfold ofR;rw[List.getElem?_eq_getElem hs];rfl
 generalize P.ss[s].at_=A at *;obtain⟨be,bx⟩:=A;dsimp only at HA HR hat;have HNX:=aA (fun(y:Prt) (hy:cI y) (w':World) (g:Gr w w')=>kW bn P y w' (hN.gr g) hy);have HRD:=aA (fun(y:Prt) (hy:cI y) (w':World) (g:Gr w w')=>qG bn P y w' (hN.gr g) hy);have HKD:=aA (fun(i:Int) (w':World) (g:Gr w w')=>iQ bn P i w' (hN.gr g));have HN:=aA hN;have HN0:=aA (HNX.out ⟨be,bx⟩ ⟨hat.1,hat.2.1⟩);clear hN hAt hat hok;cases hx0:aO P.js ⟨be,bx⟩ with
 | none=>
  rw[hx0] at HN0 HR;dsimp only at HR;have HN0':Hid (∀w',Gr w w'→Calls Tryz.prog 53 #[.pointer (some ⟨bn,0,none⟩),.agg #[.int .i64 be,.int .i64 bx]] w' fun e w''=>e= .returned (.tuple #[.agg #[.int .i64 0,.int .i64 0],.bool false])∧Gr w' w''):=HN0;clear HN0 hx0;go_enter Tryz.func49,Tryz.ntmps49
  go_wp2_with fail
  go_step3
  go_wp2_with (first|(go_at_call 106;(with_reducible refine(HA.out).mono ?_);rintro e1 w1 ⟨rfl,g1⟩)|(go_at_call 53;(with_reducible refine(HN0'.out _ (g1.alloc _)).mono ?_);rintro e2 w2 ⟨rfl,g2⟩))
  try rw[Exit.noGoto_ret]
  go_ret
  exact⟨_,[],rfl,bG.nil _ _,bM.nil _ _,HR.out.symm,((g1.alloc _).trans g2).alloc _⟩
 | some x0=>
 rw[hx0] at HN0 HR;dsimp only at HR;have hxp:x0∈bB P:=by rw[dI];exact dY P.js hx0
 have HN0':Hid (∀w',Gr w w'→Calls Tryz.prog 53 #[.pointer (some ⟨bn,0,none⟩),.agg #[.int .i64 be,.int .i64 bx]] w' fun e w''=>e= .returned (.tuple #[.agg #[.int .i64 x0.e,.int .i64 x0.x],.bool true])∧Gr w' w''):=HN0;clear HN0 hx0;have HT0:Hid (rG P be s [] x0=ofR P s):=by
  show rG P be s [] x0=ofR P s;rw[HR.out];show onR P be 12 (gO s) x0++[]=_;rw[List.append_nil]
 clear HR;go_enter Tryz.func49,Tryz.ntmps49
 go_wp2_with fail
 go_step3
 go_upto_region 8 with (first|(go_at_call 106;(with_reducible refine(HA.out).mono ?_);rintro e1 w1 ⟨rfl,g1⟩)|(go_at_call 53;(with_reducible refine(HN0'.out _ (g1.alloc _)).mono ?_);rintro e2 w2 ⟨rfl,g2⟩))
 have zA:w1.heap.size<w2.heap.size:=Nat.lt_of_lt_of_le (by simp) g2.size;have cA:w2.cell? ⟨w1.heap.size,0,none⟩=some (.int .i64 be):=(g2.cell _ _ (by simp)).trans (by rw[World.cell?_alloc_mark];rfl);go_wp2_with fail
 have G2:Gr w w2:=(g1.alloc _).trans g2;have HS0:=aA (OfS.new (x0:=x0) (be:=be) G2);clear zA cA g1 g2 HA HN0' G2;generalize ((w2.alloc (.cells #[.int .i64 x0.e,.int .i64 x0.x] 63)).alloc (.cells #[.int .i64 be,.slice none 0 0,.slice none 0 0,.slice none 0 0] 166))=w3 at *;generalize w2.heap.size=b7 at *;generalize hbb:b7+1=b at *;clear hbb;go_step3
 go_wp2_with fail
 go_loopg [8] (tC P be s [] x0) (fun M v8 wr=>OfI P s be w b b7 M v8 wr)
 case atStart=>exact⟨[],[],_,_,_,x0,HS0.out,by simp,(fun q hq=>by cases hq),hxp,HT0.out,Nat.le_refl _⟩
 case round=>
  clear HS0 HT0 hxp;obtain⟨Q,O,v1,v2,v3,x,hS,hl,hqs,hx,htot,hcos⟩:=hrel;have HS:=aA hS;have HQS:=aA hqs;have HTT:=aA htot;have HCC:=aA hcos;clear hS hqs htot hcos;obtain⟨oa,oc,hov⟩:=aC HS.out.out;subst hov;obtain⟨i0,hi0,hi1,hi2,hi3⟩:=info_parts Tryz.infoRo;go_wp2_with fail
  go_step3
  go_step
  go_cut [8] from 36 to 54 (fun v8 wc=>OfJ P s be w b b7 (gk-1) v8 wc∧1≤gk)
  case first=>
   have hls:=fE Q;obtain⟨a1,a2,a3,d1,d2,d3,e1,e2,e3⟩:=HS.out.pa.len;subst e1 e2 e3;have hst:dO w.heap.size wr (.slice a1 (dQ Q).length d1) (dQ Q):=by rw[hls];exact HS.out.pa.toR.st
   obtain⟨zb,⟨b0,b1,-,-⟩,-⟩:=HS.out.pa.cells;have HMY:=aA (Jd be x.e (dQ Q) a1 d1 b wr zb (hst.stps (by rw[hls];unfold maxLen;omega)) b0 (by rw[hls];exact b1));have x70:=cell_of_row wr b7 0 _ _ _ HS.out.x7;have z7:=aB HS.out.x7;simp at x70;clear hst b0 b1 zb hls;cases hm:Ag be (dQ Q) x.e with
   | false=>
    rw[hm] at HMY;have HNO:=aA (fun(w2:World) (g:Gr wr w2)=>OfI.no HS.out hl HQS.out HTT.out HCC.out hm g);have h1:=(xP (P:=P) (s:=s) hm).2;have hM1:1≤gk:=by have:=HCC.out;omega
    clear hm h1;go_wp2_with (first|(go_at_call 107;(with_reducible refine(HMY.out).mono ?_);rintro e4 w4 ⟨rfl,g4⟩))
    go_meet
    case rel=>exact⟨HNO.out _ g4,hM1⟩
   | true=>
    rw[hm] at HMY;go_upto_region 10 with (first|(go_at_call 107;(with_reducible refine(HMY.out).mono ?_);rintro e4 w4 ⟨rfl,g4⟩))
    have HS4:=aA (HS.out.grow g4);clear HS HMY x70 z7 g4;obtain⟨h12,hts,hcs⟩:=vU (P:=P) (s:=s) (v:=.bool false) hm;have hys:=fun v=>vU (P:=P) (be:=be) (s:=s) (Q:=Q) (x:=x) (v:=v) hm;have HYS:=aA hys;have hM1:1≤gk:=by have:=HCC.out;omega
    clear hts hcs hys hm;have HPU:=aA (Iw w bn P x w4 b be Q _ _ _ (fun k=>(Value.slice oa O.length oc).ownBlock=some k∨k=b7) HN.out HS4.out.gr HS4.out.lo.1 HS4.out.pa (by omega) (fun k hk=>HS4.out.lt k (.inr hk)));have x70:=cell_of_row w4 b7 0 _ _ _ HS4.out.x7;have x71:=cell_of_row w4 b7 1 _ _ _ HS4.out.x7;have z7:=aB HS4.out.x7;simp at x70 x71;go_upto_region 11 with (first|(go_at_call 108;(with_reducible refine(HPU.out).mono ?_);rintro e5 w5 ⟨rfl,hP5⟩;have HP5:=aA hP5;clear hP5))
    obtain⟨v5,u1,u2,u3,hS5⟩:=HS4.out.push HP5.out;have HS5:=aA hS5;clear x70 x71 z7 HPU HP5 hS5 HS4;have hpq:=Kk (v:=v5) HQS.out hx;have HPQ:=aA hpq;have hk5:=HYS.out v5;have HY5:=aA hk5;clear hpq hk5 HYS;have HK5:=aA (HKD.out x.e w5 HS5.out.gr);rw[kI] at HK5;have x70:=cell_of_row w5 b7 0 _ _ _ HS5.out.x7;have z7:=aB HS5.out.x7;simp at x70;by_cases h4:aF P x.e=4
    ·have t4:(aF P x.e==4)=true:=fP h4;go_upto_region 12 with (first|(go_at_call 58;(with_reducible refine(HK5.out).mono ?_);rintro e6 w6 ⟨rfl,g6⟩))
     have HSq:=aA (HS5.out.grow g6);have hol:=Fd HTT.out;have hQl:(Q++[(iO P x,v5)]).length≤12:=by rw[List.length_append,List.length_singleton];omega
     have HRO:=aA (rW w.heap.size b be (Q++[(iO P x,v5)]) u1 u2 u3 s (-1) 2 w6 HSq.out.pa (by omega));have HTQ:Hid (rG P be s Q x=[gU s (-1) 2 (Q++[(iO P x,v5)])]++jH P be s (Q++[(iO P x,v5)])):=aA (by
      have:=HY5.out.2.1;rw[if_pos h4] at this;exact this)
     have HLE:Hid (gC (gU s (-1) 2 (Q++[(iO P x,v5)]))):=uA (by omega);have HCB:Hid (iR P be s (Q++[(iO P x,v5)])≤gk-1):=aA (by have:=HY5.out.2.2;have:=HCC.out;omega);have z6:=HSq.out.gr.size;clear HS5 g6 x70 z7 t4 h4 HY5 HK5 HQS;generalize gU s (-1) 2 (Q++[(iO P x,v5)])=RR at *;go_wp2_with (first|(go_at_call 109;(with_reducible refine(HRO.out).mono ?_);rintro e7 w7 ⟨⟨t0,t1,t2,t3,t4⟩,rfl,hN7',g7⟩;obtain⟨sa0,sc0,hsv0⟩:=aC hN7'.st;obtain⟨sa1,sc1,hsv1⟩:=aC hN7'.nd;obtain⟨sa2,sc2,hsv2⟩:=aC hN7'.gd;obtain⟨sa3,sc3,hsv3⟩:=aC hN7'.zn;obtain⟨sa4,sc4,hsv4⟩:=aC hN7'.hd;dsimp only at hsv0 hsv1 hsv2 hsv3 hsv4;subst hsv0 hsv1 hsv2 hsv3 hsv4;have HN7:=aA hN7';have HS7:=aA (HSq.out.grow g7);have z7:=HS7.out.gr.size;clear hN7' g7;unfold eL;dsimp only)|(at_builtin;refine wpList_append_lies _ rfl _ _ 30 rfl w.heap.size 47 i0 _ 9 152 Tryz.underlying30 hi0 hi1 hi2 hi3 rfl (by decide) _ _ _ rfl (aE HS7.out.out ((Gr.refl w7).alloc _)) ⟨w7.heap.size,0,none⟩ 1 1 [.int .i64 RR.fr,.int .i64 RR.dst,.int .i64 RR.en,.slice sa0 RR.st.length sc0,.slice sa1 RR.nd.length sc1,.slice sa2 RR.gd.length sc2,.slice sa3 RR.zn.length sc3,.slice sa4 RR.hd.length sc4,.bool RR.ba] rfl rfl ?c1 ?c2 ?c3 ?c4 ?c5 ?c6 (w7.heap.size+1) ?c7 ?_))
     try (case c1=>exact World.news_of_block (heap_alloc_new w7 _))
     try (case c2=>simp[Value.oneCell'])
     try (case c3=>omega)
     try (case c4=>(unfold maxLen;omega))
     try (case c5=>omega)
     try (case c6=>(simp;omega))
     try (case c6=>omega)
     try (case c7=>simp)
     intro gg cap w9 hown hgrow hat hgl;have HS9:=aA (HS7.out.put (r:=RR) (V:=(⟨.slice sa0 RR.st.length sc0,.slice sa1 RR.nd.length sc1,.slice sa2 RR.gd.length sc2,.slice sa3 RR.zn.length sc3,.slice sa4 RR.hd.length sc4⟩:S5)) (M:=w6.heap.size) (fun k hk=>HSq.out.lt k hk) z6 HN7.out HLE.out ((Gr.refl w7).alloc _) hgrow hown (by simpa using hat));clear hown hgrow hat hgl;go_wp2_with fail
     go_meet
     case rel=>exact⟨OfJ.found HS9.out hQl HPQ.out HTT.out HTQ.out HCB.out,hM1⟩
    ·have t4:(aF P x.e==4)=false:=dN h4;have HTQ:Hid (rG P be s Q x=jH P be s (Q++[(iO P x,v5)])):=aA (by
      have:=HY5.out.2.1;rw[if_neg h4] at this;exact this)
     have hQl:(Q++[(iO P x,v5)]).length≤12:=by rw[List.length_append,List.length_singleton];omega
     have HCB:Hid (iR P be s (Q++[(iO P x,v5)])≤gk-1):=aA (by have:=HY5.out.2.2;have:=HCC.out;omega);clear h4 HY5;go_wp2_with (first|(go_at_call 58;(with_reducible refine(HK5.out).mono ?_);rintro e6 w6 ⟨rfl,g6⟩))
     go_meet
     case rel=>exact⟨⟨_,O,_,_,_,x,HS5.out.grow g6,hQl,HPQ.out,by rw[←HTQ.out];exact HTT.out,HCB.out⟩,hM1⟩
  case rest=>
  obtain⟨hJ,hM1⟩:=hcut;have HJ:=aA hJ;have hgt:∃M,gk=M+1:=⟨gk-1,by omega⟩;obtain⟨M,rfl⟩:=hgt;clear hJ HS HQS HTT HCC hl hx hM1;go_wp2_with fail
  go_step3
  go_wp2_with fail
  go_loopg [8] (M+1-1) (fun n v8 wr=>OfJ P s be w b b7 n v8 wr∧n≤M)
  case atStart=>exact⟨HJ.out,by omega⟩
  case round=>
   clear HJ;obtain⟨⟨Q,O,v1,v2,v3,x,hS,hl,hqs,htot,hcos⟩,hnM⟩:=hrel;have HS:=aA hS;have HQS:=aA hqs;have HTT:=aA htot;have HCC:=aA hcos;have HNM:=aA hnM;clear hS hqs htot hcos hnM;obtain⟨oa,oc,hov⟩:=aC HS.out.out;subst hov;have hol:=Fd HTT.out;rcases wC Q with rfl|⟨Q0,q,rfl⟩
   ·obtain⟨a1,a2,a3,d1,d2,d3,e1,e2,e3⟩:=HS.out.pa.len;subst e1 e2 e3;obtain⟨zb,⟨-,b1,-,-⟩,-⟩:=HS.out.pa.cells;have HF:Hid (O.map Prod.fst=ofR P s):=aA (by
     have:=HTT.out;rw[Jj,List.append_nil] at this;exact this)
    go_wp2_with fail
    rw[Exit.noGoto_exit];go_wp2_with fail
    try rw[Exit.noGoto_ret]
    go_ret
    exact⟨_,O,rfl,HS.out.out,HS.out.rods.now,HF.out,HS.out.gr⟩
   ·have hQ0:(Q0++[q]).length=Q0.length+1:=by rw[List.length_append,List.length_singleton]
    rw[hQ0] at hl;obtain⟨a1,a2,a3,d1,d2,d3,e1,e2,e3⟩:=HS.out.pa.len;rw[hQ0] at e1 e2 e3;subst e1 e2 e3;obtain⟨zb,⟨-,b1,b2,b3⟩,fb⟩:=HS.out.pa.cells;have hp1:=HS.out.pa.st;have hp2:=HS.out.pa.po;have hp3:=HS.out.pa.le;rw[hQ0] at hp1 hp2 hp3;obtain⟨g1,k1,ee1,-,zg1⟩:=kN hp1 (by omega);obtain⟨g2,k2,ee2,-,zg2⟩:=kN hp2 (by omega);obtain⟨g3,k3,ee3,-,zg3⟩:=kN hp3 (by omega);cases ee1
    cases ee2
    cases ee3
    have hy3:wr.cell? ⟨g3,Q0.length,none⟩=some q.2:=by
     rw[World.ownsRow.cellAt hp3 Q0.length (by omega)];simp
    have hk1:((Q0.length+1:Nat):Int)-1=Q0.length:=by omega
    obtain⟨wf,wc⟩:=HS.out.ways q (by simp);have hW:=wf.now;have hcp1:=tP hp1;have hcp2:=tP hp2;have hcp3:=tP hp3;cases hql:q.1.l with
    | nil=>
     rw[hql] at hW;obtain⟨aw,cw,hq2,-⟩:=hW;rw[hq2] at hy3;obtain⟨hp,hpc⟩:=Jb (P:=P) (be:=be) (s:=s) (Q:=Q0) hql;have HP:=aA hp;have HPC:=aA hpc;have HPO:Hid (∀(w':World),Calls Tryz.prog 110 #[.pointer (some ⟨b,0,none⟩)] wr fun e w'=>e= .returned (.tuple #[])∧w'=((wr.drew.setCell ⟨b,1,none⟩ (.slice (some ⟨g1,0,none⟩) Q0.length d1)).setCell ⟨b,2,none⟩ (.slice (some ⟨g2,0,none⟩) Q0.length d2)).setCell ⟨b,3,none⟩ (.slice (some ⟨g3,0,none⟩) Q0.length d3)):=aA fun _=>K5 Q0.length (by omega) _ _ _ _ _ _ b wr zb b1 b2 b3 (fb 1) (fb 2) (fb 3) hcp1 hcp2 hcp3;clear hp1 hp2 hp3 hpc hp wf wc hq2 b2 hcp1 hcp2 hcp3 fb zg1 zg2;go_wp2_with (first|(go_at_call 110;(with_reducible refine(HPO.out wr).mono ?_);rintro e5 w5 ⟨rfl,hw5'⟩;have HW5:=aA hw5';clear hw5'))
     go_roundg (iR P be s Q0)
     case rel=>exact⟨⟨Q0,O,_,_,_,x,HS.out.pop HW5.out,by omega,fun r hr=>HQS.out r (List.mem_append_left _ hr),by rw[←HP.out];exact HTT.out,Nat.le_refl _⟩,by have:=HPC.out;have:=HCC.out;have:=HNM.out;omega⟩
     case measure=>have:=HPC.out;have:=HCC.out;omega
    | cons a l=>
     rw[hql] at hW;obtain⟨gw,ow,cw,hq2,zw,y0,y1⟩:=Iq hW;rw[hq2] at hy3 wc;have hcw:=wc _ _ _ rfl;obtain⟨A,hSL0,hA⟩:=Cw gw ow (l.length+1) cw (by omega) hcw;have hSL:∀w',(Instr.slice 170 (.slice (some ⟨gw,ow,none⟩) (l.length+1) cw) (some (.int .i64 1)) none none).run Tryz.prog w'= .ok (.slice A l.length (cw-1)) w':=hSL0;have HTK:Hid (∀w',Gr wr w'→OfS w b b7 be (Q0++[(dP q.1 a l,.slice A l.length (cw-1))]) O (.slice (some ⟨g1,0,none⟩) (Q0.length+1) d1) (.slice (some ⟨g2,0,none⟩) (Q0.length+1) d2) (.slice (some ⟨g3,0,none⟩) (Q0.length+1) d3) (.slice oa O.length oc) x (((w'.setCell ⟨g3,Q0.length,none⟩ (.slice A l.length (cw-1))).setCell ⟨g1,Q0.length*3+2,none⟩ (.int .i64 a.1)).setCell ⟨g2,Q0.length,none⟩ (.int .i64 a.2))):=aA fun w' g=>(HS.out.grow g).take hql hq2 hA (by omega);have hin:=HQS.out q (by simp);have ha:=hin.2 a (by rw[hql];simp);have hpo:=mY hk hin.1 ha.1 ha.2;have HBW:=aA (Kr (P:=P) (be:=be) (s:=s) (Q:=Q0) (v:=.slice A l.length (cw-1)) hql);have HTQ:=aA (Oq (v:=.slice A l.length (cw-1)) HQS.out hql);have HRDy:Hid (∀w',Gr w w'→Calls Tryz.prog 56 #[.pointer (some ⟨bn,0,none⟩),.agg #[.int .i64 q.1.x.e,.int .i64 a.1]] w' fun e w''=>e= .returned (.int .i64 (aT P.ss ⟨q.1.x.e,a.1⟩))∧Gr w' w''):=HRD.out _ hpo;have HNXy:Hid (∀w',Gr w w'→Calls Tryz.prog 53 #[.pointer (some ⟨bn,0,none⟩),.agg #[.int .i64 q.1.x.e,.int .i64 a.1]] w' fun e w''=>e= .returned (Ef (aO P.js ⟨q.1.x.e,a.1⟩))∧Gr w' w''):=HNX.out _ hpo;have hST:((dQ (Q0++[(dP q.1 a l,Value.slice A l.length (cw-1))])).flatMap Stp.cs)[Q0.length*3]? =some (.int .i64 q.1.x.e):=by
      have h:=dR Stp.cs 3 (fun _=>rfl) (dQ (Q0++[(dP q.1 a l,Value.slice A l.length (cw-1))])) Q0.length 0 (by rw[fE];simp) (by omega);rw[Nat.add_zero] at h;rw[h];simp[dQ,stF,dP,Stp.cs]
     have hlen0:(((l.length+1:Nat):Int)==0)=false:=dN (by omega);have hlen1:(0:Int)<((l.length+1:Nat):Int):=by omega
     obtain⟨ao,ap⟩:=a;dsimp only at *;have n3b:b≠g3:=fun e=>aK hp3 HS.out.pa.box (by decide) (by rw[e];rfl);have n31:g1≠g3:=kZ hp1 hp3 (by decide) rfl rfl;have n32:g2≠g3:=kZ hp2 hp3 (by decide) rfl rfl;have n12:g2≠g1:=kZ hp2 hp1 (by decide) rfl rfl;have f1:=World.ownsRow.frozenAt hp1 (Q0.length*3+2);have f2:=World.ownsRow.frozenAt hp2 Q0.length;have f3:=World.ownsRow.frozenAt hp3 Q0.length;have e1:∃u,wr.cell? ⟨g1,Q0.length*3+2,none⟩=some u:=by
      have h:=World.ownsRow.cellAt hp1 (Q0.length*3+2) (by omega);rw[h];exact⟨_,List.getElem?_eq_getElem (by rw[oN,fE];simp;omega)⟩
     have e2:∃u,wr.cell? ⟨g2,Q0.length,none⟩=some u:=by
      have h:=World.ownsRow.cellAt hp2 Q0.length (by omega);rw[h];exact⟨_,List.getElem?_eq_getElem (by unfold lY;simp)⟩
     obtain⟨c1v,e1⟩:=e1;obtain⟨c2v,e2⟩:=e2;clear hSL0 hA hcw wc wf hq2 hin ha hpo hp1 hp2 hp3 hcp1 hcp2 hcp3 fb hW;go_upto_region 18 with fail
     have gA:Gr wr (wr.alloc (.cells #[.int .i64 ao,.int .i64 ap] 172)):=(Gr.refl _).alloc _;have HGA:=aA gA;have u0:(wr.alloc (.cells #[.int .i64 ao,.int .i64 ap] 172)).cell? ⟨wr.heap.size,0,none⟩=some (.int .i64 ao):=by rw[World.cell?_alloc_mark];rfl
     have u1:(wr.alloc (.cells #[.int .i64 ao,.int .i64 ap] 172)).cell? ⟨wr.heap.size,1,none⟩=some (.int .i64 ap):=by rw[World.cell?_alloc_mark];rfl
     have zu:wr.heap.size<(wr.alloc (.cells #[.int .i64 ao,.int .i64 ap] 172)).heap.size:=by simp
     have nu1:wr.heap.size≠g1:=by omega
     have nu2:wr.heap.size≠g2:=by omega
     have nu3:wr.heap.size≠g3:=by omega
     have b1':=(gA.cell _ 1 zb).trans b1;have b2':=(gA.cell _ 2 zb).trans b2;have b3':=(gA.cell _ 3 zb).trans b3;have hy3':=(gA.cell _ Q0.length zg3).trans hy3;have f1':=(gA.frozen _ (Q0.length*3+2) zg1).trans f1;have f2':=(gA.frozen _ Q0.length zg2).trans f2;have f3':=(gA.frozen _ Q0.length zg3).trans f3;have e1':=(gA.cell _ (Q0.length*3+2) zg1).trans e1;have e2':=(gA.cell _ Q0.length zg2).trans e2;have zb':=Nat.lt_of_lt_of_le zb gA.size;have zg1':=Nat.lt_of_lt_of_le zg1 gA.size;have zg2':=Nat.lt_of_lt_of_le zg2 gA.size;have zg3':=Nat.lt_of_lt_of_le zg3 gA.size;clear b1 b2 b3 hy3 f1 f2 f3 e1 e2 zb zg1 zg2 zg3 y0 y1 zw gA HS hlen0;generalize wr.alloc (.cells #[.int .i64 ao,.int .i64 ap] 172)=wq at *;generalize wr.heap.size=wb at *;go_cut [] from 87 to 100 (fun wc=>wc=wq.drew.setCell ⟨g3,Q0.length,none⟩ (.slice A l.length (cw-1)))
     case first=>
      clear e1' e2' f1' f2' b1' b2' u0 u1;go_region
      all_goals go_wp2_with fail
      all_goals go_meet
      all_goals
       case rel=>rfl
     case rest=>
     obtain⟨wd,hwd⟩:∃u,u=wc:=⟨_,rfl⟩;subst hwd;have HWD:=aA hcut;have b1'':wd.cell? ⟨b,1,none⟩=some (.slice (some ⟨g1,0,none⟩) (Q0.length+1) d1):=by rw[hcut];exact(World.cell?_setCell_other _ _ _ _ (by intro e;injection e with e _;exact n3b (by first|exact e|exact e.symm))).trans b1'
     have b2'':wd.cell? ⟨b,2,none⟩=some (.slice (some ⟨g2,0,none⟩) (Q0.length+1) d2):=by rw[hcut];exact(World.cell?_setCell_other _ _ _ _ (by intro e;injection e with e _;exact n3b (by first|exact e|exact e.symm))).trans b2'
     have e1'':wd.cell? ⟨g1,Q0.length*3+2,none⟩=some c1v:=by rw[hcut];exact(World.cell?_setCell_other _ _ _ _ (by intro e;injection e with e _;exact n31 (by first|exact e|exact e.symm))).trans e1'
     have e2'':wd.cell? ⟨g2,Q0.length,none⟩=some c2v:=by rw[hcut];exact(World.cell?_setCell_other _ _ _ _ (by intro e;injection e with e _;exact n32 (by first|exact e|exact e.symm))).trans e2'
     have v0:wd.cell? ⟨wb,0,none⟩=some (.int .i64 ao):=by rw[hcut];exact(World.cell?_setCell_other _ _ _ _ (by intro e;injection e with e _;exact nu3 (by first|exact e|exact e.symm))).trans u0
     have v1:wd.cell? ⟨wb,1,none⟩=some (.int .i64 ap):=by rw[hcut];exact(World.cell?_setCell_other _ _ _ _ (by intro e;injection e with e _;exact nu3 (by first|exact e|exact e.symm))).trans u1
     have f1'':wd.frozen? ⟨g1,Q0.length*3+2,none⟩=false:=by rw[hcut,World.frozen?_setCell];exact f1'
     have f2'':wd.frozen? ⟨g2,Q0.length,none⟩=false:=by rw[hcut,World.frozen?_setCell];exact f2'
     have zs:wd.heap.size=wq.heap.size:=by rw[hcut];simp
     rw[←zs] at zb' zg1' zg2' zu;clear hcut b1' b2' b3' hy3' e1' e2' f1' f2' f3' u0 u1 zg3' hSL zs;go_upto_region 19 with fail
     go_cut [] from 101 to 117 (fun wc=>wc=(wd.drew.setCell ⟨g1,Q0.length*3+2,none⟩ (.int .i64 ao)).setCell ⟨g2,Q0.length,none⟩ (.int .i64 ap))
     case first=>
      go_region
      all_goals go_wp2_with fail
      all_goals go_meet
      all_goals
       case rel=>rfl
     case rest=>
     obtain⟨we,hwe⟩:∃u,u=wc:=⟨_,rfl⟩;subst hwe;have hTK:OfS w b b7 be (Q0++[(dP q.1 (ao,ap) l,.slice A l.length (cw-1))]) O (.slice (some ⟨g1,0,none⟩) (Q0.length+1) d1) (.slice (some ⟨g2,0,none⟩) (Q0.length+1) d2) (.slice (some ⟨g3,0,none⟩) (Q0.length+1) d3) (.slice oa O.length oc) x we:=by
      rw[hcut,HWD.out];exact HTK.out _ (HGA.out.drew.drew)
     have HS:=aA hTK;have hp1:=hTK.pa.st;have hQ1:(Q0++[(dP q.1 (ao,ap) l,Value.slice A l.length (cw-1))]).length=Q0.length+1:=by rw[List.length_append,List.length_singleton]
     rw[hQ1] at hp1;have s0:=World.ownsRow.cellAt hp1 (Q0.length*3) (by omega);rw[hST] at s0;have t0:we.cell? ⟨wb,0,none⟩=some (.int .i64 ao):=by rw[hcut];exact(World.cell?_setCell_other _ _ _ _ (by intro e;injection e with e _;exact nu2 (by first|exact e|exact e.symm))).trans ((World.cell?_setCell_other _ _ _ _ (by intro e;injection e with e _;exact nu1 (by first|exact e|exact e.symm))).trans v0)
     have zs:we.heap.size=wd.heap.size:=by rw[hcut];simp
     rw[←zs] at zb' zg1' zg2' zu;obtain⟨-,⟨-,b1,-,-⟩,-⟩:=hTK.pa.cells;clear hcut HWD HTK HGA hTK hST b1'' b2'' e1'' e2'' v0 v1 f1'' f2'' zs n3b n31 n32 n12 nu1 nu2 nu3 hp1;generalize q.1.x.e=qe at *;go_upto_region 20 with fail
     go_cut [12] from 118 to 128 (fun v12 wc=>∃yb,v12= .pointer (some ⟨yb,0,none⟩)∧Gr we wc∧yb<wc.heap.size∧wc.cell? ⟨yb,0,none⟩=some (.int .i64 qe)∧wc.cell? ⟨yb,1,none⟩=some (.int .i64 ao))
     case first=>
      go_region
      all_goals go_wp2_with fail
      all_goals go_meet
      all_goals
       case rel=>exact⟨_,rfl,((Gr.refl we).alloc _).drew,by simp,by show(we.alloc _).cell? _=_;rw[World.cell?_alloc_mark];rfl,by show(we.alloc _).cell? _=_;rw[World.cell?_alloc_mark];rfl⟩
     case rest=>
     obtain⟨yb,rfl,gy,zy,y0,y1⟩:=hcut;obtain⟨wf,hwf⟩:∃u,u=wc:=⟨_,rfl⟩;subst hwf;have HSf:=aA (HS.out.grow gy);have HR21:=aA (HRDy.out wf HSf.out.gr);have HZ:=aA (fun(z:Prt) (h:aO P.js ⟨qe,ao⟩=some z)=>(show z∈bB P by rw[dI];exact dY P.js h));clear HS gy s0 b1 zu zb' zg1' zg2' HRDy t0;generalize Q0++[(dP q.1 (ao,ap) l,Value.slice A l.length (cw-1))]=Q' at *;generalize jH P be s (Q0++[q])=TB at *;generalize iR P be s (Q0++[q])=CB at *;have hQ12:Q'.length≤12:=by omega
     cases hr:bH P.ss ⟨qe,ao⟩ with
     | some kr=>
      rw[hr] at HBW;have hrn:aT P.ss ⟨qe,ao⟩=(kr:Int):=by unfold aT;rw[hr]
      rw[hrn] at HR21;have hk0:(0:Int)≤(kr:Int):=by omega
      clear hr hrn HZ HNXy;go_upto_region 23 with (first|(go_at_call 56;(with_reducible refine(HR21.out).mono ?_);rintro e6 w6 ⟨rfl,g6⟩))
      have HSq:=aA (HSf.out.grow g6);have HRO:=aA (rW w.heap.size b be Q' _ _ _ s kr 1 w6 HSq.out.pa (by omega));have HT1:Hid (TB=[gU s kr 1 Q']++jH P be s Q'):=aA HBW.out.1;have HC1:Hid (iR P be s Q'+1=CB):=aA HBW.out.2;have HLE:Hid (gC (gU s kr 1 Q')):=uA (by omega);have z6:=HSq.out.gr.size;clear HSf g6 HR21 HBW y0 y1 zy;generalize gU s kr 1 Q'=RR at *;go_wp2_with (first|(go_at_call 109;(with_reducible refine(HRO.out).mono ?_);rintro e7 w7 ⟨⟨t0,t1,t2,t3,t4⟩,rfl,hN7',g7⟩;obtain⟨sa0,sc0,hsv0⟩:=aC hN7'.st;obtain⟨sa1,sc1,hsv1⟩:=aC hN7'.nd;obtain⟨sa2,sc2,hsv2⟩:=aC hN7'.gd;obtain⟨sa3,sc3,hsv3⟩:=aC hN7'.zn;obtain⟨sa4,sc4,hsv4⟩:=aC hN7'.hd;dsimp only at hsv0 hsv1 hsv2 hsv3 hsv4;subst hsv0 hsv1 hsv2 hsv3 hsv4;have HN7:=aA hN7';have HS7:=aA (HSq.out.grow g7);have z7:=HS7.out.gr.size;clear hN7' g7;unfold eL;dsimp only)|(at_builtin;refine wpList_append_lies _ rfl _ _ 30 rfl w.heap.size 47 i0 _ 9 152 Tryz.underlying30 hi0 hi1 hi2 hi3 rfl (by decide) _ _ _ rfl (aE HS7.out.out ((Gr.refl w7).alloc _)) ⟨w7.heap.size,0,none⟩ 1 1 [.int .i64 RR.fr,.int .i64 RR.dst,.int .i64 RR.en,.slice sa0 RR.st.length sc0,.slice sa1 RR.nd.length sc1,.slice sa2 RR.gd.length sc2,.slice sa3 RR.zn.length sc3,.slice sa4 RR.hd.length sc4,.bool RR.ba] rfl rfl ?c1 ?c2 ?c3 ?c4 ?c5 ?c6 (w7.heap.size+1) ?c7 ?_))
      try (case c1=>exact World.news_of_block (heap_alloc_new w7 _))
      try (case c2=>simp[Value.oneCell'])
      try (case c3=>omega)
      try (case c4=>(unfold maxLen;omega))
      try (case c5=>omega)
      try (case c6=>(simp;omega))
      try (case c6=>omega)
      try (case c7=>simp)
      intro gg cap w9 hown hgrow hat hgl;have HS9:=aA (HS7.out.put (r:=RR) (V:=(⟨.slice sa0 RR.st.length sc0,.slice sa1 RR.nd.length sc1,.slice sa2 RR.gd.length sc2,.slice sa3 RR.zn.length sc3,.slice sa4 RR.hd.length sc4⟩:S5)) (M:=w6.heap.size) (fun k hk=>HSq.out.lt k hk) z6 HN7.out HLE.out ((Gr.refl w7).alloc _) hgrow hown (by simpa using hat));clear hown hgrow hat hgl;go_wp2_with fail
      go_roundg (iR P be s Q')
      case rel=>exact⟨OfJ.found HS9.out hQ12 HTQ.out HTT.out HT1.out (Nat.le_refl _),by have:=HC1.out;have:=HCC.out;have:=HNM.out;omega⟩
      case measure=>have:=HC1.out;have:=HCC.out;omega
     | none=>
      rw[hr] at HBW;have hrn:aT P.ss ⟨qe,ao⟩= -1:=by unfold aT;rw[hr]
      rw[hrn] at HR21;have HN2:=aA (fun(w':World) (g:Gr wf w')=>HNXy.out w' (HSf.out.gr.trans g));clear hr hrn HNXy;cases hz:aO P.js ⟨qe,ao⟩ with
      | none=>
       rw[hz] at HBW HN2;have HN3:Hid (∀w',Gr wf w'→Calls Tryz.prog 53 #[.pointer (some ⟨bn,0,none⟩),.agg #[.int .i64 qe,.int .i64 ao]] w' fun e w''=>e= .returned (.tuple #[.agg #[.int .i64 0,.int .i64 0],.bool false])∧Gr w' w''):=HN2;clear HN2 hz HZ;go_upto_region 24 with (first|(go_at_call 56;(with_reducible refine(HR21.out).mono ?_);rintro e6 w6 ⟨rfl,g6⟩))
       have y0':=(g6.cell _ _ zy).trans y0;have y1':=(g6.cell _ _ zy).trans y1;have zy':=Nat.lt_of_lt_of_le zy g6.size;clear y0 y1 zy;go_upto_region 26 with (first|(go_at_call 53;(with_reducible refine(HN3.out _ g6).mono ?_);rintro e8 w8 ⟨rfl,g8⟩))
       have gB:Gr wf (w8.alloc (.cells #[.int .i64 0,.int .i64 0] 63)):=(g6.trans g8).alloc _;have HSq:=aA (HSf.out.grow gB);clear gB HSf g6 g8 HR21 HN3 y0' y1' zy';generalize w8.alloc (.cells #[.int .i64 0,.int .i64 0] 63)=wp at *;have HRO:=aA (rW w.heap.size b be Q' _ _ _ s (-1) 3 wp HSq.out.pa (by omega));have HT1:Hid (TB=[gU s (-1) 3 Q']++jH P be s Q'):=aA HBW.out.1;have HC1:Hid (iR P be s Q'+1=CB):=aA HBW.out.2;have HLE:Hid (gC (gU s (-1) 3 Q')):=uA (by omega);have z6:=HSq.out.gr.size;clear HBW;generalize gU s (-1) 3 Q'=RR at *;go_wp2_with (first|(go_at_call 109;(with_reducible refine(HRO.out).mono ?_);rintro e7 w7 ⟨⟨t0,t1,t2,t3,t4⟩,rfl,hN7',g7⟩;obtain⟨sa0,sc0,hsv0⟩:=aC hN7'.st;obtain⟨sa1,sc1,hsv1⟩:=aC hN7'.nd;obtain⟨sa2,sc2,hsv2⟩:=aC hN7'.gd;obtain⟨sa3,sc3,hsv3⟩:=aC hN7'.zn;obtain⟨sa4,sc4,hsv4⟩:=aC hN7'.hd;dsimp only at hsv0 hsv1 hsv2 hsv3 hsv4;subst hsv0 hsv1 hsv2 hsv3 hsv4;have HN7:=aA hN7';have HS7:=aA (HSq.out.grow g7);have z7:=HS7.out.gr.size;clear hN7' g7;unfold eL;dsimp only)|(at_builtin;refine wpList_append_lies _ rfl _ _ 30 rfl w.heap.size 47 i0 _ 9 152 Tryz.underlying30 hi0 hi1 hi2 hi3 rfl (by decide) _ _ _ rfl (aE HS7.out.out ((Gr.refl w7).alloc _)) ⟨w7.heap.size,0,none⟩ 1 1 [.int .i64 RR.fr,.int .i64 RR.dst,.int .i64 RR.en,.slice sa0 RR.st.length sc0,.slice sa1 RR.nd.length sc1,.slice sa2 RR.gd.length sc2,.slice sa3 RR.zn.length sc3,.slice sa4 RR.hd.length sc4,.bool RR.ba] rfl rfl ?c1 ?c2 ?c3 ?c4 ?c5 ?c6 (w7.heap.size+1) ?c7 ?_))
       try (case c1=>exact World.news_of_block (heap_alloc_new w7 _))
       try (case c2=>simp[Value.oneCell'])
       try (case c3=>omega)
       try (case c4=>(unfold maxLen;omega))
       try (case c5=>omega)
       try (case c6=>(simp;omega))
       try (case c6=>omega)
       try (case c7=>simp)
       intro gg cap w9 hown hgrow hat hgl;have HS9:=aA (HS7.out.put (r:=RR) (V:=(⟨.slice sa0 RR.st.length sc0,.slice sa1 RR.nd.length sc1,.slice sa2 RR.gd.length sc2,.slice sa3 RR.zn.length sc3,.slice sa4 RR.hd.length sc4⟩:S5)) (M:=wp.heap.size) (fun k hk=>HSq.out.lt k hk) z6 HN7.out HLE.out ((Gr.refl w7).alloc _) hgrow hown (by simpa using hat));clear hown hgrow hat hgl;go_wp2_with fail
       go_roundg (iR P be s Q')
       case rel=>exact⟨OfJ.found HS9.out hQ12 HTQ.out HTT.out HT1.out (Nat.le_refl _),by have:=HC1.out;have:=HCC.out;have:=HNM.out;omega⟩
       case measure=>have:=HC1.out;have:=HCC.out;omega
      | some z=>
       rw[hz] at HBW HN2;have HN3:Hid (∀w',Gr wf w'→Calls Tryz.prog 53 #[.pointer (some ⟨bn,0,none⟩),.agg #[.int .i64 qe,.int .i64 ao]] w' fun e w''=>e= .returned (.tuple #[.agg #[.int .i64 z.e,.int .i64 z.x],.bool true])∧Gr w' w''):=HN2;have HZ2:=aA (HZ.out z hz);clear HN2 hz HZ;go_upto_region 24 with (first|(go_at_call 56;(with_reducible refine(HR21.out).mono ?_);rintro e6 w6 ⟨rfl,g6⟩))
       have y0':=(g6.cell _ _ zy).trans y0;have y1':=(g6.cell _ _ zy).trans y1;have zy':=Nat.lt_of_lt_of_le zy g6.size;clear y0 y1 zy;go_upto_region 27 with (first|(go_at_call 53;(with_reducible refine(HN3.out _ g6).mono ?_);rintro e8 w8 ⟨rfl,g8⟩))
       have gB:Gr wf (w8.alloc (.cells #[.int .i64 z.e,.int .i64 z.x] 63)):=(g6.trans g8).alloc _;have HSq:=aA (HSf.out.grow gB);have p0:(w8.alloc (.cells #[.int .i64 z.e,.int .i64 z.x] 63)).cell? ⟨w8.heap.size,0,none⟩=some (.int .i64 z.e):=by rw[World.cell?_alloc_mark];rfl
       have p1:(w8.alloc (.cells #[.int .i64 z.e,.int .i64 z.x] 63)).cell? ⟨w8.heap.size,1,none⟩=some (.int .i64 z.x):=by rw[World.cell?_alloc_mark];rfl
       have zp:w8.heap.size<(w8.alloc (.cells #[.int .i64 z.e,.int .i64 z.x] 63)).heap.size:=by simp
       clear gB HSf g6 g8 HR21 HN3 y0' y1' zy';generalize w8.alloc (.cells #[.int .i64 z.e,.int .i64 z.x] 63)=wp at *;generalize w8.heap.size=zb8 at *;have x70:=cell_of_row wp b7 0 _ _ _ HSq.out.x7;have x71:=cell_of_row wp b7 1 _ _ _ HSq.out.x7;have q70:=frozen_of_row wp b7 0 _ _ HSq.out.x7;have q71:=frozen_of_row wp b7 1 _ _ HSq.out.x7;have z7:=aB HSq.out.x7;simp at x70 x71;have HT1:Hid (TB=rG P be s Q' z):=aA HBW.out.1;have HC1:Hid (tC P be s Q' z+1=CB):=aA HBW.out.2;clear HBW;go_wp2_with fail
       rw[Exit.noGoto_exit];go_wp2_with fail
       go_roundg (tC P be s Q' z)
       case rel=>exact⟨Q',O,_,_,_,z,HSq.out.setX z,hQ12,HTQ.out,HZ2.out,by rw[←HT1.out];exact HTT.out,Nat.le_refl _⟩
       case measure=>have:=HC1.out;have:=HCC.out;have:=HNM.out;omega
end Go.Proofs.YthkbcablnpbmgaaGreatDoor
