/- Helps of the proof of ChartWord. -/
import Derived.Test.YthkbcablnpbmgaaGreatDoorRows
import Derived.Test.YthkbcablnpbmgaaGreatDoorW12
import Derived.Test.YthkbcablnpbmgaaGreatDoorW22
import Derived.Test.YthkbcablnpbmgaaGreatDoorW13
import Derived.Test.YthkbcablnpbmgaaGreatDoorW9
import Derived.Test.YthkbcablnpbmgaaGreatDoorW15
import Derived.Deep.Cut
set_option linter.unusedVariables false
set_option linter.unusedSimpArgs false
set_option maxHeartbeats 8000000
set_option maxRecDepth 100000
namespace Go.Proofs.YthkbcablnpbmgaaGreatDoor
open Go.ChangeShapes Go.WideShapes Go.ChangeAt Go.RowKit Go.Maps
theorem Tryz.infoCStp:(Tryz.prog.info? 81).map (fun i=>(i.zero,i.size,i.bytes))=some (some (.agg #[.int .i64 0,.int .i64 0,.int .i64 0]),3,24):=by kernel_rfl
theorem zE(v:Value)(n:Nat)(C:Nat→Nat→Value)(w:World)(hv:aL w v 3 n C)(hC:∀i j,(C i j).oneCell'=true)(hn:n≤1000000):
  Calls Tryz.prog 50 #[v] w (oT w 81 3 n C):=by
 obtain⟨i0,hi,hz0,hz1,hz2⟩:=info_parts Tryz.infoCStp;have HV:=aA hv;obtain⟨a,c,rfl,hm,hx⟩:=hv;have E:=fun w a n c=>Lib.run_eql_slice_nil (P:=Tryz.prog) w 43 81 a n c 0 0 Tryz.underlying43;cases a with
 | none=>
  have hn0:n=0:=by
   rcases hx with h|⟨b,o,h,_⟩
   ·exact h
   ·cases h
  subst hn0;clear hx hm hn;go_enter Tryz.func50,Tryz.ntmps50
  go_wp2
  go_ret
  exact oT.nil
 | some ad=>
  have HA:=aA (fun w' (g:Gr w w')=>mB (by omega) (HV.out.gr g));have H1:=aA (jY (sz:=3) (n:=n) hC);have hown:(w.alloc (.cells #[] 81)).ownsRow w.heap.size 81 3 (.slice (some ⟨w.heap.size,0,none⟩) 0 0) 0 []:=
   ⟨rfl,.inr ⟨w.heap.size,0,#[],rfl,Nat.le_refl _,heap_alloc_new w _,Nat.le_refl _,Nat.zero_le _,rfl,rfl⟩⟩
  have HO:=aA hown;clear hx hown;go_enter Tryz.func50,Tryz.ntmps50
  go_wp2_with (first|(at_builtin;refine wpList_append_own _ rfl _ _ 43 rfl w.heap.size 81 i0 (.agg #[.int .i64 0,.int .i64 0,.int .i64 0]) 3 24 Tryz.underlying43 hi hz0 hz1 hz2 rfl (by decide) _ _ _ rfl HO.out ad n c (gZ 3 n C) rfl (eN _ _ _) ?c1 ?c2 ?c3 ?c4 ?c5 ?_))
  case c1=>exact HA.out _ ((Gr.refl w).alloc _)
  case c2=>exact H1.out
  case c3=>unfold maxLen;omega
  case c4=>omega
  case c5=>simp
  intro v' w1 hown' hgrow _;have hg1:Gr w w1:=Gr.grown ((Gr.refl w).alloc _) hgrow HO.out;go_wp2
  go_ret
  refine⟨v',rfl,hg1,?_⟩;simpa using hown'
theorem Tryz.infoCNd:(Tryz.prog.info? 112).map (fun i=>(i.zero,i.size,i.bytes))=some (some (.agg #[.int .i64 0,.int .i64 0]),2,16):=by kernel_rfl
theorem Bn(v:Value)(n:Nat)(C:Nat→Nat→Value)(w:World)(hv:aL w v 2 n C)(hC:∀i j,(C i j).oneCell'=true)(hn:n≤1000000):
  Calls Tryz.prog 51 #[v] w (oT w 112 2 n C):=by
 obtain⟨i0,hi,hz0,hz1,hz2⟩:=info_parts Tryz.infoCNd;have HV:=aA hv;obtain⟨a,c,rfl,hm,hx⟩:=hv;have E:=fun w a n c=>Lib.run_eql_slice_nil (P:=Tryz.prog) w 44 112 a n c 0 0 Tryz.underlying44;cases a with
 | none=>
  have hn0:n=0:=by
   rcases hx with h|⟨b,o,h,_⟩
   ·exact h
   ·cases h
  subst hn0;clear hx hm hn;go_enter Tryz.func51,Tryz.ntmps51
  go_wp2
  go_ret
  exact oT.nil
 | some ad=>
  have HA:=aA (fun w' (g:Gr w w')=>mB (by omega) (HV.out.gr g));have H1:=aA (jY (sz:=2) (n:=n) hC);have hown:(w.alloc (.cells #[] 112)).ownsRow w.heap.size 112 2 (.slice (some ⟨w.heap.size,0,none⟩) 0 0) 0 []:=
   ⟨rfl,.inr ⟨w.heap.size,0,#[],rfl,Nat.le_refl _,heap_alloc_new w _,Nat.le_refl _,Nat.zero_le _,rfl,rfl⟩⟩
  have HO:=aA hown;clear hx hown;go_enter Tryz.func51,Tryz.ntmps51
  go_wp2_with (first|(at_builtin;refine wpList_append_own _ rfl _ _ 44 rfl w.heap.size 112 i0 (.agg #[.int .i64 0,.int .i64 0]) 2 16 Tryz.underlying44 hi hz0 hz1 hz2 rfl (by decide) _ _ _ rfl HO.out ad n c (gZ 2 n C) rfl (eN _ _ _) ?c1 ?c2 ?c3 ?c4 ?c5 ?_))
  case c1=>exact HA.out _ ((Gr.refl w).alloc _)
  case c2=>exact H1.out
  case c3=>unfold maxLen;omega
  case c4=>omega
  case c5=>simp
  intro v' w1 hown' hgrow _;have hg1:Gr w w1:=Gr.grown ((Gr.refl w).alloc _) hgrow HO.out;go_wp2
  go_ret
  refine⟨v',rfl,hg1,?_⟩;simpa using hown'
theorem Iv(L:List Stp):gZ 3 L.length (fun i j=>(L.getD i default).c j)=L.flatMap Stp.cs:=by
 have hl:(L.flatMap Stp.cs).length=L.length*3:=oN L;refine List.ext_getElem? fun q=>?_;by_cases hq:q<L.length*3
 ·have hi:q/3<L.length:=by omega
  have hj:q%3<3:=by omega
  have e:q=q/3*3+q%3:=by omega
  rw[e,qK hi hj,dR Stp.cs 3 (fun _=>rfl) L _ _ hi hj,aP _ _ hi];have h3:q%3=0∨q%3=1∨q%3=2:=by omega
  rcases h3 with h|h|h<;>rw[h]<;>rfl
 ·rw[List.getElem?_eq_none (by rw[eN];omega),List.getElem?_eq_none (by rw[hl];omega)]
theorem J0(L:List Nd):gZ 2 L.length (fun i j=>(L.getD i default).c j)=L.flatMap Nd.cs:=by
 have hl:(L.flatMap Nd.cs).length=L.length*2:=by
  induction L with
  | nil=>rfl
  | cons s t ih=>rw[List.flatMap_cons,List.length_append,ih,List.length_cons];show 2+_=_;omega
 refine List.ext_getElem? fun q=>?_;by_cases hq:q<L.length*2
 ·have hi:q/2<L.length:=by omega
  have hj:q%2<2:=by omega
  have e:q=q/2*2+q%2:=by omega
  rw[e,qK hi hj,dR Nd.cs 2 (fun _=>rfl) L _ _ hi hj,aP _ _ hi];have h3:q%2=0∨q%2=1:=by omega
  rcases h3 with h|h<;>rw[h]<;>rfl
 ·rw[List.getElem?_eq_none (by rw[eN];omega),List.getElem?_eq_none (by rw[hl];omega)]
theorem M3(L:List Stp)(i j:Nat):((L.getD i default).c j).oneCell'=true:=by unfold Stp.c;split;rfl;split<;>rfl
theorem Ox(L:List Nd)(i j:Nat):((L.getD i default).c j).oneCell'=true:=by unfold Nd.c;split<;>rfl
theorem wH(L:List Stp)(v:Value)(w:World)(hv:bQ w v L)(hn:L.length≤1000000):
  Calls Tryz.prog 50 #[v] w fun e w'=>∃u,e= .returned u∧Gr w w'∧dO w.heap.size w' u L:=by
 refine(zE v L.length _ w hv (M3 L) hn).mono ?_;rintro e w' ⟨u,rfl,g,h⟩;rw[Iv] at h;exact⟨u,rfl,g,h⟩
theorem Ik(L:List Nd)(v:Value)(w:World)(hv:cX w v L)(hn:L.length≤1000000):
  Calls Tryz.prog 51 #[v] w fun e w'=>∃u,e= .returned u∧Gr w w'∧bV w.heap.size w' u L:=by
 refine(Bn v L.length _ w hv (Ox L) hn).mono ?_;rintro e w' ⟨u,rfl,g,h⟩;rw[J0] at h;exact⟨u,rfl,g,h⟩
def oJ(B g r:Nat)(w:World)(u:Value)(xs:List Value):Prop:=
 ∃(a:Option Addr) (cap:Nat),u= .slice a xs.length cap∧xs.length≤maxLen∧(xs=[]∨∃b off,a=some ⟨b,off,none⟩∧B≤b∧b≠g∧b≠r∧b<w.heap.size∧∀i x,xs[i]? =some x→w.cell? ⟨b,off+i,none⟩=some x)
theorem oJ.vals{B g r:Nat}{w w':World}{u:Value}{xs:List Value}(h:oJ B g r w u xs)(hs:w.heap.size≤w'.heap.size)(hc:∀b o,B≤b→b≠r→b<w.heap.size→w'.cell? ⟨b,o,none⟩=w.cell? ⟨b,o,none⟩):aR w' u xs:=by
 obtain⟨a,cap,e,hl,hx⟩:=h;refine⟨a,cap,e,hl,?_⟩;rcases hx with h|⟨b,o,h1,h6,h4,h5,h2,h3⟩
 ·exact .inl h
 ·exact .inr ⟨b,o,h1,Nat.lt_of_lt_of_le h2 hs,fun i x hx=>by rw[hc _ _ h6 h5 h2];exact h3 i x hx⟩
theorem oJ.keep{B g r:Nat}{w w':World}{u:Value}{xs:List Value}(h:oJ B g r w u xs)(hs:w.heap.size≤w'.heap.size)(hc:∀b o,b≠g→b<w.heap.size→w'.cell? ⟨b,o,none⟩=w.cell? ⟨b,o,none⟩):oJ B g r w' u xs:=by
 obtain⟨a,cap,e,hl,hx⟩:=h;refine⟨a,cap,e,hl,?_⟩;rcases hx with h|⟨b,o,h1,h6,h4,h5,h2,h3⟩
 ·exact .inl h
 ·exact .inr ⟨b,o,h1,h6,h4,h5,Nat.lt_of_lt_of_le h2 hs,fun i x hx=>by rw[hc _ _ h4 h2];exact h3 i x hx⟩
def LnB(B g4 k:Nat)(P:Pln)(wr:World):Prop:=∀i (h:i<P.ls.length),i<k→∃u,wr.cell? ⟨g4,i*2+1,none⟩=some u∧oJ B g4 (B+1) wr u (P.ls[i].es.map (Value.int .i64))
theorem LnB.step{B g4 k:Nat}{P:Pln}{wr w5:World}{v:Value}(h:LnB B g4 k P wr)(g:Gr wr w5)(hk:k<P.ls.length)(hg:g4<wr.heap.size)(hB:B+2≤wr.heap.size)(hc:∃u,wr.cell? ⟨g4,k*2+1,none⟩=some u)
  (ho:w5.ownsRow wr.heap.size 3 1 v P.ls[k].es.length (gZ 1 P.ls[k].es.length fun i _=>.int .i64 (P.ls[k].es.getD i 0))) (hl:P.ls[k].es.length≤maxLen):LnB B g4 (k+1) P (w5.setCell ⟨g4,k*2+1,none⟩ v):=by
 intro i hi hik;have hf:Far g4 w5 (w5.setCell ⟨g4,k*2+1,none⟩ v):=(Far.refl _ _).set _ _;obtain⟨u0,hu0⟩:=hc;by_cases e:i=k
 ·subst e;refine⟨v,World.cell?_setCell_same _ _ _ ((g.cell _ _ hg).trans hu0),?_⟩;have hr:=iS (w':=w5.setCell ⟨g4,i*2+1,none⟩ v) ho hl hg (fun b' o hb=>hf.2.1 _ _ hb) hf.1;obtain⟨av,cv,rfl,hm,hx⟩:=hr;refine⟨av,cv,by simp,by simpa using hm,?_⟩;rcases hx with h0'|⟨b',o',rfl,lo1,lo2,lo3,hcc⟩
  ·left;rw[List.length_eq_zero_iff.1 h0'];rfl
  ·refine .inr ⟨b',o',rfl,by omega,by omega,by omega,lo3,fun j x hx=>?_⟩;rw[List.getElem?_map] at hx;obtain⟨y,hy,rfl⟩:=Option.map_eq_some_iff.1 hx;have hj:=(List.getElem?_eq_some_iff.1 hy).1;have:=hcc j 0 hj (by omega);simp only[Nat.mul_one,Nat.add_zero] at this;rw[this,List.getD_eq_getElem?_getD,hy];rfl
 ·obtain⟨u,d,k1⟩:=h i hi (by omega);have hlt:g4<wr.heap.size:=hg;refine⟨u,(World.cell?_setCell_other _ _ _ _ (by intro e;injection e with _ e2;omega)).trans ((g.cell _ _ hlt).trans d),k1.keep (by rw[hf.1];exact g.size) fun b o hb hlt'=>(hf.2.1 _ _ hb).trans (g.cell _ _ hlt')⟩
theorem TwL.doneF{w:World}{P:Pln}{v1 v2 v3 v4:Value}{hi g4:Nat}{wr w':World}(h:TwL w P v1 v2 v3 v4 hi g4 wr)(hn:LnB w.heap.size g4 P.ls.length P wr)(hz:wr.heap.size≤w'.heap.size)(hf:∀b o,w.heap.size≤b→b≠w.heap.size+1→b<wr.heap.size→w'.cell? ⟨b,o,none⟩=wr.cell? ⟨b,o,none⟩):aI w' (aX P v1 v2 v3 v4) P:=by
 have k1:=(h.i1.keep hz fun b o hb _ hq=>hf _ _ (by omega) (by omega) hq).row;have k2:=(h.i2.keep hz fun b o hb _ hq=>hf _ _ (by omega) (by omega) hq).row;have k3:=(h.i3.keep hz fun b o hb _ hq=>hf _ _ (by omega) (by omega) hq).row;obtain⟨x1,y1,rfl,-⟩:=id h.i1;obtain⟨x2,y2,rfl,-⟩:=id h.i2;obtain⟨x3,y3,rfl,-⟩:=id h.i3;obtain⟨c,hm,h4⟩:=h.v4;rcases h4 with⟨h0,a,rfl⟩|rfl
 ·refine⟨x1,y1,x2,y2,x3,y3,a,c,by rw[h0],k1,k2,k3,fun _=>default,⟨a,c,rfl,hm,.inl h0⟩,fun i hi=>by omega⟩
 ·refine⟨x1,y1,x2,y2,x3,y3,_,c,rfl,k1,k2,k3,fun i=>(w'.cell? ⟨g4,i*2+1,none⟩).getD default,⟨_,c,rfl,hm,?_⟩,fun i hi=>?_⟩
  ·rcases Nat.eq_zero_or_pos P.ls.length with h0|h0
   ·exact .inl h0
   ·refine .inr ⟨g4,0,rfl,Nat.lt_of_lt_of_le (h.ln 0 h0).1 hz,fun i j hi hj=>?_⟩;obtain⟨hlt,b,_,u,d,_⟩:=h.ln i hi;have hg:=h.hg
    match j,hj with
    | 0,_=>
     show w'.cell? ⟨g4,0+i*2+0,none⟩=some (.string (P.ls.getD i default).n);rw[Nat.add_zero,Nat.zero_add,hf g4 _ (by omega) (by omega) hlt,b,aP _ _ hi]
    | 1,_=>
     show w'.cell? ⟨g4,0+i*2+1,none⟩=some ((w'.cell? ⟨g4,i*2+1,none⟩).getD default);rw[Nat.zero_add,hf g4 _ (by omega) (by omega) hlt,d];rfl
  ·obtain⟨hlt,-⟩:=h.ln i hi;obtain⟨u,d,e⟩:=hn i hi hi;have hg:=h.hg;show aR w' ((w'.cell? ⟨g4,i*2+1,none⟩).getD default) _;rw[hf g4 _ (by omega) (by omega) hlt,d,aP _ _ hi];exact e.vals hz fun b o h1 h2 h3=>hf b o h1 h2 h3
def Lt(w:World)(P:Pln)(e:Ending)(w':World):Prop:=∃x1 x2 x3 x4,e= .returned (aX P x1 x2 x3 x4)∧Gr w w'∧Frz (fun k=>k<w.heap.size) w' fun w2=>aI w2 (aX P x1 x2 x3 x4) P
attribute [local go_sem ↓] Go.wp_at_zero Go.wp_at_succ
theorem Hl(v:Value)(P:Pln)(w:World)(hP:aI w v P)(hn:P.es.length≤1000∧P.js.length≤1000∧P.ss.length≤1000∧P.ls.length≤1000)(hnl:∀l∈P.ls,l.es.length≤1000):
  Calls Tryz.prog 47 #[v] w (Lt w P):=by
 obtain⟨a1,c1,a2,c2,a3,c3,a4,c4,rfl,h1,h2,h3,h4⟩:=hP;have H1:=aA h1;have H2:=aA h2;have H3:=aA h3;have HC1:=aA (fun w' (h:Gr w w')=>oV _ _ _ w' (h1.gr h) (fun i j=>Ez _ _) (by omega));have HC2:=aA (fun w' (h:Gr w w')=>pC _ _ _ w' (h2.gr h) (fun i j=>Mi _ _) (by omega));have HC3:=aA (fun w' (h:Gr w w')=>mM _ _ _ w' (h3.gr h) (fun i j=>Je _ _) (by omega));have HB:=aA (dG w P (.slice a1 P.es.length c1) (.slice a2 P.js.length c2) (.slice a3 P.ss.length c3) (.slice a4 P.ls.length c4));have hw0:=dW w P (.slice a1 P.es.length c1) (.slice a2 P.js.length c2) (.slice a3 P.ss.length c3) (.slice a4 P.ls.length c4);clear h1 h2 h3;unfold aX;go_enter Tryz.func47,Tryz.ntmps47
 go_upto_region 1 with (fail)
 have hW2:Gr w ((w.alloc (.cells #[.slice a1 P.es.length c1,.slice a2 P.js.length c2,.slice a3 P.ss.length c3,.slice a4 P.ls.length c4,.int .i64 P.top,.int .i64 P.brake,.int .i64 P.margin,.int .i64 P.throw,.bool P.hard] 27)).alloc (.cells #[.slice none 0 0,.slice none 0 0,.slice none 0 0,.slice none 0 0,.int .i64 0,.int .i64 0,.int .i64 0,.int .i64 0,.bool false] 27)):=hw0.alloc _;have HBX:Hid (∀w',Gr ((w.alloc (.cells #[.slice a1 P.es.length c1,.slice a2 P.js.length c2,.slice a3 P.ss.length c3,.slice a4 P.ls.length c4,.int .i64 P.top,.int .i64 P.brake,.int .i64 P.margin,.int .i64 P.throw,.bool P.hard] 27)).alloc (.cells #[.slice none 0 0,.slice none 0 0,.slice none 0 0,.slice none 0 0,.int .i64 0,.int .i64 0,.int .i64 0,.int .i64 0,.bool false] 27)) w'→bZ w' w.heap.size P (.slice a1 P.es.length c1) (.slice a2 P.js.length c2) (.slice a3 P.ss.length c3) (.slice a4 P.ls.length c4)∧w'.frozen? ⟨w.heap.size,0,none⟩=false∧w'.frozen? ⟨w.heap.size,1,none⟩=false∧w'.frozen? ⟨w.heap.size,2,none⟩=false∧w'.frozen? ⟨w.heap.size,3,none⟩=false):=by
  intro w' h;have hz:w.heap.size<(((w.alloc (.cells #[.slice a1 P.es.length c1,.slice a2 P.js.length c2,.slice a3 P.ss.length c3,.slice a4 P.ls.length c4,.int .i64 P.top,.int .i64 P.brake,.int .i64 P.margin,.int .i64 P.throw,.bool P.hard] 27)).alloc (.cells #[.slice none 0 0,.slice none 0 0,.slice none 0 0,.slice none 0 0,.int .i64 0,.int .i64 0,.int .i64 0,.int .i64 0,.bool false] 27))).heap.size:=by simp;omega
  refine⟨(HB.out.gr ((Gr.refl _).alloc _)).gr h,?_,?_,?_,?_⟩<;>exact(h.frozen _ _ hz).trans (by simp)
 have HW3:Hid (bZ ((w.alloc (.cells #[.slice a1 P.es.length c1,.slice a2 P.js.length c2,.slice a3 P.ss.length c3,.slice a4 P.ls.length c4,.int .i64 P.top,.int .i64 P.brake,.int .i64 P.margin,.int .i64 P.throw,.bool P.hard] 27)).alloc (.cells #[.slice none 0 0,.slice none 0 0,.slice none 0 0,.slice none 0 0,.int .i64 0,.int .i64 0,.int .i64 0,.int .i64 0,.bool false] 27)) w.heap.size P (.slice a1 P.es.length c1) (.slice a2 P.js.length c2) (.slice a3 P.ss.length c3) (.slice a4 P.ls.length c4)∧eP ((w.alloc (.cells #[.slice a1 P.es.length c1,.slice a2 P.js.length c2,.slice a3 P.ss.length c3,.slice a4 P.ls.length c4,.int .i64 P.top,.int .i64 P.brake,.int .i64 P.margin,.int .i64 P.throw,.bool P.hard] 27)).alloc (.cells #[.slice none 0 0,.slice none 0 0,.slice none 0 0,.slice none 0 0,.int .i64 0,.int .i64 0,.int .i64 0,.int .i64 0,.bool false] 27)) w.heap.size∧(((w.alloc (.cells #[.slice a1 P.es.length c1,.slice a2 P.js.length c2,.slice a3 P.ss.length c3,.slice a4 P.ls.length c4,.int .i64 P.top,.int .i64 P.brake,.int .i64 P.margin,.int .i64 P.throw,.bool P.hard] 27)).alloc (.cells #[.slice none 0 0,.slice none 0 0,.slice none 0 0,.slice none 0 0,.int .i64 0,.int .i64 0,.int .i64 0,.int .i64 0,.bool false] 27))).heap.size=w.heap.size+2∧(∀o,o<9→∃u,(((w.alloc (.cells #[.slice a1 P.es.length c1,.slice a2 P.js.length c2,.slice a3 P.ss.length c3,.slice a4 P.ls.length c4,.int .i64 P.top,.int .i64 P.brake,.int .i64 P.margin,.int .i64 P.throw,.bool P.hard] 27)).alloc (.cells #[.slice none 0 0,.slice none 0 0,.slice none 0 0,.slice none 0 0,.int .i64 0,.int .i64 0,.int .i64 0,.int .i64 0,.bool false] 27))).cell? ⟨w.heap.size+1,o,none⟩=some u)∧eP ((w.alloc (.cells #[.slice a1 P.es.length c1,.slice a2 P.js.length c2,.slice a3 P.ss.length c3,.slice a4 P.ls.length c4,.int .i64 P.top,.int .i64 P.brake,.int .i64 P.margin,.int .i64 P.throw,.bool P.hard] 27)).alloc (.cells #[.slice none 0 0,.slice none 0 0,.slice none 0 0,.slice none 0 0,.int .i64 0,.int .i64 0,.int .i64 0,.int .i64 0,.bool false] 27)) (w.heap.size+1)):=by
  refine⟨HB.out.gr ((Gr.refl _).alloc _),(eP.new _ _ _).gr ((Gr.refl _).alloc _) (by simp),by simp,fun o ho=>?_,?_⟩
  ·have h9:=E4 27 (w.alloc (.cells #[.slice a1 P.es.length c1,.slice a2 P.js.length c2,.slice a3 P.ss.length c3,.slice a4 P.ls.length c4,.int .i64 P.top,.int .i64 P.brake,.int .i64 P.margin,.int .i64 P.throw,.bool P.hard] 27)) o ho;simpa using h9
  ·have:=eP.new (w.alloc (.cells #[.slice a1 P.es.length c1,.slice a2 P.js.length c2,.slice a3 P.ss.length c3,.slice a4 P.ls.length c4,.int .i64 P.top,.int .i64 P.brake,.int .i64 P.margin,.int .i64 P.throw,.bool P.hard] 27)) #[.slice none 0 0,.slice none 0 0,.slice none 0 0,.slice none 0 0,.int .i64 0,.int .i64 0,.int .i64 0,.int .i64 0,.bool false] 27;simpa using this
 go_cut [] from 4 (fun wc=>Tw1 w P (.slice a4 P.ls.length c4) wc)
 case first=>
  go_region_with (first|(go_at_call 101;(with_reducible refine(HC1.out _ ?_).mono ?_);(exact hW2.trans (Gr.refl _).drew);rintro e w6 ⟨v1,rfl,h6,o6⟩;obtain⟨x6,y6,rfl⟩:=aC o6;have k6:=((Gr.refl _).drew).trans h6;obtain⟨⟨zb6,d06,d16,d26,d36,d46,d56,d66,d76,d86⟩,f06,f16,f26,f36⟩:=HBX.out _ k6)|(go_at_call 102;(with_reducible refine(HC2.out _ ?_).mono ?_);(exact hW2.trans k6);rintro e w9 ⟨v2,rfl,h9,o9⟩;obtain⟨x9,y9,rfl⟩:=aC o9;have k9:=(k6).trans h9;obtain⟨⟨zb9,d09,d19,d29,d39,d49,d59,d69,d79,d89⟩,f09,f19,f29,f39⟩:=HBX.out _ k9)|(go_at_call 103;(with_reducible refine(HC3.out _ ?_).mono ?_);(exact hW2.trans k9);rintro e w12 ⟨v3,rfl,h12,o12⟩;obtain⟨x12,y12,rfl⟩:=aC o12;have k12:=(k9).trans h12;obtain⟨⟨zb12,d012,d112,d212,d312,d412,d512,d612,d712,d812⟩,f012,f112,f212,f312⟩:=HBX.out _ k12))
  all_goals
   go_wp2_with fail
   go_meet
   case rel=>exact K0 hW2 HW3.out.1 HW3.out.2.1 HW3.out.2.2.1 HW3.out.2.2.2.1 HW3.out.2.2.2.2 k6 h9 h12 (aQ o6 (by simp)) o9 o12 (by omega)
 case rest=>
  obtain⟨v1,v2,v3,gA,bA,fA,rA,cA,ffA,i1,i2,i3⟩:=hcut;clear HC1 HC2 HC3 HB HBX HW3 H1 H2 H3 hW2 hw0;have h4':=h4;obtain⟨S,hS1,hr4,hS4⟩:=h4.one;have HC4:=aA (oW _ _ _ wc (hr4.gr gA) hS1 (by omega));have hl4:=hr4.len;have HTS:=aA (fun(w5:World) (v4:Value) (g5:Gr wc w5) (o5:w5.ownsRow wc.heap.size 59 2 v4 P.ls.length (gZ 2 P.ls.length fun i j=>if j=0 then .string (P.ls.getD i default).n else S i))=>Cc gA bA rA cA ffA i1 i2 i3 g5 o5 hS4 hl4);have HBG:=aA (fun(w5:World) (g5:Gr wc w5)=>And.intro (bA.gr g5) (fA.gr g5 (by omega) 3 (by omega)));obtain⟨zA,b0,b1,b2,b3,b4,b5,b6,b7,b8⟩:=id bA;clear h4 h4' hr4 hS4 hS1 i1 i2 i3 cA ffA fA b0 b1 b2 b4 b5 b6 b7 b8;go_upto_region 3 with (first|(go_at_call 104;(with_reducible refine(HC4.out).mono ?_);rintro e w5 ⟨v4,rfl,h5,o5⟩;obtain⟨x5,y5,rfl⟩:=aC o5;obtain⟨⟨zb5,d05,d15,d25,d35,d45,d55,d65,d75,d85⟩,f35⟩:=HBG.out _ h5))
  obtain⟨g4,hT⟩:=HTS.out _ _ h5 o5;generalize hwr:w5.setCell ⟨w.heap.size,3,none⟩ (.slice x5 P.ls.length y5)=wr0 at hT ⊢;have hb:=hT.box;obtain⟨z0,b0,b1,b2,b3,b4,b5,b6,b7,b8⟩:=hb;have w1000:P.ls.length≤1000:=by omega
  obtain⟨p1,q1,rfl,-⟩:=id hT.i1;obtain⟨p2,q2,rfl,-⟩:=id hT.i2;obtain⟨p3,q3,rfl,-⟩:=id hT.i3;clear h5 o5 zb5 d05 d15 d25 d35 d45 d55 d65 d75 d85 f35 hwr HTS HBG HC4 gA bA;go_wp2_with fail
  clear z0 b0 b1 b2 b3 b4 b5 b6 b7 b8;go_loopw [23] (fun i wr=>∃k:Nat,i= .int .i64 k∧k≤P.ls.length∧TwL w P (.slice p1 P.es.length q1) (.slice p2 P.js.length q2) (.slice p3 P.ss.length q3) (.slice x5 P.ls.length y5) wc.heap.size g4 wr∧LnB w.heap.size g4 k P wr) (fun i _=>P.ls.length-(intOf i).toNat)
  case atStart=>exact⟨0,rfl,Nat.zero_le _,hT,fun i _ h=>absurd h (by omega)⟩
  case round=>
   obtain⟨k,rfl,hk,h,hln⟩:=hrel;have HLN:=aA hln;clear hln;clear hT;have HT:=aA h;have hb:=h.box;obtain⟨z0,b0,b1,b2,b3,b4,b5,b6,b7,b8⟩:=hb;by_cases hlt:k<P.ls.length
   ·have hk1:(k:Int)<(P.ls.length:Int):=by omega
    obtain⟨ca,cb,cc,u,cd,ce⟩:=h.ln k hlt;have hx5:x5=some ⟨g4,0,none⟩:=by
     obtain⟨c,_,hx⟩:=h.v4;rcases hx with⟨h0,_⟩|hx
     ·omega
     ·injection hx
    subst hx5;have hkl:=hnl _ (List.getElem_mem hlt);have hkm:P.ls[k].es.length≤maxLen:=by unfold maxLen;omega
    have HCI:=aA (fun w' (g:Gr wr w')=>qB _ _ _ w' ((ce.vals.row1).gr g) (fun _ _=>rfl) (by omega));have HG:=aA (fun w6 (g:Gr wr w6)=>And.intro (HT.out.grow g).box ((HT.out.grow g).ln k hlt));clear h ca ce;go_upto_region 6 with (fail)
    go_region_with (first|(go_at_call 105;(with_reducible refine(HCI.out _ ?_).mono ?_);(exact(Gr.refl _).drew);rintro e w6 ⟨v6,rfl,g6,o6⟩;obtain⟨x6,y6,rfl⟩:=aC o6;have g7:=(Gr.refl wr).drew.trans g6;obtain⟨⟨z6,e0,e1,e2,e3,e4,e5,e6,e7,e8⟩,ca6,cb6,cc6,u6,cd6,ce6⟩:=HG.out _ g7))
    all_goals
     go_wp2_with fail
     go_roundw
     case rel=>exact⟨k+1,by go_num,hlt,HT.out.step g7 hlt (by simpa using o6) hkm,HLN.out.step g7 hlt (HT.out.ln k hlt).1 HT.out.rs (by obtain⟨_,_,_,u,hu,_⟩:=HT.out.ln k hlt;exact⟨u,hu⟩) (by simpa using o6) hkm⟩
     case measure=>simp[intOf];omega
   ·have hk1:¬(k:Int)<(P.ls.length:Int):=by omega
    obtain⟨r0,hr0⟩:=h.rc 0 (by omega);obtain⟨r1,hr1⟩:=h.rc 1 (by omega);obtain⟨r2,hr2⟩:=h.rc 2 (by omega);obtain⟨r3,hr3⟩:=h.rc 3 (by omega);obtain⟨r4,hr4⟩:=h.rc 4 (by omega);obtain⟨r5,hr5⟩:=h.rc 5 (by omega);obtain⟨r6,hr6⟩:=h.rc 6 (by omega);obtain⟨r7,hr7⟩:=h.rc 7 (by omega);obtain⟨r8,hr8⟩:=h.rc 8 (by omega);have f0:=h.rf 0 (by omega);have f1:=h.rf 1 (by omega);have f2:=h.rf 2 (by omega);have f3:=h.rf 3 (by omega);have f4:=h.rf 4 (by omega);have f5:=h.rf 5 (by omega);have f6:=h.rf 6 (by omega);have f7:=h.rf 7 (by omega);have f8:=h.rf 8 (by omega);clear h;go_wp2_with fail
    have hfar:Far (w.heap.size+1) wr _:=(((((((((Far.refl _ wr).set 0 (.slice p1 P.es.length q1)).set 1 (.slice p2 P.js.length q2)).set 2 (.slice p3 P.ss.length q3)).set 3 (.slice x5 P.ls.length y5)).set 4 (.int .i64 P.top)).set 5 (.int .i64 P.brake)).set 6 (.int .i64 P.margin)).set 7 (.int .i64 P.throw)).set 8 (.bool P.hard);refine bodyPost_ret (v:=aX P (.slice p1 P.es.length q1) (.slice p2 P.js.length q2) (.slice p3 P.ss.length q3) (.slice x5 P.ls.length y5)) (by simp[results,Tryz.results47,go_sem,hr0,hr1,hr2,hr3,hr4,hr5,hr6,hr7,hr8,aX]) rfl ⟨_,_,_,_,rfl,?_,?_⟩
    ·have g:=HT.out.gr
     iterate 9 refine Gr.setCell ?_ (by show w.heap.size≤w.heap.size+1;omega) _
     exact g
    ·intro w2 k2;have hk':k=P.ls.length:=by omega
     subst hk';refine HT.out.doneF HLN.out (Nat.le_trans (by rw[hfar.1];exact Nat.le_refl _) k2.1) fun b o h1 h2 h3=>?_;refine(World.cell?_of_block (a:=⟨b,o,none⟩) (k2.2 b (by rw[hfar.1];exact h3) (by omega))).trans (hfar.2.1 b o h2)
theorem rM(b:Nat)(P:Pln)(w:World)(hN:eR w b P)(hn:P.es.length≤1000∧P.js.length≤1000∧P.ss.length≤1000∧P.ls.length≤1000)(hnl:∀l∈P.ls,l.es.length≤1000):
  Calls Tryz.prog 24 #[.pointer (some ⟨b,0,none⟩)] w (Lt w P):=by
 obtain⟨v1,v2,v3,v4,bn,n1,f1,br,n2,f2,bl,n3,f3,bd,n4,f4,hb,hp,-⟩:=hN;have g0:Gr w (w.alloc (.cells #[.slice none 0 0,.slice none 0 0,.slice none 0 0,.slice none 0 0,.int .i64 0,.int .i64 0,.int .i64 0,.int .i64 0,.bool false] 27)):=(Gr.refl _).alloc _;have HT:=aA (Hl _ P _ (hp.gr g0) hn hnl);have HC:Hid (∀w',Gr (w.alloc (.cells #[.slice none 0 0,.slice none 0 0,.slice none 0 0,.slice none 0 0,.int .i64 0,.int .i64 0,.int .i64 0,.int .i64 0,.bool false] 27)) w'→w.heap.size<w'.heap.size∧w'.cell? ⟨w.heap.size,0,none⟩=some (.slice none 0 0)∧w'.cell? ⟨w.heap.size,1,none⟩=some (.slice none 0 0)∧w'.cell? ⟨w.heap.size,2,none⟩=some (.slice none 0 0)∧w'.cell? ⟨w.heap.size,3,none⟩=some (.slice none 0 0)∧w'.cell? ⟨w.heap.size,4,none⟩=some (.int .i64 0)∧w'.cell? ⟨w.heap.size,5,none⟩=some (.int .i64 0)∧w'.cell? ⟨w.heap.size,6,none⟩=some (.int .i64 0)∧w'.cell? ⟨w.heap.size,7,none⟩=some (.int .i64 0)∧w'.cell? ⟨w.heap.size,8,none⟩=some (.bool false)∧w'.frozen? ⟨w.heap.size,0,none⟩=false∧w'.frozen? ⟨w.heap.size,1,none⟩=false∧w'.frozen? ⟨w.heap.size,2,none⟩=false∧w'.frozen? ⟨w.heap.size,3,none⟩=false∧w'.frozen? ⟨w.heap.size,4,none⟩=false∧w'.frozen? ⟨w.heap.size,5,none⟩=false∧w'.frozen? ⟨w.heap.size,6,none⟩=false∧w'.frozen? ⟨w.heap.size,7,none⟩=false∧w'.frozen? ⟨w.heap.size,8,none⟩=false):=by
  intro w' g;have hz:w.heap.size<((w.alloc (.cells #[.slice none 0 0,.slice none 0 0,.slice none 0 0,.slice none 0 0,.int .i64 0,.int .i64 0,.int .i64 0,.int .i64 0,.bool false] 27))).heap.size:=by simp
  refine⟨Nat.lt_of_lt_of_le hz g.size,(g.cell _ _ hz).trans ?_,(g.cell _ _ hz).trans ?_,(g.cell _ _ hz).trans ?_,(g.cell _ _ hz).trans ?_,(g.cell _ _ hz).trans ?_,(g.cell _ _ hz).trans ?_,(g.cell _ _ hz).trans ?_,(g.cell _ _ hz).trans ?_,(g.cell _ _ hz).trans ?_,(g.frozen _ _ hz).trans ?_,(g.frozen _ _ hz).trans ?_,(g.frozen _ _ hz).trans ?_,(g.frozen _ _ hz).trans ?_,(g.frozen _ _ hz).trans ?_,(g.frozen _ _ hz).trans ?_,(g.frozen _ _ hz).trans ?_,(g.frozen _ _ hz).trans ?_,(g.frozen _ _ hz).trans ?_⟩;all_goals go_simp
 obtain⟨a1,c1,a2,c2,a3,c3,a4,c4,hv,-⟩:=hp;unfold aX at hv;simp only[Value.agg.injEq,Array.mk.injEq,List.cons.injEq,and_true,true_and] at hv;obtain⟨rfl,rfl,rfl,rfl⟩:=hv;unfold aX at HT;obtain⟨zb,p0,p1,p2,p3,p4,p5,p6,p7,p8⟩:=hb;have zz:b<w.heap.size+1:=by omega
 have hh:w.heap.size≤w.heap.size:=Nat.le_refl _;clear hn hnl;go_enter Tryz.func24,Tryz.ntmps24
 go_wp2_with (first|(go_at_call 47;(with_reducible refine HT.out.mono ?_);rintro e w2 ⟨y1,y2,y3,y4,rfl,g2,hF2⟩;obtain⟨b1,d1,b2,d2,b3,d3,b4,d4,hv2,-⟩:=id hF2.now;unfold aX at hv2;simp only[Value.agg.injEq,Array.mk.injEq,List.cons.injEq,and_true,true_and] at hv2;obtain⟨rfl,rfl,rfl,rfl⟩:=hv2;have HF2:=aA hF2;clear hF2;obtain⟨z2,k0,k1,k2,k3,k4,k5,k6,k7,k8,f0,f1,f2,f3,f4,f5,f6,f7,f8⟩:=HC.out _ g2;unfold aX))
 refine bodyPost_ret (v:=aX P (.slice b1 P.es.length d1) (.slice b2 P.js.length d2) (.slice b3 P.ss.length d3) (.slice b4 P.ls.length d4)) (by simp[results,Tryz.results24,go_sem,z2,f0,f1,f2,f3,f4,f5,f6,f7,f8,k0,k1,k2,k3,k4,k5,k6,k7,k8];rfl) rfl ⟨_,_,_,_,rfl,?_,?_⟩
 ·exact((((((((((g0.trans g2).setCell hh _).setCell hh _).setCell hh _).setCell hh _).setCell hh _).setCell hh _).setCell hh _).setCell hh _).setCell hh _)
 ·refine HF2.out.sub (X:=fun k=>k<((w.alloc (.cells #[.slice none 0 0,.slice none 0 0,.slice none 0 0,.slice none 0 0,.int .i64 0,.int .i64 0,.int .i64 0,.int .i64 0,.bool false] 27))).heap.size) ?_ fun i hi=>.inl ?_
  ·have hx:w.heap.size<((w.alloc (.cells #[.slice none 0 0,.slice none 0 0,.slice none 0 0,.slice none 0 0,.int .i64 0,.int .i64 0,.int .i64 0,.int .i64 0,.bool false] 27))).heap.size:=by simp
   iterate 9 refine Kp.trans ?_ (Kp.set hx)
   exact Kp.refl _ _
  ·have:i<w.heap.size:=hi;show i<((w.alloc (.cells #[.slice none 0 0,.slice none 0 0,.slice none 0 0,.slice none 0 0,.int .i64 0,.int .i64 0,.int .i64 0,.int .i64 0,.bool false] 27))).heap.size;simp;omega
end Go.Proofs.YthkbcablnpbmgaaGreatDoor
namespace Go.Proofs.YthkbcablnpbmgaaGreatDoor
open Go.ChangeShapes Go.WideShapes Go.ChangeAt Go.RowKit Go.Maps
def Pi(w:World)(l:List (Int×Int))(e:Ending)(w':World):Prop:=∃v,e= .returned v∧fZ w' v l∧Gr w w'∧(∀k,v.ownBlock=some k→w.heap.size≤k)∧kK v
theorem zI(b:Nat)(P:Pln)(m i:Int)(w:World)(hN:eR w b P):
  Calls Tryz.prog 147 #[.pointer (some ⟨b,0,none⟩),.int .i64 m,.int .i64 i] w (Pi w (aU (dU P m).k i)):=by
 have HK:=aA (fun(w':World) (g:Gr w w')=>iQ b P m w' (hN.gr g));generalize (dU P m).k=k at HK ⊢;have HE:=aA (fun w'=>rD k w');generalize hn:cC k=n at HE;by_cases h0:i<0
 ·have HO:Hid (aU k i=[]):=by show aU k i=[];unfold aU;rw[if_pos (.inl h0)]
  go_enter Tryz.func147,Tryz.ntmps147
  go_wp2_with fail
  go_ret
  exact⟨_,rfl,by rw[HO.out];exact iU _,Gr.refl _,fun k hk=>by simp[Value.ownBlock] at hk,fun a n c e=>by cases e;omega⟩
 ·by_cases h1:n≤i
  ·have HO:Hid (aU k i=[]):=by show aU k i=[];unfold aU;rw[if_pos (.inr (by omega))]
   go_enter Tryz.func147,Tryz.ntmps147
   go_wp2_with (first|(go_at_call 58;(first|(with_reducible refine(HK.out _ (Gr.refl _)).mono ?_;rintro e w1 ⟨rfl,g1⟩)|(with_reducible refine(HK.out _ g1).mono ?_;rintro e w3 ⟨rfl,g3⟩)))|(go_at_call 142;(with_reducible refine(HE.out _).mono ?_);rintro e w2 ⟨rfl,hq⟩;obtain rfl:=hq.symm))
   go_ret
   exact⟨_,rfl,by rw[HO.out];exact iU _,g1,fun k hk=>by simp[Value.ownBlock] at hk,fun a n c e=>by cases e;omega⟩
  ·have ht:¬i≥n:=by omega
   by_cases k1:k=1
   ·subst k1;have e2:n=2:=hn.symm;subst e2;have hi:i=0∨i=1:=by omega
    clear h0 h1 ht;rcases hi with rfl|rfl;all_goals
     go_enter Tryz.func147,Tryz.ntmps147
     go_wp2_with (first|(go_at_call 58;(first|(with_reducible refine(HK.out _ (Gr.refl _)).mono ?_;rintro e w1 ⟨rfl,g1⟩)|(with_reducible refine(HK.out _ g1).mono ?_;rintro e w3 ⟨rfl,g3⟩)))|(go_at_call 142;(with_reducible refine(HE.out _).mono ?_);rintro e w2 ⟨rfl,hq⟩;obtain rfl:=hq.symm))
     go_ret
     exact⟨_,rfl,fU (by simp) (by rw[World.cell?_alloc_mark];rfl) (by rw[World.cell?_alloc_mark];rfl),((g1.trans g3)).alloc _,fun k hk=>by(have q1:=g1.size;have q3:=g3.size;simp[Value.ownBlock] at hk;omega),fun a n c e=>by cases e;omega⟩
   by_cases k3:k=3
   ·subst k3;have e2:n=4:=hn.symm;subst e2;have hi:i=0∨i=1∨i=2∨i=3:=by omega
    clear h0 h1 ht;rcases hi with rfl|rfl|rfl|rfl;all_goals
     go_enter Tryz.func147,Tryz.ntmps147
     go_wp2_with (first|(go_at_call 58;(first|(with_reducible refine(HK.out _ (Gr.refl _)).mono ?_;rintro e w1 ⟨rfl,g1⟩)|(with_reducible refine(HK.out _ g1).mono ?_;rintro e w3 ⟨rfl,g3⟩)))|(go_at_call 142;(with_reducible refine(HE.out _).mono ?_);rintro e w2 ⟨rfl,hq⟩;obtain rfl:=hq.symm))
     go_ret
     exact⟨_,rfl,fU (by simp) (by simp) (by simp),(((g1.trans g3)).alloc _).alloc _,fun k hk=>by(have q1:=g1.size;have q3:=g3.size;simp[Value.ownBlock] at hk;omega),fun a n c e=>by cases e;omega⟩
   by_cases k2:k=2
   ·subst k2;have e2:n=3:=hn.symm;subst e2;have hi:i=0∨i=1∨i=2:=by omega
    clear h0 h1 ht;rcases hi with rfl|rfl|rfl
    ·go_enter Tryz.func147,Tryz.ntmps147
     go_wp2_with (first|(go_at_call 58;(first|(with_reducible refine(HK.out _ (Gr.refl _)).mono ?_;rintro e w1 ⟨rfl,g1⟩)|(with_reducible refine(HK.out _ g1).mono ?_;rintro e w3 ⟨rfl,g3⟩)))|(go_at_call 142;(with_reducible refine(HE.out _).mono ?_);rintro e w2 ⟨rfl,hq⟩;obtain rfl:=hq.symm))
     go_ret
     exact⟨_,rfl,uK (by simp) (by rw[World.cell?_alloc_mark];rfl) (by rw[World.cell?_alloc_mark];rfl) (by rw[World.cell?_alloc_mark];rfl) (by rw[World.cell?_alloc_mark];rfl),((g1.trans g3)).alloc _,fun k hk=>by(have q1:=g1.size;have q3:=g3.size;simp[Value.ownBlock] at hk;omega),fun a n c e=>by cases e;omega⟩
    all_goals
     have q1:=Pf;have q2:=Pg;go_enter Tryz.func147,Tryz.ntmps147
     go_wp2_with (first|(go_at_call 58;(first|(with_reducible refine(HK.out _ (Gr.refl _)).mono ?_;rintro e w1 ⟨rfl,g1⟩)|(with_reducible refine(HK.out _ g1).mono ?_;rintro e w3 ⟨rfl,g3⟩)))|(go_at_call 142;(with_reducible refine(HE.out _).mono ?_);rintro e w2 ⟨rfl,hq⟩;obtain rfl:=hq.symm))
     go_ret
     exact⟨_,rfl,fU (by simp) (by simp) (by simp),((g1.trans g3)).alloc _,fun k hk=>by(have q1:=g1.size;have q3:=g3.size;simp[Value.ownBlock] at hk;omega),fun a n c e=>by cases e;omega⟩
   have HO:Hid (aU k i=[]):=by show aU k i=[];unfold aU;rw[if_neg (by omega),if_neg k1,if_neg k3,if_neg k2]
   have t1:(k==1)=false:=by simpa using k1
   have t2:(k==2)=false:=by simpa using k2
   have t3:(k==3)=false:=by simpa using k3
   clear k1 k2 k3;go_enter Tryz.func147,Tryz.ntmps147
   go_wp2_with (first|(go_at_call 58;(first|(with_reducible refine(HK.out _ (Gr.refl _)).mono ?_;rintro e w1 ⟨rfl,g1⟩)|(with_reducible refine(HK.out _ g1).mono ?_;rintro e w3 ⟨rfl,g3⟩)))|(go_at_call 142;(with_reducible refine(HE.out _).mono ?_);rintro e w2 ⟨rfl,hq⟩;obtain rfl:=hq.symm))
   go_ret
   exact⟨_,rfl,by rw[HO.out];exact iU _,g1.trans g3,fun k hk=>by simp[Value.ownBlock] at hk,fun a n c e=>by cases e;omega⟩
end Go.Proofs.YthkbcablnpbmgaaGreatDoor
