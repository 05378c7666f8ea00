/- Helps of the proof of ChartBuilds. -/
import Derived.Test.YthkbcablnpbmgaaGreatDoorRows
import Derived.Test.YthkbcablnpbmgaaGreatDoorB45
import Derived.Test.YthkbcablnpbmgaaGreatDoorB2
import Derived.Test.YthkbcablnpbmgaaGreatDoorB36
import Derived.Test.YthkbcablnpbmgaaGreatDoorB9
import Derived.Test.YthkbcablnpbmgaaGreatDoorB15
import Derived.Stop.LaidErr
import Derived.Lay
import Derived.LaidMore
import Derived.Lib.LaidU8
set_option linter.unusedVariables false
set_option linter.unusedSimpArgs false
set_option maxHeartbeats 4000000
set_option maxRecDepth 100000
namespace Go.Proofs.YthkbcablnpbmgaaGreatDoor
open Go.Joins Go.ChangeShapes Go.WideShapes Go.RowKit Go.Deep
theorem Ge:Tryz.prog.cellsOf 27=9:=by kernel_rfl
theorem xC:Tryz.prog.cellsOf 61=3:=by kernel_rfl
theorem yC:Tryz.prog.cellsOf 94=4:=by kernel_rfl
theorem sF:Tryz.prog.cellsOf 65=4:=by kernel_rfl
theorem xJ:Tryz.prog.cellsOf 59=2:=by kernel_rfl
theorem yW:Tryz.prog.cellsOf 3=1∧Tryz.prog.cellsOf 9=1∧Tryz.prog.cellsOf 4=1∧Tryz.prog.cellsOf 45=1∧Tryz.prog.cellsOf 22=1∧Tryz.prog.cellsOf 23=1∧Tryz.prog.cellsOf 24=1∧Tryz.prog.cellsOf 25=1:=by
 refine⟨?_,?_,?_,?_,?_,?_,?_,?_⟩<;>kernel_rfl
section
variable {H:Type} {enc:TypeId×Value→H} {W:World} {base n:Nat} {sp:Nat→Bool} {held:Bool} {v:Value} {y:DataW H×List MemPlace}
theorem Km{cs:List Value}(h:DataW.trod enc Tryz.prog W base sp held n 61 cs=some y):∃e:Ele,cs=[.string e.n,.int .i64 e.k,.int .i64 e.l]∧I64 e.k∧I64 e.l∧e.n.size≤maxLen:=by
 obtain⟨xs,m,_,_,hc,hx,hg⟩:=DataW.trod_struct Tryz.underlying61 h;have hl:cs.length=3:=hc.trans xC;obtain⟨ci,cstr,-⟩:=yW;have h0:=hg 0 _ rfl;have h1:=hg 1 _ rfl;have h2:=hg 2 _ rfl;have hxl:xs.length=3:=hx
 match cs,hl,xs,hxl with
 | [c0,c1,c2],_,[y0,y1,y2],_=>
  obtain⟨nm,e0,-,ws⟩:=DataW.trod_string (x:=y0) Tryz.underlying9 (by simpa[cstr] using h0);obtain⟨a,e1,-,wa⟩:=DataW.trod_int (x:=y1) Tryz.underlying3 (by simpa[ci] using h1);obtain⟨b,e2,-,wb⟩:=DataW.trod_int (x:=y2) Tryz.underlying3 (by simpa[ci] using h2);simp only[List.cons.injEq,and_true] at e0 e1 e2;subst e0 e1 e2;exact⟨⟨nm,a,b⟩,rfl,wa,wb,ws⟩
theorem Mz{cs:List Value}(h:DataW.trod enc Tryz.prog W base sp held n 94 cs=some y):∃j:Jn,cs=[.int .i64 j.a.e,.int .i64 j.a.x,.int .i64 j.b.e,.int .i64 j.b.x]∧cI j.a∧cI j.b:=by
 obtain⟨xs,m,_,_,hc,hx,hg⟩:=DataW.trod_struct Tryz.underlying94 h;have hl:cs.length=4:=hc.trans yC;have h0:=hg 0 _ rfl;have h1:=hg 1 _ rfl;have hxl:xs.length=2:=hx
 match cs,hl,xs,hxl with
 | [c0,c1,c2,c3],_,[y0,y1],_=>
  obtain⟨a,e0,wa⟩:=vO (y:=y0) (cs:=[c0,c1]) (by simpa[nZ] using h0);obtain⟨b,e1,wb⟩:=vO (y:=y1) (cs:=[c2,c3]) (by simpa[nZ] using h1);unfold Prt.cs at e0 e1;simp only[List.cons.injEq,and_true] at e0 e1;obtain⟨rfl,rfl⟩:=e0;obtain⟨rfl,rfl⟩:=e1;exact⟨⟨a,b⟩,rfl,wa,wb⟩
theorem M2{cs:List Value}(h:DataW.trod enc Tryz.prog W base sp held n 65 cs=some y):∃s:Sg,cs=[.string s.n,.int .i64 s.at_.e,.int .i64 s.at_.x,.bool s.auto]∧cI s.at_∧s.n.size≤maxLen:=by
 obtain⟨xs,m,_,_,hc,hx,hg⟩:=DataW.trod_struct Tryz.underlying65 h;have hl:cs.length=4:=hc.trans sF;obtain⟨ci,cstr,cb,-⟩:=yW;have h0:=hg 0 _ rfl;have h1:=hg 1 _ rfl;have h2:=hg 2 _ rfl;have hxl:xs.length=3:=hx
 match cs,hl,xs,hxl with
 | [c0,c1,c2,c3],_,[y0,y1,y2],_=>
  obtain⟨nm,e0,-,ws⟩:=DataW.trod_string (x:=y0) Tryz.underlying9 (by simpa[cstr] using h0);obtain⟨a,e1,wa⟩:=vO (y:=y1) (cs:=[c1,c2]) (by simpa[nZ] using h1);obtain⟨b,e2,-⟩:=DataW.trod_bool (x:=y2) Tryz.underlying4 (by simpa[cb] using h2);unfold Prt.cs at e1;simp only[List.cons.injEq,and_true] at e0 e1 e2;obtain⟨rfl,rfl⟩:=e1;subst e0 e2;exact⟨⟨nm,a,b⟩,rfl,wa,ws⟩
theorem Mp{cs:List Value}(h:DataW.trod enc Tryz.prog W base sp held n 59 cs=some y):∃(l:Ln) (u:Value),cs=[.string l.n,u]∧aQ W u (l.es.map (Value.int .i64))∧l.n.size≤maxLen∧∀e∈l.es,I64 e:=by
 obtain⟨xs,m,_,_,hc,hx,hg⟩:=DataW.trod_struct Tryz.underlying59 h;have hl:cs.length=2:=hc.trans xJ;obtain⟨ci,cstr,cb,cs1,-⟩:=yW;have h0:=hg 0 _ rfl;have h1:=hg 1 _ rfl;have hxl:xs.length=2:=hx
 match cs,hl,xs,hxl with
 | [c0,c1],_,[y0,y1],_=>
  obtain⟨nm,e0,-,ws⟩:=DataW.trod_string (x:=y0) Tryz.underlying9 (by simpa[cstr] using h0);obtain⟨zs,hz,wz⟩:=Ha (y:=y1) (v:=c1) (by simpa[cs1] using h1);simp only[List.cons.injEq,and_true] at e0;subst e0;exact⟨⟨nm,zs⟩,c1,rfl,hz,ws,wz⟩
theorem nY{α:Type}{t e:TypeId}{sz:Nat}{C:α→Nat→Value}{Q:α→Prop}(ht:Tryz.prog.underlying t=some (.slice e))(hC:Tryz.prog.cellsOf e=sz)(hs:0<sz)(h:DataW.trod enc Tryz.prog W base sp held n t [v]=some y)
  (hel:∀(cs:List Value) (m:Nat) (z:DataW H×List MemPlace),DataW.trod enc Tryz.prog W base sp held m e cs=some z→∃x:α,(∀j,j<sz→cs[j]? =some (C x j))∧Q x):
  ∃L:List α,(∀x∈L,Q x)∧∀(D:Nat→Nat→Value),(∀i j (hi:i<L.length),D i j=C L[i] j)→aL W v sz L.length D:=by
 obtain⟨a,l,c,rfl,hm,hx⟩:=Hh ht hC hs h;rcases hx with rfl|⟨b,o,rfl,hb,hi⟩
 ·exact⟨[],by simp,fun D _=>⟨a,c,rfl,hm,.inl rfl⟩⟩
 ·have key:∀i,i<l→∃x:α,(∀j,j<sz→W.cell? ⟨b,o+i*sz+j,none⟩=some (C x j))∧Q x:=by
   intro i hil;obtain⟨cs,m,z,hl,hc,ht'⟩:=hi i hil;obtain⟨x,hx,hq⟩:=hel cs m z ht';exact⟨x,fun j hj=>hc j _ (hx j hj),hq⟩
  obtain⟨L,hL,hP⟩:=Mg key;refine⟨L,fun x hx=>?_,fun D hD=>⟨some ⟨b,o,none⟩,c,by rw[hL],by rw[hL];exact hm,.inr ⟨b,o,rfl,hb,fun i j hi hj=>?_⟩⟩⟩
  ·obtain⟨i,hi,rfl⟩:=List.getElem_of_mem hx;exact(hP i hi).2
  ·rw[hD i j hi];exact(hP i hi).1 j hj
end
theorem I2{H:Type}{enc:TypeId×Value→H}{W:World}{r:Reach}{b0 base:Nat}{sp:Nat→Bool}{held:Bool}{v:Value}{d:DataW H}{p:List MemPlace}
  (hv:Value.okWide Tryz.prog W r b0 27 v) (h:DataW.Trod enc Tryz.prog W base sp held 27 v d p) (_lt:∀x∈p,x.block<W.heap.size):
  ∃P:Pln,aH W v P∧fK P:=by
 obtain⟨cs,rfl,hsz⟩:=okWide_struct Tryz.underlying27 hv;obtain⟨l⟩:=cs;obtain⟨ci,cstr,cb,c28,c1,c2,c3,c4⟩:=yW
 match l,hsz.trans Ge with
 | [v0,v1,v2,v3,v4,v5,v6,v7,v8],_=>
  obtain⟨fuel,hf⟩:=h;obtain⟨xs,n,_,hx,_,hlen,hg⟩:=DataW.trod_struct Tryz.underlying27 hf;have h0:=hg 0 _ rfl;have h1:=hg 1 _ rfl;have h2:=hg 2 _ rfl;have h3:=hg 3 _ rfl;have h4:=hg 4 _ rfl;have h5:=hg 5 _ rfl;have h6:=hg 6 _ rfl;have h7:=hg 7 _ rfl;have h8:=hg 8 _ rfl
  match xs,hlen with
  | [y0,y1,y2,y3,y4,y5,y6,y7,y8],_=>
   obtain⟨E,hE,kE⟩:=nY (C:=fun(e:Ele) j=>e.c j) (Q:=fun e=>I64 e.k∧I64 e.l∧e.n.size≤maxLen) (y:=y0) (v:=v0) Tryz.underlying22 xC (by omega) (by simpa[Value.cells,c1] using h0) (fun cs m z hz=>by
    obtain⟨e,rfl,q⟩:=Km hz;exact⟨e,fun j hj=>by match j,hj with|0,_=>rfl|1,_=>rfl|2,_=>rfl,q⟩)
   obtain⟨J,hJ,kJ⟩:=nY (C:=fun(e:Jn) j=>e.c j) (Q:=fun e=>cI e.a∧cI e.b) (y:=y1) (v:=v1) Tryz.underlying23 yC (by omega) (by simpa[Value.cells,c2] using h1) (fun cs m z hz=>by
    obtain⟨e,rfl,q⟩:=Mz hz;exact⟨e,fun j hj=>by match j,hj with|0,_=>rfl|1,_=>rfl|2,_=>rfl|3,_=>rfl,q⟩)
   obtain⟨S,hS,kS⟩:=nY (C:=fun(e:Sg) j=>e.c j) (Q:=fun e=>cI e.at_∧e.n.size≤maxLen) (y:=y2) (v:=v2) Tryz.underlying24 sF (by omega) (by simpa[Value.cells,c3] using h2) (fun cs m z hz=>by
    obtain⟨e,rfl,q⟩:=M2 hz;exact⟨e,fun j hj=>by match j,hj with|0,_=>rfl|1,_=>rfl|2,_=>rfl|3,_=>rfl,q⟩)
   obtain⟨L,hL,kL⟩:=nY (C:=fun(e:Ln×Value) j=>if j=0 then .string e.1.n else e.2) (Q:=fun e=>aQ W e.2 (e.1.es.map (Value.int .i64))∧e.1.n.size≤maxLen∧∀x∈e.1.es,I64 x) (y:=y3) (v:=v3) Tryz.underlying25 xJ (by omega) (by simpa[Value.cells,c4] using h3) (fun cs m z hz=>by
    obtain⟨e,u,rfl,q⟩:=Mp hz;exact⟨(e,u),fun j hj=>by match j,hj with|0,_=>rfl|1,_=>rfl,q⟩)
   obtain⟨n4,e4,-,w4⟩:=DataW.trod_int (x:=y4) Tryz.underlying3 (by simpa[Value.cells,ci] using h4);obtain⟨n5,e5,-,w5⟩:=DataW.trod_int (x:=y5) Tryz.underlying3 (by simpa[Value.cells,ci] using h5);obtain⟨n6,e6,-,w6⟩:=DataW.trod_int (x:=y6) Tryz.underlying3 (by simpa[Value.cells,ci] using h6);obtain⟨n7,e7,-,w7⟩:=DataW.trod_int (x:=y7) Tryz.underlying3 (by simpa[Value.cells,ci] using h7);obtain⟨n8,e8,-⟩:=DataW.trod_bool (x:=y8) Tryz.underlying4 (by simpa[Value.cells,cb] using h8);simp only[List.cons.injEq,and_true] at e4 e5 e6 e7 e8;subst e4 e5 e6 e7 e8;have rE:dU W v0 E:=kE _ (fun i j hi=>by rw[aO _ _ hi]);have rJ:kM W v1 J:=kJ _ (fun i j hi=>by rw[aO _ _ hi]);have rS:fT W v2 S:=kS _ (fun i j hi=>by rw[aO _ _ hi]);have rL:jM W v3 (L.map (·.1)):=by
    refine⟨fun i=>(L.getD i (default,.slice none 0 0)).2,?_,fun i hi=>?_⟩
    ·have:=kL (fun i j=>if j=0 then .string ((L.map (fun z:Ln×Value=>z.1)).getD i default).n else (L.getD i (default,.slice none 0 0)).2) (fun i j hi=>by
      have e1:(L.map (·.1)).getD i default=L[i].1:=by rw[List.getD_eq_getElem?_getD,List.getElem?_map,List.getElem?_eq_getElem hi];rfl
      have e2:L.getD i (default,.slice none 0 0)=L[i]:=by rw[List.getD_eq_getElem?_getD,List.getElem?_eq_getElem hi];rfl
      rw[e1,e2])
     simpa using this
    ·have hi':i<L.length:=by simpa using hi
     have e1:(L.map (·.1)).getD i default=L[i].1:=by rw[List.getD_eq_getElem?_getD,List.getElem?_map,List.getElem?_eq_getElem hi'];rfl
     have e2:L.getD i (default,.slice none 0 0)=L[i]:=by rw[List.getD_eq_getElem?_getD,List.getElem?_eq_getElem hi'];rfl
     show aQ W (L.getD i (default,.slice none 0 0)).2 _;rw[e1,e2];exact(hL _ (List.getElem_mem hi')).1
   obtain⟨a1,q1,rfl,-⟩:=id rE;obtain⟨a2,q2,rfl,-⟩:=id rJ;obtain⟨a3,q3,rfl,-⟩:=id rS;obtain⟨_,⟨a4,q4,rfl,-⟩,-⟩:=id rL;refine⟨⟨E,J,S,L.map (·.1),n4,n5,n6,n7,n8⟩,⟨a1,q1,a2,q2,a3,q3,a4,q4,rfl,rE,rJ,rS,rL⟩,hE,fun j hj=>?_,fun s hs=>?_,fun x hx=>?_,w4,w5,w6,w7⟩
   ·have:=hJ j hj;exact⟨this.1.1,this.1.2,this.2.1,this.2.2⟩
   ·have:=hS s hs;exact⟨this.1.1,this.1.2,this.2⟩
   ·obtain⟨z,hz,rfl⟩:=List.mem_map.1 hx;exact(hL z hz).2
end Go.Proofs.YthkbcablnpbmgaaGreatDoor
namespace Go.Proofs.YthkbcablnpbmgaaGreatDoor
open Go.ChangeShapes Go.WideShapes Go.ChangeAt Go.RowKit Go.Maps
theorem rI(pv:Value)(P:Pln)(w:World)(ht:qA w)(hP:aH w pv P∧fK P):
  Calls Tryz.prog 3 #[pv] w fun e w'=>e= .returned (.bool true)∧Gr w w':=by
 obtain⟨hP,hok⟩:=hP;have HFW:=aA (fun(w':World) (g:Gr w w')=>Me _ P w' (hP.gr g));have HB0:=aA (fun(w':World) (g:Gr w w') (hf:iG P=true)=>rV _ P w' (hP.gr g) hok hf);have HR0:=aA (fun(w':World) (g:Gr w w') (hf:iG P=true)=>zO _ P w' (hP.gr g) hok hf);obtain⟨a1,c1,a2,c2,a3,c3,a4,c4,rfl,-⟩:=hP;unfold aT at HFW HB0 HR0 ⊢;have G1:Gr w (w.alloc (.cells #[.slice a1 P.es.length c1,.slice a2 P.js.length c2,.slice a3 P.ss.length c3,.slice a4 P.ls.length c4,.int .i64 P.top,.int .i64 P.brake,.int .i64 P.margin,.int .i64 P.throw,.bool P.hard] 27)):=(Gr.refl _).alloc _;have HKN:=aA (A3 _ (ht.gr G1));have HP:=aA (fun(w':World) (g:Gr (w.alloc (.cells #[.slice a1 P.es.length c1,.slice a2 P.js.length c2,.slice a3 P.ss.length c3,.slice a4 P.ls.length c4,.int .i64 P.top,.int .i64 P.brake,.int .i64 P.margin,.int .i64 P.throw,.bool P.hard] 27)) w')=>(bV.new w P (.slice a1 P.es.length c1) (.slice a2 P.js.length c2) (.slice a3 P.ss.length c3) (.slice a4 P.ls.length c4)).gr g);by_cases hb:iG P=true;rotate_left
 ·have hb':iG P=false:=by simpa using hb
  rw[hb'] at HFW;clear hb hb';go_enter Tryz.func3,Tryz.ntmps3
  go_wp2_with (first|(go_at_call 5;(with_reducible refine(HKN.out).mono ?_);rintro e wk ⟨rfl,gk⟩;(obtain⟨zp,p0,p1,p2,p3,p4,p5,p6,p7,p8⟩:=HP.out _ (gk)))|(go_at_call 6;(with_reducible refine(HFW.out _ (G1.trans gk)).mono ?_);rintro e wf ⟨rfl,gf⟩;(obtain⟨zp,p0,p1,p2,p3,p4,p5,p6,p7,p8⟩:=HP.out _ (gk.trans gf))))
  go_ret
  exact⟨rfl,G1.trans (gk.trans gf)⟩
 rw[hb] at HFW;have hB1:=fun(w':World) (g:Gr w w')=>(HB0.out w' g hb).mono fun e w'' h=>uF h;have hR1:=fun(w':World) (g:Gr w w')=>(HR0.out w' g hb).mono fun e w'' h=>uF h;have hSC:=fun(b1 b2 b3 b4 ra e1 e2 e3 e4 sa:Option Addr) (d1 d2 d3 d4 rc f1 f2 f3 f4 sc:Nat) (w':World) (h1:aH w' (aT (dQ P).1 (.slice b1 (dQ P).1.es.length d1) (.slice b2 (dQ P).1.js.length d2) (.slice b3 (dQ P).1.ss.length d3) (.slice b4 (dQ P).1.ls.length d4)) (dQ P).1) (h2:aH w' (aT (dQ P).1 (.slice e1 (dQ P).1.es.length f1) (.slice e2 (dQ P).1.js.length f2) (.slice e3 (dQ P).1.ss.length f3) (.slice e4 (dQ P).1.ls.length f4)) (dQ P).1) (h3:bD w' (.slice ra (dQ P).2.1.length rc) (dQ P).2.1) (h4:bD w' (.slice sa (dQ P).2.1.length sc) (dQ P).2.1)=>vW (dQ P).1 (dQ P).2.1 _ _ _ _ _ _ _ _ _ _ w' h1 h2 h3 h4;clear HB0 HR0 hb hok ht;generalize dQ P=X at *;obtain⟨T,L,E⟩:=X;unfold chV at hB1 hR1 hSC;dsimp only at hB1 hR1 hSC;have HBU:Hid (∀w',Gr w w'→Calls Tryz.prog 7 #[.agg #[.slice a1 P.es.length c1,.slice a2 P.js.length c2,.slice a3 P.ss.length c3,.slice a4 P.ls.length c4,.int .i64 P.top,.int .i64 P.brake,.int .i64 P.margin,.int .i64 P.throw,.bool P.hard]] w' fun e w''=>∃b1 d1 b2 d2 b3 d3 b4 d4 ra rc,e= .returned (.tuple #[.agg #[.slice b1 T.es.length d1,.slice b2 T.js.length d2,.slice b3 T.ss.length d3,.slice b4 T.ls.length d4,.int .i64 T.top,.int .i64 T.brake,.int .i64 T.margin,.int .i64 T.throw,.bool T.hard,.slice ra L.length rc],.int .i64 E])∧aH w'' (aT T (.slice b1 T.es.length d1) (.slice b2 T.js.length d2) (.slice b3 T.ss.length d3) (.slice b4 T.ls.length d4)) T∧bD w'' (.slice ra L.length rc) L∧Gr w' w''):=hB1;have HRB:Hid (∀w',Gr w w'→Calls Tryz.prog 8 #[.agg #[.slice a1 P.es.length c1,.slice a2 P.js.length c2,.slice a3 P.ss.length c3,.slice a4 P.ls.length c4,.int .i64 P.top,.int .i64 P.brake,.int .i64 P.margin,.int .i64 P.throw,.bool P.hard]] w' fun e w''=>∃b1 d1 b2 d2 b3 d3 b4 d4 ra rc,e= .returned (.tuple #[.agg #[.slice b1 T.es.length d1,.slice b2 T.js.length d2,.slice b3 T.ss.length d3,.slice b4 T.ls.length d4,.int .i64 T.top,.int .i64 T.brake,.int .i64 T.margin,.int .i64 T.throw,.bool T.hard,.slice ra L.length rc],.int .i64 E])∧aH w'' (aT T (.slice b1 T.es.length d1) (.slice b2 T.js.length d2) (.slice b3 T.ss.length d3) (.slice b4 T.ls.length d4)) T∧bD w'' (.slice ra L.length rc) L∧Gr w' w''):=hR1;have HSC:=aA hSC;clear hB1 hR1 hSC;have hEE:(E==E)=true:=beq_self_eq_true E;go_enter Tryz.func3,Tryz.ntmps3
 go_wp2_with (first|(go_at_call 5;(with_reducible refine(HKN.out).mono ?_);rintro e wk ⟨rfl,gk⟩;(obtain⟨zp,p0,p1,p2,p3,p4,p5,p6,p7,p8⟩:=HP.out _ (gk)))|(go_at_call 6;(with_reducible refine(HFW.out _ (G1.trans gk)).mono ?_);rintro e wf ⟨rfl,gf⟩;(obtain⟨zp,p0,p1,p2,p3,p4,p5,p6,p7,p8⟩:=HP.out _ (gk.trans gf)))|(go_at_call 7;(with_reducible refine(HBU.out _ (G1.trans (gk.trans gf))).mono ?_);rintro e wB ⟨b1,d1,b2,d2,b3,d3,b4,d4,ra,rc,rfl,hp1,hr1,gB⟩;have HP1:=aA hp1;have HR1:=aA hr1;have gA:Gr (w.alloc (.cells #[.slice a1 P.es.length c1,.slice a2 P.js.length c2,.slice a3 P.ss.length c3,.slice a4 P.ls.length c4,.int .i64 P.top,.int .i64 P.brake,.int .i64 P.margin,.int .i64 P.throw,.bool P.hard] 27)) (wB.alloc (.cells #[.slice b1 T.es.length d1,.slice b2 T.js.length d2,.slice b3 T.ss.length d3,.slice b4 T.ls.length d4,.int .i64 T.top,.int .i64 T.brake,.int .i64 T.margin,.int .i64 T.throw,.bool T.hard,.slice ra L.length rc] 32)):=((gk.trans gf).trans gB).alloc _;obtain⟨zq,q0,q1,q2,q3,q4,q5,q6,q7,q8⟩:=HP.out _ gA;have HCA:=aA (fun(w':World) (g:Gr (wB.alloc (.cells #[.slice b1 T.es.length d1,.slice b2 T.js.length d2,.slice b3 T.ss.length d3,.slice b4 T.ls.length d4,.int .i64 T.top,.int .i64 T.brake,.int .i64 T.margin,.int .i64 T.throw,.bool T.hard,.slice ra L.length rc] 32)) w')=>Np (w:=wB) w' g);clear hp1 hr1)|(go_at_call 8;(with_reducible refine(HRB.out _ (G1.trans gA)).mono ?_);rintro e wC ⟨e1,f1,e2,f2,e3,f3,e4,f4,sa,sc,rfl,hp2,hr2,gC⟩;have HP2:=aA hp2;have HR2:=aA hr2;have gD:Gr (wB.alloc (.cells #[.slice b1 T.es.length d1,.slice b2 T.js.length d2,.slice b3 T.ss.length d3,.slice b4 T.ls.length d4,.int .i64 T.top,.int .i64 T.brake,.int .i64 T.margin,.int .i64 T.throw,.bool T.hard,.slice ra L.length rc] 32)) (wC.alloc (.cells #[.slice e1 T.es.length f1,.slice e2 T.js.length f2,.slice e3 T.ss.length f3,.slice e4 T.ls.length f4,.int .i64 T.top,.int .i64 T.brake,.int .i64 T.margin,.int .i64 T.throw,.bool T.hard,.slice sa L.length sc] 32)):=gC.alloc _;have gE:Gr wC (wC.alloc (.cells #[.slice e1 T.es.length f1,.slice e2 T.js.length f2,.slice e3 T.ss.length f3,.slice e4 T.ls.length f4,.int .i64 T.top,.int .i64 T.brake,.int .i64 T.margin,.int .i64 T.throw,.bool T.hard,.slice sa L.length sc] 32)):=(Gr.refl _).alloc _;obtain⟨zc,k0,k1,k2,k3,k4,k5,k6,k7,k8,k9⟩:=HCA.out _ gD;obtain⟨zd,l0,l1,l2,l3,l4,l5,l6,l7,l8,l9⟩:=Np (w:=wC) (wC.alloc (.cells #[.slice e1 T.es.length f1,.slice e2 T.js.length f2,.slice e3 T.ss.length f3,.slice e4 T.ls.length f4,.int .i64 T.top,.int .i64 T.brake,.int .i64 T.margin,.int .i64 T.throw,.bool T.hard,.slice sa L.length sc] 32)) (Gr.refl _);have HS1:=aA (HSC.out b1 b2 b3 b4 ra e1 e2 e3 e4 sa d1 d2 d3 d4 rc f1 f2 f3 f4 sc (wC.alloc (.cells #[.slice e1 T.es.length f1,.slice e2 T.js.length f2,.slice e3 T.ss.length f3,.slice e4 T.ls.length f4,.int .i64 T.top,.int .i64 T.brake,.int .i64 T.margin,.int .i64 T.throw,.bool T.hard,.slice sa L.length sc] 32)) (HP1.out.gr (((Gr.refl _).alloc _).trans gD)) (HP2.out.gr gE) (HR1.out.gr (((Gr.refl _).alloc _).trans gD)) (HR2.out.gr gE));clear hp2 hr2)|(go_at_call 9;(with_reducible refine(HS1.out).mono ?_);rintro e wE ⟨rfl,gZ⟩))
 go_ret
 exact⟨rfl,(G1.trans gA).trans (gD.trans gZ)⟩
end Go.Proofs.YthkbcablnpbmgaaGreatDoor
namespace Go.Proofs.YthkbcablnpbmgaaGreatDoor
open Go.Lib
set_option maxRecDepth 100000
theorem Kl:(Tryz.prog.globals[1]?).map (·.type)=some 226:=by kernel_rfl
def iN:List (String×DataW Unit):=[("math/bits.deBruijn32tab",Rows.laid_math_bits_deBruijn32tab),("math/bits.deBruijn64tab",Rows.laid_math_bits_deBruijn64tab),("internal/strconv.uint64pow10",Rows.laid_internal_strconv_uint64pow10),("unicode/utf8.acceptRanges",Rows.laid_unicode_utf8_acceptRanges),("unicode/utf8.first",Rows.laid_unicode_utf8_first)]
theorem nK(w:World):laidMetH Tryz.prog iN w=laidMet Tryz.prog iN w:=MakeChecks.laidMetH_plain _ _ _ (by kernel_rfl)
theorem M9{w:World}(hL:laidMetH Tryz.prog iN w)(hsh:w.ShapedOpen Tryz.prog):qA w:=by
 rw[nK] at hL;have h3:=laidMet.tail (laidMet.tail hL);exact⟨Lib.tabIs_of_head rG Kl Tryz.underlying226 Tryz.underlying220 (by kernel_rfl) (by kernel_rfl) h3,hsh⟩
theorem yJ(os:Os)(args:Array Value):laidMetH Tryz.prog iN ((World.laidAll Tryz.prog os iN).forCall (fun _ _=>0) ⟨#[],args,[]⟩).memory:=by
 rw[nK];exact laidMet_laidAll _ (by kernel_rfl) (by kernel_rfl)
theorem Bw(os:Os)(args:Array Value):((World.laidAll Tryz.prog os iN).forCall (fun _ _=>0) ⟨#[],args,[]⟩).Shaped Tryz.prog:=
 World.shaped_of_ZipB (by kernel_rfl) (by kernel_rfl)
end Go.Proofs.YthkbcablnpbmgaaGreatDoor
