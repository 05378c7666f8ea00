/- Helps of the proof of ChartWord. -/
import Derived.Test.YthkbcablnpbmgaaGreatDoorRows
import Derived.Test.YthkbcablnpbmgaaGreatDoorW45
import Derived.Test.YthkbcablnpbmgaaGreatDoorW2
import Derived.Test.YthkbcablnpbmgaaGreatDoorW36
import Derived.Test.YthkbcablnpbmgaaGreatDoorW9
import Derived.Test.YthkbcablnpbmgaaGreatDoorW38
import Derived.Deep.RegionHeld3
import Derived.Test.YthkbcablnpbmgaaGreatDoorW15
import Derived.Stop.LaidErr
import Derived.Lay
import Derived.LaidMore
import Derived.Lib.LaidU8
set_option linter.unusedVariables false
set_option linter.unusedSimpArgs false
set_option maxHeartbeats 8000000
set_option maxRecDepth 100000
namespace Go.Proofs.YthkbcablnpbmgaaGreatDoor
open Go.Joins Go.ChangeShapes Go.WideShapes Go.RowKit Go.Deep
theorem Iu:Tryz.prog.cellsOf 27=9:=by kernel_rfl
theorem xD:Tryz.prog.cellsOf 61=3:=by kernel_rfl
theorem xU:Tryz.prog.cellsOf 94=4:=by kernel_rfl
theorem sP:Tryz.prog.cellsOf 65=4:=by kernel_rfl
theorem yI:Tryz.prog.cellsOf 59=2:=by kernel_rfl
theorem yV:Tryz.prog.cellsOf 3=1∧Tryz.prog.cellsOf 9=1∧Tryz.prog.cellsOf 4=1∧Tryz.prog.cellsOf 45=1∧Tryz.prog.cellsOf 22=1∧Tryz.prog.cellsOf 23=1∧Tryz.prog.cellsOf 24=1∧Tryz.prog.cellsOf 25=1:=by
 refine⟨?_,?_,?_,?_,?_,?_,?_,?_⟩<;>kernel_rfl
section
variable {H:Type} {enc:TypeId×Value→H} {W:World} {base n:Nat} {sp:Nat→Bool} {held:Bool} {v:Value} {y:DataW H×List MemPlace}
theorem Jl{cs:List Value}(h:DataW.trod enc Tryz.prog W base sp held n 61 cs=some y):∃e:Ele,cs=[.string e.n,.int .i64 e.k,.int .i64 e.l]∧I64 e.k∧I64 e.l∧e.n.size≤maxLen:=by
 obtain⟨xs,m,_,_,hc,hx,hg⟩:=DataW.trod_struct Tryz.underlying61 h;have hl:cs.length=3:=hc.trans xD;obtain⟨ci,cstr,-⟩:=yV;have h0:=hg 0 _ rfl;have h1:=hg 1 _ rfl;have h2:=hg 2 _ rfl;have hxl:xs.length=3:=hx
 match cs,hl,xs,hxl with
 | [c0,c1,c2],_,[y0,y1,y2],_=>
  obtain⟨nm,e0,-,ws⟩:=DataW.trod_string (x:=y0) Tryz.underlying9 (by simpa[cstr] using h0);obtain⟨a,e1,-,wa⟩:=DataW.trod_int (x:=y1) Tryz.underlying3 (by simpa[ci] using h1);obtain⟨b,e2,-,wb⟩:=DataW.trod_int (x:=y2) Tryz.underlying3 (by simpa[ci] using h2);simp only[List.cons.injEq,and_true] at e0 e1 e2;subst e0 e1 e2;exact⟨⟨nm,a,b⟩,rfl,wa,wb,ws⟩
theorem Mm{cs:List Value}(h:DataW.trod enc Tryz.prog W base sp held n 94 cs=some y):∃j:Jn,cs=[.int .i64 j.a.e,.int .i64 j.a.x,.int .i64 j.b.e,.int .i64 j.b.x]∧cI j.a∧cI j.b:=by
 obtain⟨xs,m,_,_,hc,hx,hg⟩:=DataW.trod_struct Tryz.underlying94 h;have hl:cs.length=4:=hc.trans xU;have h0:=hg 0 _ rfl;have h1:=hg 1 _ rfl;have hxl:xs.length=2:=hx
 match cs,hl,xs,hxl with
 | [c0,c1,c2,c3],_,[y0,y1],_=>
  obtain⟨a,e0,wa⟩:=vH (y:=y0) (cs:=[c0,c1]) (by simpa[oI] using h0);obtain⟨b,e1,wb⟩:=vH (y:=y1) (cs:=[c2,c3]) (by simpa[oI] using h1);unfold Prt.cs at e0 e1;simp only[List.cons.injEq,and_true] at e0 e1;obtain⟨rfl,rfl⟩:=e0;obtain⟨rfl,rfl⟩:=e1;exact⟨⟨a,b⟩,rfl,wa,wb⟩
theorem Mv{cs:List Value}(h:DataW.trod enc Tryz.prog W base sp held n 65 cs=some y):∃s:Sg,cs=[.string s.n,.int .i64 s.at_.e,.int .i64 s.at_.x,.bool s.auto]∧cI s.at_∧s.n.size≤maxLen:=by
 obtain⟨xs,m,_,_,hc,hx,hg⟩:=DataW.trod_struct Tryz.underlying65 h;have hl:cs.length=4:=hc.trans sP;obtain⟨ci,cstr,cb,-⟩:=yV;have h0:=hg 0 _ rfl;have h1:=hg 1 _ rfl;have h2:=hg 2 _ rfl;have hxl:xs.length=3:=hx
 match cs,hl,xs,hxl with
 | [c0,c1,c2,c3],_,[y0,y1,y2],_=>
  obtain⟨nm,e0,-,ws⟩:=DataW.trod_string (x:=y0) Tryz.underlying9 (by simpa[cstr] using h0);obtain⟨a,e1,wa⟩:=vH (y:=y1) (cs:=[c1,c2]) (by simpa[oI] using h1);obtain⟨b,e2,-⟩:=DataW.trod_bool (x:=y2) Tryz.underlying4 (by simpa[cb] using h2);unfold Prt.cs at e1;simp only[List.cons.injEq,and_true] at e0 e1 e2;obtain⟨rfl,rfl⟩:=e1;subst e0 e2;exact⟨⟨nm,a,b⟩,rfl,wa,ws⟩
theorem Nl{cs:List Value}(h:DataW.trod enc Tryz.prog W base sp held n 59 cs=some y):∃(l:Ln) (u:Value),cs=[.string l.n,u]∧aR W u (l.es.map (Value.int .i64))∧l.n.size≤maxLen∧∀e∈l.es,I64 e:=by
 obtain⟨xs,m,_,_,hc,hx,hg⟩:=DataW.trod_struct Tryz.underlying59 h;have hl:cs.length=2:=hc.trans yI;obtain⟨ci,cstr,cb,cs1,-⟩:=yV;have h0:=hg 0 _ rfl;have h1:=hg 1 _ rfl;have hxl:xs.length=2:=hx
 match cs,hl,xs,hxl with
 | [c0,c1],_,[y0,y1],_=>
  obtain⟨nm,e0,-,ws⟩:=DataW.trod_string (x:=y0) Tryz.underlying9 (by simpa[cstr] using h0);obtain⟨zs,hz,wz⟩:=Hw (y:=y1) (v:=c1) (by simpa[cs1] using h1);simp only[List.cons.injEq,and_true] at e0;subst e0;exact⟨⟨nm,zs⟩,c1,rfl,hz,ws,wz⟩
theorem oM{α:Type}{t e:TypeId}{sz:Nat}{C:α→Nat→Value}{Q:α→Prop}(ht:Tryz.prog.underlying t=some (.slice e))(hC:Tryz.prog.cellsOf e=sz)(hs:0<sz)(h:DataW.trod enc Tryz.prog W base sp held n t [v]=some y)
  (hel:∀(cs:List Value) (m:Nat) (z:DataW H×List MemPlace),DataW.trod enc Tryz.prog W base sp held m e cs=some z→∃x:α,(∀j,j<sz→cs[j]? =some (C x j))∧Q x):
  ∃L:List α,(∀x∈L,Q x)∧∀(D:Nat→Nat→Value),(∀i j (hi:i<L.length),D i j=C L[i] j)→aL W v sz L.length D:=by
 obtain⟨a,l,c,rfl,hm,hx⟩:=Hu ht hC hs h;rcases hx with rfl|⟨b,o,rfl,hb,hi⟩
 ·exact⟨[],by simp,fun D _=>⟨a,c,rfl,hm,.inl rfl⟩⟩
 ·have key:∀i,i<l→∃x:α,(∀j,j<sz→W.cell? ⟨b,o+i*sz+j,none⟩=some (C x j))∧Q x:=by
   intro i hil;obtain⟨cs,m,z,hl,hc,ht'⟩:=hi i hil;obtain⟨x,hx,hq⟩:=hel cs m z ht';exact⟨x,fun j hj=>hc j _ (hx j hj),hq⟩
  obtain⟨L,hL,hP⟩:=Nv key;refine⟨L,fun x hx=>?_,fun D hD=>⟨some ⟨b,o,none⟩,c,by rw[hL],by rw[hL];exact hm,.inr ⟨b,o,rfl,hb,fun i j hi hj=>?_⟩⟩⟩
  ·obtain⟨i,hi,rfl⟩:=List.getElem_of_mem hx;exact(hP i hi).2
  ·rw[hD i j hi];exact(hP i hi).1 j hj
end
theorem Lu{H:Type}{enc:TypeId×Value→H}{W:World}{r:Reach}{b0 base:Nat}{sp:Nat→Bool}{held:Bool}{v:Value}{d:DataW H}{p:List MemPlace}
  (hv:Value.okWide Tryz.prog W r b0 27 v) (h:DataW.Trod enc Tryz.prog W base sp held 27 v d p) (_lt:∀x∈p,x.block<W.heap.size):
  ∃P:Pln,aI W v P∧fN P:=by
 obtain⟨cs,rfl,hsz⟩:=okWide_struct Tryz.underlying27 hv;obtain⟨l⟩:=cs;obtain⟨ci,cstr,cb,c28,c1,c2,c3,c4⟩:=yV
 match l,hsz.trans Iu with
 | [v0,v1,v2,v3,v4,v5,v6,v7,v8],_=>
  obtain⟨fuel,hf⟩:=h;obtain⟨xs,n,_,hx,_,hlen,hg⟩:=DataW.trod_struct Tryz.underlying27 hf;have h0:=hg 0 _ rfl;have h1:=hg 1 _ rfl;have h2:=hg 2 _ rfl;have h3:=hg 3 _ rfl;have h4:=hg 4 _ rfl;have h5:=hg 5 _ rfl;have h6:=hg 6 _ rfl;have h7:=hg 7 _ rfl;have h8:=hg 8 _ rfl
  match xs,hlen with
  | [y0,y1,y2,y3,y4,y5,y6,y7,y8],_=>
   obtain⟨E,hE,kE⟩:=oM (C:=fun(e:Ele) j=>e.c j) (Q:=fun e=>I64 e.k∧I64 e.l∧e.n.size≤maxLen) (y:=y0) (v:=v0) Tryz.underlying22 xD (by omega) (by simpa[Value.cells,c1] using h0) (fun cs m z hz=>by
    obtain⟨e,rfl,q⟩:=Jl hz;exact⟨e,fun j hj=>by match j,hj with|0,_=>rfl|1,_=>rfl|2,_=>rfl,q⟩)
   obtain⟨J,hJ,kJ⟩:=oM (C:=fun(e:Jn) j=>e.c j) (Q:=fun e=>cI e.a∧cI e.b) (y:=y1) (v:=v1) Tryz.underlying23 xU (by omega) (by simpa[Value.cells,c2] using h1) (fun cs m z hz=>by
    obtain⟨e,rfl,q⟩:=Mm hz;exact⟨e,fun j hj=>by match j,hj with|0,_=>rfl|1,_=>rfl|2,_=>rfl|3,_=>rfl,q⟩)
   obtain⟨S,hS,kS⟩:=oM (C:=fun(e:Sg) j=>e.c j) (Q:=fun e=>cI e.at_∧e.n.size≤maxLen) (y:=y2) (v:=v2) Tryz.underlying24 sP (by omega) (by simpa[Value.cells,c3] using h2) (fun cs m z hz=>by
    obtain⟨e,rfl,q⟩:=Mv hz;exact⟨e,fun j hj=>by match j,hj with|0,_=>rfl|1,_=>rfl|2,_=>rfl|3,_=>rfl,q⟩)
   obtain⟨L,hL,kL⟩:=oM (C:=fun(e:Ln×Value) j=>if j=0 then .string e.1.n else e.2) (Q:=fun e=>aR W e.2 (e.1.es.map (Value.int .i64))∧e.1.n.size≤maxLen∧∀x∈e.1.es,I64 x) (y:=y3) (v:=v3) Tryz.underlying25 yI (by omega) (by simpa[Value.cells,c4] using h3) (fun cs m z hz=>by
    obtain⟨e,u,rfl,q⟩:=Nl hz;exact⟨(e,u),fun j hj=>by match j,hj with|0,_=>rfl|1,_=>rfl,q⟩)
   obtain⟨n4,e4,-,w4⟩:=DataW.trod_int (x:=y4) Tryz.underlying3 (by simpa[Value.cells,ci] using h4);obtain⟨n5,e5,-,w5⟩:=DataW.trod_int (x:=y5) Tryz.underlying3 (by simpa[Value.cells,ci] using h5);obtain⟨n6,e6,-,w6⟩:=DataW.trod_int (x:=y6) Tryz.underlying3 (by simpa[Value.cells,ci] using h6);obtain⟨n7,e7,-,w7⟩:=DataW.trod_int (x:=y7) Tryz.underlying3 (by simpa[Value.cells,ci] using h7);obtain⟨n8,e8,-⟩:=DataW.trod_bool (x:=y8) Tryz.underlying4 (by simpa[Value.cells,cb] using h8);simp only[List.cons.injEq,and_true] at e4 e5 e6 e7 e8;subst e4 e5 e6 e7 e8;have rE:eS W v0 E:=kE _ (fun i j hi=>by rw[aP _ _ hi]);have rJ:mQ W v1 J:=kJ _ (fun i j hi=>by rw[aP _ _ hi]);have rS:iM W v2 S:=kS _ (fun i j hi=>by rw[aP _ _ hi]);have rL:lI W v3 (L.map (·.1)):=by
    refine⟨fun i=>(L.getD i (default,.slice none 0 0)).2,?_,fun i hi=>?_⟩
    ·have:=kL (fun i j=>if j=0 then .string ((L.map (fun z:Ln×Value=>z.1)).getD i default).n else (L.getD i (default,.slice none 0 0)).2) (fun i j hi=>by
      have e1:(L.map (·.1)).getD i default=L[i].1:=by rw[List.getD_eq_getElem?_getD,List.getElem?_map,List.getElem?_eq_getElem hi];rfl
      have e2:L.getD i (default,.slice none 0 0)=L[i]:=by rw[List.getD_eq_getElem?_getD,List.getElem?_eq_getElem hi];rfl
      rw[e1,e2])
     simpa using this
    ·have hi':i<L.length:=by simpa using hi
     have e1:(L.map (·.1)).getD i default=L[i].1:=by rw[List.getD_eq_getElem?_getD,List.getElem?_map,List.getElem?_eq_getElem hi'];rfl
     have e2:L.getD i (default,.slice none 0 0)=L[i]:=by rw[List.getD_eq_getElem?_getD,List.getElem?_eq_getElem hi'];rfl
     show aR W (L.getD i (default,.slice none 0 0)).2 _;rw[e1,e2];exact(hL _ (List.getElem_mem hi')).1
   obtain⟨a1,q1,rfl,-⟩:=id rE;obtain⟨a2,q2,rfl,-⟩:=id rJ;obtain⟨a3,q3,rfl,-⟩:=id rS;obtain⟨_,⟨a4,q4,rfl,-⟩,-⟩:=id rL;refine⟨⟨E,J,S,L.map (·.1),n4,n5,n6,n7,n8⟩,⟨a1,q1,a2,q2,a3,q3,a4,q4,rfl,rE,rJ,rS,rL⟩,hE,fun j hj=>?_,fun s hs=>?_,fun x hx=>?_,w4,w5,w6,w7⟩
   ·have:=hJ j hj;exact⟨this.1.1,this.1.2,this.2.1,this.2.2⟩
   ·have:=hS s hs;exact⟨this.1.1,this.1.2,this.2⟩
   ·obtain⟨z,hz,rfl⟩:=List.mem_map.1 hx;exact(hL z hz).2
end Go.Proofs.YthkbcablnpbmgaaGreatDoor
namespace Go.Proofs.YthkbcablnpbmgaaGreatDoor
open Go.ChangeShapes Go.WideShapes Go.ChangeAt Go.RowKit Go.Maps
def Ok(P:Pln)(w:World)(e:Ending)(w':World):Prop:=
 ∃ra rc,∃(L:List Rod) (ok:Bool),e= .returned (.tuple #[.slice ra L.length rc,.bool ok])∧bE w' (.slice ra L.length rc) L∧Gr w w'∧(ok=true→chk P=0∧L=bF P)
theorem Ca(pv:Value)(P:Pln)(w:World)(hP:aI w pv P)(hok:fN P):Calls Tryz.prog 10 #[pv] w (Ok P w):=by
 have HFI:=aA (fun(w':World) (g:Gr w w')=>Kz _ P w' (hP.gr g) hok);have HB0:=aA (fun(w':World) (g:Gr w w') (hf:iC P=true)=>zO _ P w' (hP.gr g) hok hf);obtain⟨a1,c1,a2,c2,a3,c3,a4,c4,rfl,-⟩:=hP;unfold aX at HFI HB0 ⊢;have G1:Gr w (w.alloc (.cells #[.slice a1 P.es.length c1,.slice a2 P.js.length c2,.slice a3 P.ss.length c3,.slice a4 P.ls.length c4,.int .i64 P.top,.int .i64 P.brake,.int .i64 P.margin,.int .i64 P.throw,.bool P.hard] 27)):=(Gr.refl _).alloc _;have HP:=aA (fun(w':World) (g:Gr (w.alloc (.cells #[.slice a1 P.es.length c1,.slice a2 P.js.length c2,.slice a3 P.ss.length c3,.slice a4 P.ls.length c4,.int .i64 P.top,.int .i64 P.brake,.int .i64 P.margin,.int .i64 P.throw,.bool P.hard] 27)) w')=>(bZ.new w P (.slice a1 P.es.length c1) (.slice a2 P.js.length c2) (.slice a3 P.ss.length c3) (.slice a4 P.ls.length c4)).gr g);by_cases hb:nP P=true;rotate_left
 ·have hb':nP P=false:=by simpa using hb
  rw[hb'] at HFI;clear hb hb' HB0;go_enter Tryz.func10,Tryz.ntmps10
  go_wp2_with (first|(go_at_call 29;(with_reducible refine(HFI.out _ G1).mono ?_);rintro e wf ⟨rfl,gf⟩;(obtain⟨zp,p0,p1,p2,p3,p4,p5,p6,p7,p8⟩:=HP.out _ (gf))))
  go_ret2
  exact⟨none,0,[],false,rfl,bE.nil _,G1.trans gf,fun h=>by cases h⟩
 have hk:=A4 hb;have hfe:iC P=true:=by unfold nP at hb;simp only[Bool.and_eq_true] at hb;exact hb.1
 rw[hb] at HFI;have hB1:=fun(w':World) (g:Gr w w')=>(HB0.out w' g hfe).mono fun e w'' h=>Eo h;have HLX:Hid ((iZ P).2.2=0→(iZ P).2.1=bF P):=aA (by
  unfold iZ;rw[if_neg (by omega)];split
  ·intro h;cases h
  ·intro _;rfl)
 have HK:=aA hk;clear HB0 hb hok hfe hk;generalize iZ P=X at *;obtain⟨T,L,E⟩:=X;unfold chV at hB1;dsimp only at hB1 HLX;have HBU:=aA hB1;clear hB1;go_enter Tryz.func10,Tryz.ntmps10
 go_wp2_with (first|(go_at_call 29;(with_reducible refine(HFI.out _ G1).mono ?_);rintro e wf ⟨rfl,gf⟩;(obtain⟨zp,p0,p1,p2,p3,p4,p5,p6,p7,p8⟩:=HP.out _ (gf)))|(go_at_call 8;(with_reducible refine(HBU.out _ (G1.trans gf)).mono ?_);rintro e wB ⟨b1,d1,b2,d2,b3,d3,b4,d4,ra,rc,rfl,hp1,hr1,gB⟩;have HR1:=aA hr1;have HGB:=aA gB;clear hp1 hr1))
 go_ret2
 refine⟨ra,rc,L,(E==0),rfl,HR1.out.gr ((Gr.refl _).alloc _),((G1.trans gf).trans HGB.out).alloc _,fun h=>⟨HK.out,HLX.out (by simpa using h)⟩⟩
theorem uC(pv:Value)(P:Pln)(i ai:Int)(tw:Bool)(w:World)(ht:qR w)(hP:aI w pv P∧fN P)(wi:(Lit.int .u8 i).wf=true)(wa:(Lit.int .u8 ai).wf=true):
  Calls Tryz.prog 4 #[pv,.int .u8 i,.int .u8 ai,.bool tw] w fun e w'=>e= .returned (.bool true)∧Gr w w':=by
 have hib:0≤i∧i≤255:=by simpa[Lit.wf,IntKind.min,IntKind.max,IntKind.signed,IntKind.bits] using wi
 have hab:0≤ai∧ai≤255:=by simpa[Lit.wf,IntKind.min,IntKind.max,IntKind.signed,IntKind.bits] using wa
 clear wi wa;obtain⟨hP,hok⟩:=hP;have HRO:=aA (fun(w':World) (g:Gr w w')=>Ca _ P w' (hP.gr g) hok);have HLN:=aA (fun(w':World) (g:Gr w w') (rv:Value) (R:Rod) (hR:lL w' rv R) (hB:Db P R)=>wK _ rv P R w' (ht.gr g) (hP.gr g) hR hB.1 hB.2);obtain⟨a1,c1,a2,c2,a3,c3,a4,c4,hpv,-⟩:=id hP;subst hpv;have HPA:=aA (fun(w':World) (g:Gr w w') (s:ByteArray) (hs:s.size≤1048576)=>sU P _ _ _ _ s hs w' (hP.gr g) (Ao ht.sh g));unfold aX Ok at *;have G1:Gr w (w.alloc (.cells #[.slice a1 P.es.length c1,.slice a2 P.js.length c2,.slice a3 P.ss.length c3,.slice a4 P.ls.length c4,.int .i64 P.top,.int .i64 P.brake,.int .i64 P.margin,.int .i64 P.throw,.bool P.hard] 27)):=(Gr.refl _).alloc _;have HKN:=aA (Ch _ (ht.gr G1));have HP:=aA (fun(w':World) (g:Gr (w.alloc (.cells #[.slice a1 P.es.length c1,.slice a2 P.js.length c2,.slice a3 P.ss.length c3,.slice a4 P.ls.length c4,.int .i64 P.top,.int .i64 P.brake,.int .i64 P.margin,.int .i64 P.throw,.bool P.hard] 27)) w')=>(bZ.new w P (.slice a1 P.es.length c1) (.slice a2 P.js.length c2) (.slice a3 P.ss.length c3) (.slice a4 P.ls.length c4)).gr g);clear hP hok ht;go_enter Tryz.func4,Tryz.ntmps4
 go_upto_region 4 with (first|(go_at_call 5;(with_reducible refine(HKN.out).mono ?_);rintro e wk ⟨rfl,gk⟩;(obtain⟨zp,p0,p1,p2,p3,p4,p5,p6,p7,p8⟩:=HP.out _ (gk)))|(go_at_call 10;(with_reducible refine(HRO.out _ (G1.trans gk)).mono ?_);rintro e wr ⟨ra,rc,L,ok,rfl,hL,gr,hh⟩;have HGR:=aA (gk.trans gr);have HL:=aA hL;have HH:=aA hh;clear hL hh;(obtain⟨zp,p0,p1,p2,p3,p4,p5,p6,p7,p8⟩:=HP.out _ (gk.trans gr));clear gk gr))
 generalize (w.alloc (.cells #[.slice a1 P.es.length c1,.slice a2 P.js.length c2,.slice a3 P.ss.length c3,.slice a4 P.ls.length c4,.int .i64 P.top,.int .i64 P.brake,.int .i64 P.margin,.int .i64 P.throw,.bool P.hard] 27))=w1 at *;cases ok
 ·go_wp2_with fail
  go_ret
  exact⟨rfl,G1.trans HGR.out⟩
 obtain⟨hk,hLe⟩:=HH.out rfl;have hlm:L.length≤maxLen:=by obtain⟨_,_,_,h,_⟩:=HL.out.form;exact h
 obtain⟨nl,hnl⟩:∃n,n=L.length:=⟨_,rfl⟩;rw[←hnl] at HL hlm ⊢;by_cases h0:nl=0
 ·have t0:((nl:Int)==0)=true:=fP (by omega);clear h0 hLe;go_wp2_with fail
  go_ret
  exact⟨rfl,G1.trans HGR.out⟩
 have t0:((nl:Int)==0)=false:=dN (by omega);have hlp:(0:Int)<(nl:Int):=by omega
 have hk0:0≤i.tmod (nl:Int)∧i.tmod (nl:Int)<(nl:Int):=⟨Int.tmod_nonneg _ hib.1,Int.tmod_lt_of_pos _ hlp⟩;obtain⟨m,hmm⟩:=Int.eq_ofNat_of_zero_le hk0.1;have hm:m<L.length:=by omega
 have hmi:(m:Int)<(nl:Int):=by omega
 unfold maxLen at hlm;have tm:i.tmod (nl:Int)=(m:Int):=hmm;have ti:IntKind.i64.wrap i=i:=IntWalk.i64_in _ (by omega);have hrm:L[m]∈bF P:=by rw[←hLe];exact List.getElem_mem hm
 have hrB:=pK hk _ hrm;obtain⟨W,hw,h3,hl,h8,hlaw⟩:=Lr hk hrm;have hzs:(bP P L[m]).size≤1048576:=by have:=hrB.size;omega
 obtain⟨lb,lo,⟨V1,V2,V3,V4,V5⟩,hs,zl,hy,hS⟩:=bE.at HL.out m hm;subst hs;have hrod:lL wr (eL L[m] ⟨V1,V2,V3,V4,V5⟩) L[m]:=⟨_,rfl,hS⟩;have hLR:=fun(w':World) (g:Gr wr w')=>HLN.out w' (G1.trans (HGR.out.trans g)) _ _ (hrod.gr g) hrB;have hWD:=fun(w':World)=>yZ (bP P L[m]) hzs w';rw[hw] at hWD;unfold Oz at hWD;have HRD:=aA hrod;unfold eL at hLR HRD;dsimp only at hy hLR hWD HRD;generalize L[m]=r at *;obtain⟨y0,y1,y2,y3,y4,y5,y6,y7,y8⟩:=hy;have HLR:=aA hLR;have HY:=aA (fun(w':World) (g:Gr wr w')=>And.intro (Nat.lt_of_lt_of_le zl g.size) (And.intro ((g.cell _ _ zl).trans y0) (And.intro ((g.cell _ _ zl).trans y1) (And.intro ((g.cell _ _ zl).trans y2) (And.intro ((g.cell _ _ zl).trans y3) (And.intro ((g.cell _ _ zl).trans y4) (And.intro ((g.cell _ _ zl).trans y5) (And.intro ((g.cell _ _ zl).trans y6) (And.intro ((g.cell _ _ zl).trans y7) ((g.cell _ _ zl).trans y8))))))))));have HWD:Hid (∀w',Calls Tryz.prog 11 #[.string (bP P r)] w' fun e w''=>∃va vc,e= .returned (.tuple #[.slice va W.length vc,.bool true])∧aR w'' (.slice va W.length vc) (W.map Value.string)∧Gr w' w''):=aA fun w'=>(hWD w').mono fun e w'' ⟨v,h1,h2,h3⟩=>by
  obtain⟨va,vc,hv,-,-⟩:=id h2;rw[Option.getD_some,List.length_map] at hv;subst hv;exact⟨va,vc,h1,h2,h3⟩
 have HLW:=aA hlaw;have H8:=aA h8;clear hLR hWD hlaw hLe hS hrod hrm hrB hzs hw hk0 hmm h8 HH HRO HKN hm hnl;generalize bP P r=X at *;go_upto_region 6 with fail
 have hsx:=fun(W:World) (g:Gr wr W)=>And.intro (HY.out W g) (HP.out W (HGR.out.trans g));unfold bZ at hsx;have HSX:=aA hsx;clear hsx
 (refine wp_region_held_drew (S:=fun w'=>Gr wr w') (by kernel_rfl) (Gr.refl _).drew (fun hHeld=>?_))
 (refine tkH 0 ?_)
 (refine tkH 1 ?_)
 (refine tkH 2 ?_)
 (refine tkH 3 ?_)
 (refine tkH 4 ?_)
 (refine tkH 5 ?_)
 (refine tkH 6 ?_)
 (refine tkH 7 ?_)
 (refine tkH 8 ?_)
 (refine wpAnyH_ready (rs:=[9]) (by kernel_rfl) (by simp) ?_;refine AllReadyH.cons rfl (fun K hK=>?_) AllReadyH.nil;go_simp;(go_at_call 12;(with_reducible refine(HLR.out _ (Gr.refl _).drew).mono ?_);rintro e w5 ⟨rfl,g5⟩))
 (refine hK.out _ _ ((Gr.refl _).drew.trans g5) (fun hHeld2=>?_);clear hK K hHeld;have hHeld:=hHeld2;clear hHeld2;refine nxH ?_)
 (refine wpAnyH_ready (rs:=[10]) (by kernel_rfl) (by simp) ?_;refine AllReadyH.cons rfl (fun K hK=>?_) AllReadyH.nil;go_simp;(go_at_call 11;(with_reducible refine(HWD.out _).mono ?_);rintro e w6 ⟨va,vc,rfl,hv6,g6⟩))
 (refine hK.out _ _ ((Gr.refl _).drew.trans (g5.trans g6)) (fun hHeld2=>?_);clear hK K hHeld;have hHeld:=hHeld2;clear hHeld2;refine nxH ?_)
 (refine tkH 11 ?_)
 (refine tkH 12 ?_)
 (refine tkH 13 ?_)
 (refine tkH 14 ?_)
 (refine tkH 15 ?_)
 refine wpAnyH_done (by kernel_rfl) ?_ _;clear hHeld HSX;obtain⟨vb,vo,hvs,-,-⟩:=tM hv6 0 (by omega);subst hvs;have HVA:Hid (∀(n:Nat) (hn:n<W.length) (w':World),Gr w6 w'→w'.cell? ⟨vb,vo+n,none⟩=some (.string W[n])):=aA fun n hn w' g=>by
  obtain⟨b,o,e,-,x⟩:=tM (aR.gr hv6 g) n hn;simp only[Option.some.injEq,Addr.mk.injEq,and_true] at e;obtain⟨rfl,rfl⟩:=e;exact x
 have HG6:Hid (Gr wr w6):=aA ((Gr.refl wr).drew.trans (g5.trans g6));obtain⟨wn,hwn⟩:∃n,n=W.length:=⟨_,rfl⟩;rw[←hwn] at h3 hl ⊢;have hwp:(0:Int)<(wn:Int):=by omega
 have hk0:0≤ai.tmod (wn:Int)∧ai.tmod (wn:Int)<(wn:Int):=⟨Int.tmod_nonneg _ hab.1,Int.tmod_lt_of_pos _ hwp⟩;obtain⟨k,hkk⟩:=Int.eq_ofNat_of_zero_le hk0.1;have hkl:k<wn:=by omega
 have tk:ai.tmod (wn:Int)=(k:Int):=hkk;have ta:IntKind.i64.wrap ai=ai:=IntWalk.i64_in _ (by omega);have t3:¬(wn:Int)<3:=by omega
 have tz:¬wn=0:=by omega
 have hkW:k<W.length:=by omega
 have HSZ:=aA (Nw W tw hkW H8.out (by omega));have HST:=aA (fun(j:Nat) (hj:j<W.length)=>Hs W k tw hj);have HAT:=aA (Nk W tw hkW);have HEN:=aA (Mz W tw hkW (by omega));have HLK:=aA (HLW.out k hkW tw);rw[←hwn] at HEN;have HWN:=aA hwn;obtain⟨wc,hwc⟩:∃u,u=wr:=⟨_,rfl⟩;subst hwc;clear hv6 g5 g6 zp p0 p1 p2 p3 p4 p5 p6 p7 p8 y0 y1 y2 y3 y4 y5 y6 y7 y8 zl HLR HWD HLW hwn hk0 hkk;go_wp2_with fail
 go_loopw [14,15] (fun s j wr=>∃n:Nat,j= .int .i64 n∧n≤wn∧s= .string (spW (iF W k tw n))∧Gr w6 wr) (fun _ j _=>wn-(intOf j).toNat)
 case atStart=>exact⟨0,rfl,Nat.zero_le _,by rw[I2];rfl,Gr.refl _⟩
 case round=>
  obtain⟨n,rfl,hn,rfl,g⟩:=hrel;by_cases hlt:n<wn
  ·have hlt1:(n:Int)<(wn:Int):=by omega
   have x0:=HVA.out n (by have:=HWN.out;omega) wr g;have hs:=HSZ.out n;have hx8:(W[n]'(by have:=HWN.out;omega)).size≤8:=H8.out _ (List.getElem_mem _);clear HEN HLK H8;by_cases hnk:n=k
   ·subst hnk;have tn:((n:Int) !=(n:Int))=false:=by simp
    have hat:=HAT.out;generalize W[n]'(by have:=HWN.out;omega)=x at *;cases tw
    ·clear HST HAT HSZ HVA;go_wp2_with fail
     go_roundw
     case rel=>exact⟨n+1,by go_num,hlt,by rw[hat];simp,g⟩
     case measure=>simp[intOf];omega
    ·have he:spW (iF W n true (n+1))=spW (iF W n true n)++⟨#[32]⟩++x++⟨#[32]⟩++x:=by
      rw[hat,if_pos rfl,show([x,x]:List ByteArray)=[x]++[x] from rfl,←List.append_assoc,qU,qU]
     have HE:=aA he;clear HST HAT HSZ HVA hat he;generalize spW (iF W n true n)=S at *;go_upto_region 17 with fail
     go_region
     all_goals go_wp2_with fail
     all_goals go_roundw
     all_goals try (case measure=>(simp[intOf];omega))
     all_goals (case rel=>exact⟨n+1,by go_num,hlt,by rw[HE.out],g.trans (Gr.refl _).drew⟩)
   ·have tn:((n:Int) !=(k:Int))=true:=jW (by omega);have he:spW (iF W k tw (n+1))=spW (iF W k tw n)++⟨#[32]⟩++W[n]'(by have:=HWN.out;omega):=by rw[HST.out n (by have:=HWN.out;omega) hnk,qU]
    have HE:=aA he;clear HST HAT HSZ HVA he;generalize W[n]'(by have:=HWN.out;omega)=x at *;generalize spW (iF W k tw n)=S at *;go_wp2_with fail
    go_roundw
    case rel=>exact⟨n+1,by go_num,hlt,by rw[HE.out],g⟩
    case measure=>simp[intOf];omega
  ·have hlt1:¬(n:Int)<(wn:Int):=by omega
   have hne:n=wn:=by omega
   subst hne;clear hlt hn HST HAT HVA H8;have hS:=HSZ.out n;obtain⟨hext,hone⟩:=HEN.out;have HLK:=HLK.out;rw[←hext] at HLK;clear hext HEN HSZ;generalize spW (iF W k tw n)=S at *;have hzx:(S.extract 1 S.size++⟨#[10]⟩).size≤1048576:=by
    have:(⟨#[10]⟩:ByteArray).size=1:=rfl;rw[dD,ByteArray.size_extract];omega
   have hzy:(S.extract 1 S.size).size≤20000:=by rw[ByteArray.size_extract];omega
   have gw:Gr w1 wr:=HGR.out.trans (HG6.out.trans g);have hsz9:¬9223372036854775807<S.size:=by omega
   have hone1:(1:Int)≤(S.size:Int):=by omega
   have hpj:=fun(w':World) (g:Gr w w')=>HPA.out w' g (S.extract 1 S.size++⟨#[10]⟩) hzx;have HGY:=aA (HG6.out.trans g);clear hzx HPA g
   (obtain⟨zp,p0,p1,p2,p3,p4,p5,p6,p7,p8⟩:=HP.out _ (gw))
   rcases HLK with⟨er,hne0,hpar⟩|⟨q,hpar,hlq,hqr,hqB⟩
   ·rw[hpar] at hpj;have HPJ:Hid (∀w',Gr w w'→Calls Tryz.prog 13 #[.agg #[.slice a1 P.es.length c1,.slice a2 P.js.length c2,.slice a3 P.ss.length c3,.slice a4 P.ls.length c4,.int .i64 P.top,.int .i64 P.brake,.int .i64 P.margin,.int .i64 P.throw,.bool P.hard],.string (S.extract 1 S.size++⟨#[10]⟩)] w' fun e w''=>∃pa pc,e= .returned (.tuple #[.slice pa 0 pc,.int .i64 1,.int .i64 er])∧Gr w' w''):=aA fun w' g=>(hpj w' g).mono fun e w'' ⟨v,h1,h2,h3⟩=>by
     obtain⟨pa,pc,hv,-⟩:=h2.form;subst hv;exact⟨pa,pc,h1,h3⟩
    have te:(er !=0)=true:=jW hne0;clear hpj hpar hne0;go_upto_region 18 with fail
    have hsx:=fun(W:World) (g:Gr wr W)=>HP.out W (gw.trans g);unfold bZ at hsx;have HSX:=aA hsx;clear hsx
    (refine wp_region_held_drew (S:=fun w'=>Gr wr w') (by kernel_rfl) (Gr.refl _).drew (fun hHeld=>?_))
    (refine tkH 0 ?_)
    (refine tkH 1 ?_)
    (refine tkH 2 ?_)
    (refine tkH 3 ?_)
    (refine wpAnyH_ready (rs:=[4]) (by kernel_rfl) (by simp) ?_;refine AllReadyH.cons rfl (fun K hK=>?_) AllReadyH.nil;go_simp;(go_at_call 13;(with_reducible refine(HPJ.out _ (G1.trans gw).drew).mono ?_);rintro e w7 ⟨pa,pc,rfl,g7⟩))
    (refine hK.out _ _ ((Gr.refl _).drew.trans g7) (fun hHeld2=>?_);clear hK K hHeld;have hHeld:=hHeld2;clear hHeld2;refine nxH ?_)
    (refine tkH 5 ?_)
    (refine tkH 6 ?_)
    (refine tkH 7 ?_)
    (refine tkH 8 ?_)
    (refine tkH 9 ?_)
    (refine tkH 10 ?_)
    (refine tkH 11 ?_)
    refine wpAnyH_done (by kernel_rfl) ?_ _;clear hHeld HSX;all_goals go_wp2_with fail
    all_goals go_ret
    all_goals exact⟨rfl,(G1.trans gw).drew.trans g7⟩
   ·rw[hpar] at hpj;have HPJ:Hid (∀w',Gr w w'→Calls Tryz.prog 13 #[.agg #[.slice a1 P.es.length c1,.slice a2 P.js.length c2,.slice a3 P.ss.length c3,.slice a4 P.ls.length c4,.int .i64 P.top,.int .i64 P.brake,.int .i64 P.margin,.int .i64 P.throw,.bool P.hard],.string (S.extract 1 S.size++⟨#[10]⟩)] w' fun e w''=>∃pa pc,e= .returned (.tuple #[.slice pa 1 pc,.int .i64 1,.int .i64 0])∧bE w'' (.slice pa 1 pc) [q]∧Gr w' w''):=aA fun w' g=>(hpj w' g).mono fun e w'' ⟨v,h1,h2,h3⟩=>by
     obtain⟨pa,pc,hv,-⟩:=h2.form;subst hv;exact⟨pa,pc,h1,h2,h3⟩
    have HQR:=aA (decide_eq_false hqr);have HQB:=aA hqB;have HLQ0:=aA hlq;clear hpj hpar hqr hlq hqB;go_upto_region 18 with fail
    have hsx:=fun(W:World) (g:Gr wr W)=>HP.out W (gw.trans g);unfold bZ at hsx;have HSX:=aA hsx;clear hsx
    (refine wp_region_held_drew (S:=fun w'=>Gr wr w') (by kernel_rfl) (Gr.refl _).drew (fun hHeld=>?_))
    (refine tkH 0 ?_)
    (refine tkH 1 ?_)
    (refine tkH 2 ?_)
    (refine tkH 3 ?_)
    (refine wpAnyH_ready (rs:=[4]) (by kernel_rfl) (by simp) ?_;refine AllReadyH.cons rfl (fun K hK=>?_) AllReadyH.nil;go_simp;(go_at_call 13;(with_reducible refine(HPJ.out _ (G1.trans gw).drew).mono ?_);rintro e w7 ⟨pa,pc,rfl,hm7,g7⟩))
    (refine hK.out _ _ ((Gr.refl _).drew.trans g7) (fun hHeld2=>?_);clear hK K hHeld;have hHeld:=hHeld2;clear hHeld2;refine nxH ?_)
    (refine tkH 5 ?_)
    (refine tkH 6 ?_)
    (refine tkH 7 ?_)
    (refine tkH 8 ?_)
    (refine tkH 9 ?_)
    (refine tkH 10 ?_)
    (refine tkH 11 ?_)
    refine wpAnyH_done (by kernel_rfl) ?_ _;clear hHeld HSX;all_goals
     have HG7:Hid (Gr w1 w7):=aA (gw.drew.trans g7);have HGY7:Hid (Gr wc w7):=aA (HGY.out.drew.trans g7);obtain⟨mb,mo,⟨T1,T2,T3,T4,T5⟩,hs7,zm,hx,hS7⟩:=bE.at hm7 0 (by simp);subst hs7;simp only[List.getElem_cons_zero] at hx hS7;try dsimp only at hx
     rw[Nat.zero_mul,Nat.add_zero] at hx;have hrq:lL w7 (eL q ⟨T1,T2,T3,T4,T5⟩) q:=⟨_,rfl,hS7⟩;have hlq:=fun(w':World) (g:Gr w7 w')=>HLN.out w' (G1.trans (HG7.out.trans g)) _ _ (hrq.gr g) HQB.out;have hsm:=fun(w':World) (g:Gr w7 w')=>qA _ _ q r w' (hrq.gr g) (HRD.out.gr (HGY7.out.trans g));rw[HLQ0.out] at hlq;rw[HQR.out] at hsm;unfold eL at hlq hsm;dsimp only at hlq hsm;have HLQ:=aA hlq;have HSM:=aA hsm;obtain⟨u0,u1,u2,u3,u4,u5,u6,u7,u8⟩:=hx;have HM:=aA (fun(w':World) (g:Gr w7 w')=>And.intro (Nat.lt_of_lt_of_le zm g.size) (And.intro ((g.cell _ _ zm).trans u0) (And.intro ((g.cell _ _ zm).trans u1) (And.intro ((g.cell _ _ zm).trans u2) (And.intro ((g.cell _ _ zm).trans u3) (And.intro ((g.cell _ _ zm).trans u4) (And.intro ((g.cell _ _ zm).trans u5) (And.intro ((g.cell _ _ zm).trans u6) (And.intro ((g.cell _ _ zm).trans u7) ((g.cell _ _ zm).trans u8))))))))));clear hlq hsm hrq hS7 hm7 zp p0 p1 p2 p3 p4 p5 p6 p7 p8 HPJ HLN HRD HLQ0 HQB HQR;obtain⟨zy,y0,y1,y2,y3,y4,y5,y6,y7,y8⟩:=HY.out _ HGY7.out
     (obtain⟨zp,p0,p1,p2,p3,p4,p5,p6,p7,p8⟩:=HP.out _ (HG7.out))
     go_upto_region 21 with fail
     have hsx:=fun(W:World) (g:Gr w7 W)=>And.intro (HM.out W g) (And.intro (HY.out W (HGY7.out.trans g)) (HP.out W (HG7.out.trans g)));unfold bZ at hsx;have HSX:=aA hsx;clear hsx
     (refine wp_region_held_drew (S:=fun w'=>Gr w7 w') (by kernel_rfl) (Gr.refl _).drew (fun hHeld=>?_))
     (refine tkH 0 ?_)
     (refine tkH 1 ?_)
     (refine tkH 2 ?_)
     (refine tkH 3 ?_)
     (refine tkH 4 ?_)
     (refine tkH 5 ?_)
     (refine tkH 6 ?_)
     (refine tkH 7 ?_)
     (refine tkH 9 ?_)
     (refine tkH 10 ?_)
     (refine wpAnyH_ready (rs:=[8]) (by kernel_rfl) (by simp) ?_;refine AllReadyH.cons rfl (fun K hK=>?_) AllReadyH.nil;go_simp;(go_at_call 12;(with_reducible refine(HLQ.out _ (Gr.refl _).drew).mono ?_);rintro e w8 ⟨rfl,g8⟩))
     (refine hK.out _ _ ((Gr.refl _).drew.trans g8) (fun hHeld2=>?_);clear hK K hHeld;have hHeld:=hHeld2;clear hHeld2;refine nxH ?_)
     (refine tkH 11 ?_)
     (refine tkH 12 ?_)
     (refine tkH 13 ?_)
     (refine tkH 14 ?_)
     (refine tkH 15 ?_)
     (refine tkH 16 ?_)
     (refine tkH 17 ?_)
     (refine tkH 18 ?_)
     (refine tkH 19 ?_)
     (refine tkH 20 ?_)
     (refine tkH 21 ?_)
     (refine tkH 22 ?_)
     (refine tkH 23 ?_)
     (refine tkH 24 ?_)
     (refine wpAnyH_ready (rs:=[25]) (by kernel_rfl) (by simp) ?_;refine AllReadyH.cons rfl (fun K hK=>?_) AllReadyH.nil;go_simp;(go_at_call 14;(with_reducible refine(HSM.out _ ((Gr.refl _).drew.trans g8)).mono ?_);rintro e w9 ⟨rfl,g9⟩))
     (refine hK.out _ _ ((Gr.refl _).drew.trans (g8.trans g9)) (fun hHeld2=>?_);clear hK K hHeld;have hHeld:=hHeld2;clear hHeld2;refine nxH ?_)
     (refine tkH 26 ?_)
     (refine tkH 27 ?_)
     (refine tkH 28 ?_)
     refine wpAnyH_done (by kernel_rfl) ?_ _;clear hHeld HSX;all_goals go_wp2_with fail
     all_goals go_ret
     all_goals exact⟨rfl,G1.trans ((HG7.out.drew.trans g8).trans g9)⟩
end Go.Proofs.YthkbcablnpbmgaaGreatDoor
namespace Go.Proofs.YthkbcablnpbmgaaGreatDoor
open Go.Lib
set_option maxRecDepth 100000
theorem Kh:(Tryz.prog.globals[1]?).map (·.type)=some 226:=by kernel_rfl
def iN:List (String×DataW Unit):=[("math/bits.deBruijn32tab",Rows.laid_math_bits_deBruijn32tab),("math/bits.deBruijn64tab",Rows.laid_math_bits_deBruijn64tab),("internal/strconv.uint64pow10",Rows.laid_internal_strconv_uint64pow10),("unicode/utf8.acceptRanges",Rows.laid_unicode_utf8_acceptRanges),("unicode/utf8.first",Rows.laid_unicode_utf8_first)]
theorem nF(w:World):laidMetH Tryz.prog iN w=laidMet Tryz.prog iN w:=MakeChecks.laidMetH_plain _ _ _ (by kernel_rfl)
theorem Np{w:World}(hL:laidMetH Tryz.prog iN w)(hsh:w.ShapedOpen Tryz.prog):qR w:=by
 rw[nF] at hL;have h3:=laidMet.tail (laidMet.tail hL);exact⟨Lib.tabIs_of_head rU Kh Tryz.underlying226 Tryz.underlying220 (by kernel_rfl) (by kernel_rfl) h3,hsh⟩
theorem yR(os:Os)(args:Array Value):laidMetH Tryz.prog iN ((World.laidAll Tryz.prog os iN).forCall (fun _ _=>0) ⟨#[],args,[]⟩).memory:=by
 rw[nF];exact laidMet_laidAll _ (by kernel_rfl) (by kernel_rfl)
theorem Ax(os:Os)(args:Array Value):((World.laidAll Tryz.prog os iN).forCall (fun _ _=>0) ⟨#[],args,[]⟩).Shaped Tryz.prog:=
 World.shaped_of_ZipB (by kernel_rfl) (by kernel_rfl)
end Go.Proofs.YthkbcablnpbmgaaGreatDoor
