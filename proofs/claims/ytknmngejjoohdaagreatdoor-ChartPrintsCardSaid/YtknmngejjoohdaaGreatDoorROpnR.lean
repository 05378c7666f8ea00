/- Helps: OpnR. -/
import Derived.Test.YtknmngejjoohdaaGreatDoorRows
import Derived.Test.YtknmngejjoohdaaGreatDoorB39
import Derived.Test.YtknmngejjoohdaaGreatDoorB33
namespace Go.Proofs.YtknmngejjoohdaaGreatDoor
open Go.Joins Go.ChangeShapes Go.WideShapes Go.RowKit Go.Deep
set_option linter.unusedVariables false
set_option linter.unusedSimpArgs false
theorem cellsStep:Tryz.prog.cellsOf 101 = 3:=by kernel_rfl
theorem cellsNeed:Tryz.prog.cellsOf 112 = 2:=by kernel_rfl
theorem cellsRoad:Tryz.prog.cellsOf 45 = 9:=by kernel_rfl
theorem cellsChart:Tryz.prog.cellsOf 37 = 10:=by kernel_rfl
theorem cellsR:Tryz.prog.cellsOf 41 = 1∧Tryz.prog.cellsOf 42 = 1∧Tryz.prog.cellsOf 35 = 1:=by
 refine ⟨?_,?_,?_⟩ <;> kernel_rfl
section
variable {H:Type} {enc:TypeId × Value → H} {W:World} {base n:Nat} {sp:Nat → Bool} {held:Bool} {v:Value} {y:DataW H × List MemPlace}
theorem trod_cap {t e:TypeId} (ht:Tryz.prog.underlying t = some (.slice e)) (h:DataW.trod enc Tryz.prog W base sp held n t [v] = some y):CapOk v:=by
 rcases open_slice ht h with ⟨hcs,_⟩ | ⟨a,len,cap,m,k,D,Pl,hcs,hb,hl,hm,hmm,hx,hi⟩
 ·simp only [List.cons.injEq,and_true] at hcs
  subst hcs
  intro a n c e;cases e;omega
 ·simp only [List.cons.injEq,and_true] at hcs
  subst hcs
  intro a n c e;cases e;exact hl
set_option maxRecDepth 100000 in
theorem trod_stp {cs:List Value} (h:DataW.trod enc Tryz.prog W base sp held n 101 cs = some y):∃ l:Stp,cs = l.cs:=by
 obtain ⟨xs,m,_,_,hc,hx,hg⟩:=DataW.trod_struct Tryz.underlying101 h
 have hl:cs.length = 3:=hc.trans cellsStep
 obtain ⟨ci,-⟩:=cells1
 have h0:=hg 0 _ rfl
 have h1:=hg 1 _ rfl
 have h2:=hg 2 _ rfl
 have hxl:xs.length = 3:=hx
 match cs,hl,xs,hxl with
 | [c0,c1,c2],_,[y0,y1,y2],_ =>
  obtain ⟨a,e0,-,-⟩:=DataW.trod_int (x:=y0) Tryz.underlying3 (by simpa [ci] using h0)
  obtain ⟨b,e1,-,-⟩:=DataW.trod_int (x:=y1) Tryz.underlying3 (by simpa [ci] using h1)
  obtain ⟨c,e2,-,-⟩:=DataW.trod_int (x:=y2) Tryz.underlying3 (by simpa [ci] using h2)
  simp only [List.cons.injEq,and_true] at e0 e1 e2
  subst e0 e1 e2
  exact ⟨⟨a,b,c⟩,rfl⟩
set_option maxRecDepth 100000 in
theorem trod_nd {cs:List Value} (h:DataW.trod enc Tryz.prog W base sp held n 112 cs = some y):∃ l:Nd,cs = l.cs:=by
 obtain ⟨xs,m,_,_,hc,hx,hg⟩:=DataW.trod_struct Tryz.underlying112 h
 have hl:cs.length = 2:=hc.trans cellsNeed
 obtain ⟨ci,-⟩:=cells1
 have h0:=hg 0 _ rfl
 have h1:=hg 1 _ rfl
 have hxl:xs.length = 2:=hx
 match cs,hl,xs,hxl with
 | [c0,c1],_,[y0,y1],_ =>
  obtain ⟨a,e0,-,-⟩:=DataW.trod_int (x:=y0) Tryz.underlying3 (by simpa [ci] using h0)
  obtain ⟨b,e1,-,-⟩:=DataW.trod_int (x:=y1) Tryz.underlying3 (by simpa [ci] using h1)
  simp only [List.cons.injEq,and_true] at e0 e1
  subst e0 e1
  exact ⟨⟨a,b⟩,rfl⟩
theorem trod_stps (h:DataW.trod enc Tryz.prog W base sp held n 41 [v] = some y):∃ l:List Stp,IsStps W v l:=by
 obtain ⟨L,hL,kL⟩:=trod_rowL (C:=fun (e:Stp) j=>e.c j) (Q:=fun e=>True) Tryz.underlying41 cellsStep (by omega) h (fun cs m z hz=>by
  obtain ⟨e,rfl⟩:=trod_stp hz
  exact ⟨e,fun j hj=>by match j,hj with | 0,_=>rfl | 1,_=>rfl | 2,_=>rfl,trivial⟩)
 exact ⟨L,kL _ (fun i j hi=>by rw [getD_at _ _ hi])⟩
theorem trod_nds (h:DataW.trod enc Tryz.prog W base sp held n 42 [v] = some y):∃ l:List Nd,IsNds W v l:=by
 obtain ⟨L,hL,kL⟩:=trod_rowL (C:=fun (e:Nd) j=>e.c j) (Q:=fun e=>True) Tryz.underlying42 cellsNeed (by omega) h (fun cs m z hz=>by
  obtain ⟨e,rfl⟩:=trod_nd hz
  exact ⟨e,fun j hj=>by match j,hj with | 0,_=>rfl | 1,_=>rfl,trivial⟩)
 exact ⟨L,kL _ (fun i j hi=>by rw [getD_at _ _ hi])⟩
set_option maxRecDepth 100000 in
theorem trod_rod {cs:List Value} (h:DataW.trod enc Tryz.prog W base sp held n 45 cs = some y):∃ (r:Rod) (S:S5),cs = rodCs r S∧RodS W S r:=by
 obtain ⟨xs,m,_,_,hc,hx,hg⟩:=DataW.trod_struct Tryz.underlying45 h
 have hl:cs.length = 9:=hc.trans cellsRoad
 obtain ⟨ci,cstr,cb,cis,-⟩:=cells1
 obtain ⟨cst,cnd,-⟩:=cellsR
 have h0:=hg 0 _ rfl
 have h1:=hg 1 _ rfl
 have h2:=hg 2 _ rfl
 have h3:=hg 3 _ rfl
 have h4:=hg 4 _ rfl
 have h5:=hg 5 _ rfl
 have h6:=hg 6 _ rfl
 have h7:=hg 7 _ rfl
 have h8:=hg 8 _ rfl
 have hxl:xs.length = 9:=hx
 match cs,hl,xs,hxl with
 | [c0,c1,c2,c3,c4,c5,c6,c7,c8],_,[y0,y1,y2,y3,y4,y5,y6,y7,y8],_ =>
  obtain ⟨a,e0,-,-⟩:=DataW.trod_int (x:=y0) Tryz.underlying3 (by simpa [cis,cst,cnd,cb,ci] using h0)
  obtain ⟨b,e1,-,-⟩:=DataW.trod_int (x:=y1) Tryz.underlying3 (by simpa [cis,cst,cnd,cb,ci] using h1)
  obtain ⟨c,e2,-,-⟩:=DataW.trod_int (x:=y2) Tryz.underlying3 (by simpa [cis,cst,cnd,cb,ci] using h2)
  obtain ⟨L3,k3⟩:=trod_stps (y:=y3) (v:=c3) (by simpa [cis,cst,cnd,cb,ci] using h3)
  obtain ⟨L4,k4⟩:=trod_nds (y:=y4) (v:=c4) (by simpa [cis,cst,cnd,cb,ci] using h4)
  obtain ⟨L5,k5⟩:=trod_nds (y:=y5) (v:=c5) (by simpa [cis,cst,cnd,cb,ci] using h5)
  obtain ⟨L6,k6,-⟩:=trod_ints (y:=y6) (v:=c6) (by simpa [cis,cst,cnd,cb,ci] using h6)
  obtain ⟨L7,k7,-⟩:=trod_ints (y:=y7) (v:=c7) (by simpa [cis,cst,cnd,cb,ci] using h7)
  obtain ⟨t,e8,-⟩:=DataW.trod_bool (x:=y8) Tryz.underlying4 (by simpa [cis,cst,cnd,cb,ci] using h8)
  simp only [List.cons.injEq,and_true] at e0 e1 e2 e8
  subst e0 e1 e2 e8
  exact ⟨⟨a,b,c,L3,L4,L5,L6,L7,t⟩,⟨c3,c4,c5,c6,c7⟩,rfl,k3,k4,k5,k6,k7⟩
theorem trod_rods (h:DataW.trod enc Tryz.prog W base sp held n 35 [v] = some y):∃ l:List Rod,IsRods W v l:=by
 obtain ⟨L,hL,kL⟩:=trod_rowL (C:=fun (e:Rod × S5) j=>(rodCs e.1 e.2).getD j default) (Q:=fun e=>RodS W e.2 e.1) Tryz.underlying35 cellsRoad (by omega) h (fun cs m z hz=>by
  obtain ⟨e,u,rfl,q⟩:=trod_rod hz
  exact ⟨(e,u),fun j hj=>by match j,hj with | 0,_=>rfl | 1,_=>rfl | 2,_=>rfl | 3,_=>rfl | 4,_=>rfl | 5,_=>rfl | 6,_=>rfl | 7,_=>rfl | 8,_=>rfl,q⟩)
 have e1:∀ i (hi:i < L.length),(L.map (·.1)).getD i default = L[i].1:=fun i hi=>by rw [List.getD_eq_getElem?_getD,List.getElem?_map,List.getElem?_eq_getElem hi];rfl
 have e2:∀ i (hi:i < L.length),L.getD i (default,S50) = L[i]:=fun i hi=>by rw [List.getD_eq_getElem?_getD,List.getElem?_eq_getElem hi];rfl
 refine ⟨L.map (·.1),⟨⟨fun i=>(L.getD i (default,S50)).2,?_,fun i hi=>?_⟩,trod_cap Tryz.underlying35 h⟩⟩
 ·have:=kL (fun i j=>(rodCs ((L.map (fun z:Rod × S5=>z.1)).getD i default) (L.getD i (default,S50)).2).getD j default) (fun i j hi=>by rw [e1 i hi,e2 i hi])
  simpa using this
 ·have hi':i < L.length:=by simpa using hi
  show RodS W (L.getD i (default,S50)).2 _
  rw [e1 i hi',e2 i hi']
  exact hL _ (List.getElem_mem hi')
set_option maxRecDepth 100000 in
theorem trod_pln {v0 v1 v2 v3 v4 v5 v6 v7 v8:Value} (hf:DataW.trod enc Tryz.prog W base sp held n 28 [v0,v1,v2,v3,v4,v5,v6,v7,v8] = some y):∃ P:Pln,IsPln W (.agg #[v0,v1,v2,v3,v4,v5,v6,v7,v8]) P∧PlnOk P:=by
 obtain ⟨ci,cstr,cb,c28,c1,c2,c3,c4⟩:=cells1
 obtain ⟨xs,n,_,hx,_,hlen,hg⟩:=DataW.trod_struct Tryz.underlying28 hf
 have h0:=hg 0 _ rfl
 have h1:=hg 1 _ rfl
 have h2:=hg 2 _ rfl
 have h3:=hg 3 _ rfl
 have h4:=hg 4 _ rfl
 have h5:=hg 5 _ rfl
 have h6:=hg 6 _ rfl
 have h7:=hg 7 _ rfl
 have h8:=hg 8 _ rfl
 match xs,hlen with
 | [y0,y1,y2,y3,y4,y5,y6,y7,y8],_ =>
  obtain ⟨E,hE,kE⟩:=trod_rowL (C:=fun (e:Ele) j=>e.c j) (Q:=fun e=>I64 e.k∧I64 e.l∧e.n.size ≤ maxLen) (y:=y0) (v:=v0) Tryz.underlying23 cellsElem (by omega) (by simpa [c1] using h0) (fun cs m z hz=>by
   obtain ⟨e,rfl,q⟩:=trod_ele hz
   exact ⟨e,fun j hj=>by match j,hj with | 0,_=>rfl | 1,_=>rfl | 2,_=>rfl,q⟩)
  obtain ⟨J,hJ,kJ⟩:=trod_rowL (C:=fun (e:Jn) j=>e.c j) (Q:=fun e=>PrtOk e.a∧PrtOk e.b) (y:=y1) (v:=v1) Tryz.underlying24 cellsJoin (by omega) (by simpa [c2] using h1) (fun cs m z hz=>by
   obtain ⟨e,rfl,q⟩:=trod_jn hz
   exact ⟨e,fun j hj=>by match j,hj with | 0,_=>rfl | 1,_=>rfl | 2,_=>rfl | 3,_=>rfl,q⟩)
  obtain ⟨S,hS,kS⟩:=trod_rowL (C:=fun (e:Sg) j=>e.c j) (Q:=fun e=>PrtOk e.at_∧e.n.size ≤ maxLen) (y:=y2) (v:=v2) Tryz.underlying25 cellsSignal (by omega) (by simpa [c3] using h2) (fun cs m z hz=>by
   obtain ⟨e,rfl,q⟩:=trod_sg hz
   exact ⟨e,fun j hj=>by match j,hj with | 0,_=>rfl | 1,_=>rfl | 2,_=>rfl | 3,_=>rfl,q⟩)
  obtain ⟨L,hL,kL⟩:=trod_rowL (C:=fun (e:Ln × Value) j=>if j = 0 then .string e.1.n else e.2) (Q:=fun e=>IsVals W e.2 (e.1.es.map (Value.int .i64))∧e.1.n.size ≤ maxLen∧∀ x ∈ e.1.es,I64 x) (y:=y3) (v:=v3) Tryz.underlying26 cellsLine (by omega) (by simpa [c4] using h3) (fun cs m z hz=>by
   obtain ⟨e,u,rfl,q⟩:=trod_ln hz
   exact ⟨(e,u),fun j hj=>by match j,hj with | 0,_=>rfl | 1,_=>rfl,q⟩)
  obtain ⟨n4,e4,-,w4⟩:=DataW.trod_int (x:=y4) Tryz.underlying3 (by simpa [ci] using h4)
  obtain ⟨n5,e5,-,w5⟩:=DataW.trod_int (x:=y5) Tryz.underlying3 (by simpa [ci] using h5)
  obtain ⟨n6,e6,-,w6⟩:=DataW.trod_int (x:=y6) Tryz.underlying3 (by simpa [ci] using h6)
  obtain ⟨n7,e7,-,w7⟩:=DataW.trod_int (x:=y7) Tryz.underlying3 (by simpa [ci] using h7)
  obtain ⟨n8,e8,-⟩:=DataW.trod_bool (x:=y8) Tryz.underlying4 (by simpa [cb] using h8)
  simp only [List.cons.injEq,and_true] at e4 e5 e6 e7 e8
  subst e4 e5 e6 e7 e8
  have rE:IsEles W v0 E:=kE _ (fun i j hi=>by rw [getD_at _ _ hi])
  have rJ:IsJns W v1 J:=kJ _ (fun i j hi=>by rw [getD_at _ _ hi])
  have rS:IsSgs W v2 S:=kS _ (fun i j hi=>by rw [getD_at _ _ hi])
  have rL:IsLns W v3 (L.map (·.1)):=by
   refine ⟨fun i=>(L.getD i (default,.slice none 0 0)).2,?_,fun i hi=>?_⟩
   ·have:=kL (fun i j=>if j = 0 then .string ((L.map (fun z:Ln × Value=>z.1)).getD i default).n else (L.getD i (default,.slice none 0 0)).2) (fun i j hi=>by
     have e1:(L.map (·.1)).getD i default = L[i].1:=by rw [List.getD_eq_getElem?_getD,List.getElem?_map,List.getElem?_eq_getElem hi];rfl
     have e2:L.getD i (default,.slice none 0 0) = L[i]:=by rw [List.getD_eq_getElem?_getD,List.getElem?_eq_getElem hi];rfl
     rw [e1,e2])
    simpa using this
   ·have hi':i < L.length:=by simpa using hi
    have e1:(L.map (·.1)).getD i default = L[i].1:=by rw [List.getD_eq_getElem?_getD,List.getElem?_map,List.getElem?_eq_getElem hi'];rfl
    have e2:L.getD i (default,.slice none 0 0) = L[i]:=by rw [List.getD_eq_getElem?_getD,List.getElem?_eq_getElem hi'];rfl
    show IsVals W (L.getD i (default,.slice none 0 0)).2 _
    rw [e1,e2]
    exact (hL _ (List.getElem_mem hi')).1
  obtain ⟨a1,q1,rfl,-⟩:=id rE
  obtain ⟨a2,q2,rfl,-⟩:=id rJ
  obtain ⟨a3,q3,rfl,-⟩:=id rS
  obtain ⟨_,⟨a4,q4,rfl,-⟩,-⟩:=id rL
  refine ⟨⟨E,J,S,L.map (·.1),n4,n5,n6,n7,n8⟩,⟨a1,q1,a2,q2,a3,q3,a4,q4,rfl,rE,rJ,rS,rL⟩,hE,fun j hj=>?_,fun s hs=>?_,fun x hx=>?_,w4,w5,w6,w7⟩
  ·have:=hJ j hj;exact ⟨this.1.1,this.1.2,this.2.1,this.2.2⟩
  ·have:=hS s hs;exact ⟨this.1.1,this.1.2,this.2⟩
  ·obtain ⟨z,hz,rfl⟩:=List.mem_map.1 hx
   exact (hL z hz).2
end
set_option maxRecDepth 100000 in
theorem open_rod {H:Type} {enc:TypeId × Value → H} {W:World} {r:Reach} {b0 base:Nat} {sp:Nat → Bool} {held:Bool} {v:Value} {d:DataW H} {p:List MemPlace}
  (hv:Value.okWide Tryz.prog W r b0 45 v) (h:DataW.Trod enc Tryz.prog W base sp held 45 v d p) (_lt:∀ x ∈ p,x.block < W.heap.size) :
  ∃ R:Rod,IsRod W v R:=by
 obtain ⟨cs,rfl,hsz⟩:=okWide_struct Tryz.underlying45 hv
 obtain ⟨fuel,hf⟩:=h
 obtain ⟨R,S,e,hS⟩:=trod_rod (by simpa [Value.cells] using hf)
 refine ⟨R,S,?_,hS⟩
 unfold rodV
 have:cs = (rodCs R S).toArray:=by rw [← e]
 rw [this];rfl
set_option maxRecDepth 100000 in
theorem open_chart {H:Type} {enc:TypeId × Value → H} {W:World} {r:Reach} {b0 base:Nat} {sp:Nat → Bool} {held:Bool} {v:Value} {d:DataW H} {p:List MemPlace}
  (hv:Value.okWide Tryz.prog W r b0 37 v) (h:DataW.Trod enc Tryz.prog W base sp held 37 v d p) (_lt:∀ x ∈ p,x.block < W.heap.size) :
  ∃ (P:Pln) (e j s l rv:Value) (L:List Rod),v = chV P e j s l rv∧IsPln W (plnV P e j s l) P∧PlnOk P∧IsRods W rv L:=by
 obtain ⟨cs,rfl,hsz⟩:=okWide_struct Tryz.underlying37 hv
 obtain ⟨l⟩:=cs
 obtain ⟨-,-,cr⟩:=cellsR
 match l,hsz.trans cellsChart with
 | [v0,v1,v2,v3,v4,v5,v6,v7,v8,v9],_ =>
  obtain ⟨fuel,hf⟩:=h
  obtain ⟨xs,n,_,hx,_,hlen,hg⟩:=DataW.trod_struct Tryz.underlying37 hf
  have h0:=hg 0 _ rfl
  have h1:=hg 1 _ rfl
  match xs,hlen with
  | [y0,y1],_ =>
   obtain ⟨P,hP,hok⟩:=trod_pln (y:=y0) (v0:=v0) (v1:=v1) (v2:=v2) (v3:=v3) (v4:=v4) (v5:=v5) (v6:=v6) (v7:=v7) (v8:=v8) (by simpa [Value.cells,cellsPlan] using h0)
   obtain ⟨L,hL⟩:=trod_rods (y:=y1) (v:=v9) (by simpa [Value.cells,cellsPlan,cr] using h1)
   obtain ⟨a1,c1,a2,c2,a3,c3,a4,c4,e,-⟩:=id hP
   unfold plnV at e
   simp only [Value.agg.injEq,Array.mk.injEq,List.cons.injEq,and_true] at e
   obtain ⟨rfl,rfl,rfl,rfl,rfl,rfl,rfl,rfl,rfl⟩:=e
   exact ⟨P,_,_,_,_,v9,L,rfl,hP,hok,hL⟩
def IsCht (W:World) (v:Value) (c:Pln × List Rod):Prop:=∃ e j s l rv:Value,v = chV c.1 e j s l rv∧IsPln W (plnV c.1 e j s l) c.1∧PlnOk c.1∧IsRods W rv c.2
set_option maxRecDepth 100000 in
theorem open_cht {H:Type} {enc:TypeId × Value → H} {W:World} {r:Reach} {b0 base:Nat} {sp:Nat → Bool} {held:Bool} {v:Value} {d:DataW H} {p:List MemPlace}
  (hv:Value.okWide Tryz.prog W r b0 37 v) (h:DataW.Trod enc Tryz.prog W base sp held 37 v d p) (lt:∀ x ∈ p,x.block < W.heap.size) :
  ∃ c:Pln × List Rod,IsCht W v c:=by
 obtain ⟨P,e,j,s,l,rv,L,h1,h2,h3,h4⟩:=open_chart hv h lt
 exact ⟨(P,L),e,j,s,l,rv,h1,h2,h3,h4⟩
end Go.Proofs.YtknmngejjoohdaaGreatDoor
