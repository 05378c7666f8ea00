/- Helps of the proof of ChartWord. -/
import Derived.Test.YthkbcablnpbmgaaGreatDoorRows
import Derived.Test.YthkbcablnpbmgaaGreatDoorW30
import Derived.Test.YthkbcablnpbmgaaGreatDoorW26
import Derived.Test.YthkbcablnpbmgaaGreatDoorW32
import Derived.Test.YthkbcablnpbmgaaGreatDoorW13
set_option linter.unusedVariables false
set_option linter.unusedSimpArgs false
set_option maxHeartbeats 8000000
set_option maxRecDepth 100000
namespace Go.Proofs.YthkbcablnpbmgaaGreatDoor
open Go.ChangeShapes Go.WideShapes Go.ChangeAt Go.RowKit Go.Maps
theorem Pm{w:World}{v1 v2 v3 v4 v9:Value}{x4 x5 x6 x7:Int}{x8:Bool}(w':World)(g:Gr (w.alloc (.cells #[v1,v2,v3,v4,.int .i64 x4,.int .i64 x5,.int .i64 x6,.int .i64 x7,.bool x8,v9] 32)) w'):
  w.heap.size<w'.heap.size∧w'.cell? ⟨w.heap.size,0,none⟩=some v1∧w'.cell? ⟨w.heap.size,1,none⟩=some v2∧w'.cell? ⟨w.heap.size,2,none⟩=some v3∧w'.cell? ⟨w.heap.size,3,none⟩=some v4∧w'.cell? ⟨w.heap.size,4,none⟩=some (.int .i64 x4)∧w'.cell? ⟨w.heap.size,5,none⟩=some (.int .i64 x5)∧w'.cell? ⟨w.heap.size,6,none⟩=some (.int .i64 x6)∧w'.cell? ⟨w.heap.size,7,none⟩=some (.int .i64 x7)∧w'.cell? ⟨w.heap.size,8,none⟩=some (.bool x8)∧w'.cell? ⟨w.heap.size,9,none⟩=some v9:=by
 have hb:=(g.block _ (by simp)).trans (heap_alloc_new w (.cells #[v1,v2,v3,v4,.int .i64 x4,.int .i64 x5,.int .i64 x6,.int .i64 x7,.bool x8,v9] 32));have c:=fun o=>cell_of_row w' w.heap.size o _ _ _ hb;exact⟨aB hb,c 0,c 1,c 2,c 3,c 4,c 5,c 6,c 7,c 8,c 9⟩
def Fx(xs:List Value)(o:Nat):List Value→List Value
 | []=>xs
 | v::t=>Fx (xs.set o v) (o+1) t
theorem Ct{B sz n c g:Nat}{e:TypeId}:∀(vs:List Value) (o:Nat) (w:World) (xs:List Value),w.ownsRow B e sz (.slice (some ⟨g,0,none⟩) n c) n xs→(w.setCells g o vs).ownsRow B e sz (.slice (some ⟨g,0,none⟩) n c) n (Fx xs o vs)
 | [],o,w,xs,h=>h
 | v::t,o,w,xs,h=>Ct t (o+1) _ _ (World.ownsRow.stored h o v).1
theorem yE:∀(l u X Y:List Value),l.length=u.length→Fx (X++(l++Y)) X.length u=X++(u++Y)
 | [],[],X,Y,_=>rfl
 | [],b::u,X,Y,h=>by simp at h
 | a::l,[],X,Y,h=>by simp at h
 | a::l,b::u,X,Y,h=>by
  have e:(X++(a::l++Y)).set X.length b=(X++[b])++(l++Y):=by
   rw[List.set_append_right _ _ (Nat.le_refl _),Nat.sub_self];simp
  have ih:=yE l u (X++[b]) Y (by simpa using h);show Fx ((X++(a::l++Y)).set X.length b) (X.length+1) u=_;rw[e];rw[List.length_append,List.length_singleton] at ih;rw[ih];simp
theorem oY(b:Nat):∀(vs:List Value) (o:Nat) (w:World),(w.setCells b o vs).heap.size=w.heap.size
 | [],o,w=>rfl
 | v::t,o,w=>(oY b t (o+1) _).trans (by simp)
theorem Dg(A:List (Rod×S5)):(A.flatMap fun p=>cL p.1 p.2).length=A.length*9:=by
 induction A with
 | nil=>rfl
 | cons a t ih=>rw[List.flatMap_cons,List.length_append,ih,List.length_cons];show 9+_=_;omega
theorem bG.lay{B g c:Nat}{w:World}{A D:List (Rod×S5)}{p q:Rod×S5}(h:bG B w (.slice (some ⟨g,0,none⟩) (A++p::D).length c) (A++p::D)):bG B (w.setCells g (A.length*9) (cL q.1 q.2)) (.slice (some ⟨g,0,none⟩) (A++q::D).length c) (A++q::D):=by
 have h1:=Ct (cL q.1 q.2) (A.length*9) w _ h;have e1:(A++p::D).flatMap (fun p=>cL p.1 p.2)=(A.flatMap fun p=>cL p.1 p.2)++(cL p.1 p.2++D.flatMap fun p=>cL p.1 p.2):=by rw[List.flatMap_append,List.flatMap_cons]
 have e2:(A++q::D).flatMap (fun p=>cL p.1 p.2)=(A.flatMap fun p=>cL p.1 p.2)++(cL q.1 q.2++D.flatMap fun p=>cL p.1 p.2):=by rw[List.flatMap_append,List.flatMap_cons]
 have e3:=yE (cL p.1 p.2) (cL q.1 q.2) (A.flatMap fun p=>cL p.1 p.2) (D.flatMap fun p=>cL p.1 p.2) rfl;rw[Dg] at e3;rw[e1,e3,←e2] at h1;have e4:(A++q::D).length=(A++p::D).length:=by simp
 unfold bG;rw[e4];exact h1
def wU:Value:=.agg #[.slice none 0 0,.slice none 0 0,.slice none 0 0,.slice none 0 0,.int .i64 0,.int .i64 0,.int .i64 0,.int .i64 0,.bool false,.slice none 0 0]
def Nh(P:Pln)(w:World)(e:Ending)(w':World):Prop:=
 Gr w w'∧((chk P≠0∧e= .returned (.tuple #[wU,.int .i64 (chk P)]))∨(chk P=0∧64<(bU P).length∧e= .returned (.tuple #[wU,.int .i64 3]))∨
  (chk P=0∧¬64<(bU P).length∧∃x1 x2 x3 x4 rv,e= .returned (.tuple #[chV P x1 x2 x3 x4 rv,.int .i64 0])∧aI w' (aX P x1 x2 x3 x4) P∧bE w' rv (bF P)))
def FlO(P:Pln):Prop:=∀(bn:Nat) (r:Rod) (a1 a2 a3 a4 a5:Option Addr) (k1 k2 k3 k4 k5:Nat) (w:World),eR w bn P→lC P r→bQ w (.slice a1 r.st.length k1) r.st→cX w (.slice a2 r.nd.length k2) r.nd→
  Calls Tryz.prog 23 #[.pointer (some ⟨bn,0,none⟩),.agg #[.int .i64 r.fr,.int .i64 r.dst,.int .i64 r.en,.slice a1 r.st.length k1,.slice a2 r.nd.length k2,.slice a3 r.gd.length k3,.slice a4 r.zn.length k4,.slice a5 r.hd.length k5,.bool r.ba]] w fun e w'=>∃V,e= .returned (eL (bC P r) V)∧cM w.heap.size w' V (bC P r)∧Gr w w'
def BdS(P:Pln)(w1:World)(g c k:Nat)(wr:World):Prop:=
 ∃Q:List (Rod×S5),Gr w1 wr∧Q.length=(bU P).length∧bG w1.heap.size wr (.slice (some ⟨g,0,none⟩) (bU P).length c) Q∧Q.map Prod.fst=((bU P).take k).map (bC P)++(bU P).drop k∧Frz (fun i=>i=g) wr fun w'=>bM w1.heap.size w' Q
theorem Km{P:Pln}(hk:chk P=0){r:Rod}(h:lC P r):gC (bC P r):=by
 have:=vO hk h;unfold gC maxLen;omega
theorem BdS.step{P:Pln}{w1 wr w2:World}{g c k:Nat}{Q:List (Rod×S5)}{V:S5}(hk:chk P=0)(hkl:k<(bU P).length)(g1:Gr w1 wr)(hl:Q.length=(bU P).length)(ho:bG w1.heap.size wr (.slice (some ⟨g,0,none⟩) (bU P).length c) Q)(hm:Q.map Prod.fst=((bU P).take k).map (bC P)++(bU P).drop k)(hf:Frz (fun i=>i=g) wr fun w'=>bM w1.heap.size w' Q)
  (hg:w1.heap.size≤g) (hw:lC P (bU P)[k]) (g2:Gr wr w2) (hn:cM wr.heap.size w2 V (bC P (bU P)[k])):BdS P w1 g c (k+1) (w2.setCells g (k*9) (cL (bC P (bU P)[k]) V)):=by
 have hkQ:k<Q.length:=by omega
 have hz:=g1.size;have hdec:Q=Q.take k++Q[k]::Q.drop (k+1):=by
  conv=>lhs;rw[←List.take_append_drop k Q,List.drop_eq_getElem_cons hkQ]
 have hAl:(Q.take k).length=k:=by rw[List.length_take];omega
 have ho2:bG w1.heap.size w2 (.slice (some ⟨g,0,none⟩) (bU P).length c) Q:=aE ho g2;have hgl:g<wr.heap.size:=bL ho g rfl;have e4:(Q.take k++(bC P (bU P)[k],V)::Q.drop (k+1)).length=(bU P).length:=by
  simp only[List.length_append,List.length_cons,List.length_take,List.length_drop];omega
 have hlay:=bG.lay (A:=Q.take k) (D:=Q.drop (k+1)) (p:=Q[k]) (q:=(bC P (bU P)[k],V)) (w:=w2) (g:=g) (c:=c) (B:=w1.heap.size) (by rw[←hdec,hl];exact ho2);rw[hAl,e4] at hlay;have kX:Kp (fun i=>i=g) w2 (w2.setCells g (k*9) (cL (bC P (bU P)[k]) V)):=⟨by rw[oY];exact Nat.le_refl _,fun i _ hi=>bK g i hi _ _ _⟩;refine⟨_,Gr.setCells (w':=w2) hg _ _ _ (g1.trans g2),e4,hlay,?_,?_⟩
 ·rw[List.map_append,List.map_cons,List.map_take,List.map_drop,hm];have h1:(((bU P).take k).map (bC P)).length=k:=by rw[List.length_map,List.length_take];omega
  rw[List.take_append_of_le_length (by omega),List.take_of_length_le (by omega),List.drop_append,h1,List.drop_eq_nil_of_le (by omega),List.nil_append];have h2:k+1-k=1:=by omega
  rw[h2,List.drop_drop];rw[List.take_add_one,List.getElem?_eq_getElem hkl,List.map_append];simp
 ·intro w3 k3;have h1:bM w1.heap.size w3 Q:=((hf.gr g2).kp kX) w3 k3;have h2:cM wr.heap.size w3 V (bC P (bU P)[k]):=(hn.frzB (X:=fun i=>i=g) (fun i hi=>by rw[hi];exact hgl)) w3 (kX.trans k3);intro p hp;rcases List.mem_append.1 hp with hp|hp
  ·exact h1 p (List.mem_of_mem_take hp)
  rcases List.mem_cons.1 hp with rfl|hp
  ·exact⟨h2.base hz,Km hk hw⟩
  ·exact h1 p (List.mem_of_mem_drop hp)
theorem yO{B:Nat}{w:World}{v:Value}{Q:List (Rod×S5)}(h:bG B w v Q)(hq:bM B w Q)(hl:Q.length≤maxLen):bE w v (Q.map Prod.fst):=Kf h (fun p hp=>(hq p hp).1.rods (hq p hp).2) hl
def BdV(P:Pln)(w1:World)(oa:Option Addr)(c k:Nat)(wr:World):Prop:=
 ∃Q:List (Rod×S5),Gr w1 wr∧Q.length=(bU P).length∧bG w1.heap.size wr (.slice oa (bU P).length c) Q∧Q.map Prod.fst=((bU P).take k).map (bC P)++(bU P).drop k∧Frz (fun i=>oa=some ⟨i,0,none⟩) wr fun w'=>bM w1.heap.size w' Q
theorem BdV.iff(P:Pln)(w1:World)(g c k:Nat)(wr:World):BdV P w1 (some ⟨g,0,none⟩) c k wr↔BdS P w1 g c k wr:=by
 have e:(fun i=>(some (⟨g,0,none⟩:Addr))=some ⟨i,0,none⟩)=fun i=>i=g:=by
  funext i
  exact propext ⟨fun h=>by injection h with h;injection h with h;exact h.symm,fun h=>by rw[h]⟩
 unfold BdV BdS;rw[e]
theorem BdV.init{P:Pln}{w1 w2:World}{oa:Option Addr}{c:Nat}{O:List (Rod×S5)}(hl:O.length=(bU P).length)(ho:bG w1.heap.size w2 (.slice oa (bU P).length c) O)(hn:bM w1.heap.size w2 O)(hm:O.map Prod.fst=bU P)(g:Gr w1 w2):BdV P w1 oa c 0 w2:=by
 refine⟨O,g,hl,ho,by simpa using hm,?_⟩;intro w' k p hp;obtain⟨h1,h2⟩:=hn p hp;refine⟨?_,h2⟩;rcases oa with _|⟨gb,go,gn⟩
 ·exact(h1.frzB (X:=fun i=>(none:Option Addr)=some ⟨i,0,none⟩) (fun i hi=>by cases hi)) w' k
 ·by_cases e:go=0∧gn=none
  ·obtain⟨rfl,rfl⟩:=e;rw[←hl] at ho;exact(h1.frzT (g:=gb) ho) w' (k.mono fun i _ hi=>by injection hi with hi;injection hi with hi;exact hi.symm)
  ·exact(h1.frzB (X:=fun i=>(some (⟨gb,go,gn⟩:Addr))=some ⟨i,0,none⟩) (fun i hi=>by injection hi with hi;injection hi with h1 h2 h3;exact absurd ⟨h2,h3⟩ e)) w' k
theorem BdV.read{P:Pln}{w1 wr:World}{oa:Option Addr}{c k:Nat}(hk:k<(bU P).length)(h64:(bU P).length≤64)(h:BdV P w1 oa c k wr):
  ∃g Q,oa=some ⟨g,0,none⟩∧w1.heap.size≤g∧g<wr.heap.size∧Gr w1 wr∧Q.length=(bU P).length∧bG w1.heap.size wr (.slice (some ⟨g,0,none⟩) (bU P).length c) Q∧Q.map Prod.fst=((bU P).take k).map (bC P)++(bU P).drop k∧Frz (fun i=>i=g) wr (fun w'=>bM w1.heap.size w' Q)∧
   bE wr (.slice (some ⟨g,0,none⟩) (bU P).length c) (((bU P).take k).map (bC P)++(bU P).drop k):=by
 obtain⟨Q,g1,hl,ho,hm,hf⟩:=id h;obtain⟨g,c',e,hb,hlt⟩:=kN ho (by omega);injection e with e1 e2 e3;subst e1;obtain⟨Q,g1,hl,ho,hm,hf⟩:=(BdV.iff P w1 g c k wr).1 h;refine⟨g,Q,rfl,hb,hlt,g1,hl,ho,hm,hf,?_⟩;rw[←hm];rw[←hl] at ho;have:=yO ho hf.now (by unfold maxLen;omega);rw[hl] at this;exact this
theorem Lb{B b:Nat}{w:World}{v:Value}{Q:List (Rod×S5)}(ho:bG B w v Q)(hn:bM B w Q)(hb:b<B)(hl:Q.length≤maxLen):Frz (fun i=>i=b) w fun w'=>bE w' v (Q.map Prod.fst):=fun w' k=>
 yO (lQ ho (fun i hi=>by rw[hi];exact hb) w' k) (fun p hp=>⟨(hn p hp).1.frzB (X:=fun i=>i=b) (fun i hi=>by rw[hi];exact hb) w' k,(hn p hp).2⟩) hl
theorem BdV.fin{P:Pln}{w1 wr:World}{oa:Option Addr}{c b:Nat}(hl:(bU P).length≤64)(h:BdV P w1 oa c (bU P).length wr)(hb:b<w1.heap.size):Gr w1 wr∧∀w3,Gr wr w3→Frz (fun i=>i=b) w3 fun w'=>bE w' (.slice oa (bU P).length c) (bF P):=by
 obtain⟨Q,g1,hq,ho,hm,hf⟩:=h;refine⟨g1,fun w3 g=>?_⟩;have e:Q.map Prod.fst=bF P:=by rw[hm,List.take_length,List.drop_length,List.append_nil];rfl
 rw[←e];exact Lb (aE (show World.ownsRow wr _ _ _ _ _ _ from ho) g) (hf.now.gr g) hb (by unfold maxLen;omega)
theorem Dj(pv:Value)(P:Pln)(w:World)(hP:aI w pv P)(hok:fN P)(hf:iC P=true)(hFL:chk P=0→FlO P):
  Calls Tryz.prog 7 #[pv] w (Nh P w):=by
 obtain⟨a1,c1,a2,c2,a3,c3,a4,c4,rfl,-⟩:=id hP;have G2:Gr w ((w.alloc (.cells #[.slice a1 P.es.length c1,.slice a2 P.js.length c2,.slice a3 P.ss.length c3,.slice a4 P.ls.length c4,.int .i64 P.top,.int .i64 P.brake,.int .i64 P.margin,.int .i64 P.throw,.bool P.hard] 27)).alloc (.cells #[.slice none 0 0,.slice none 0 0,.slice none 0 0,.slice none 0 0,.int .i64 0,.int .i64 0,.int .i64 0,.int .i64 0,.bool false,.slice none 0 0] 32)):=((Gr.refl w).alloc _).alloc _;have hzb:(((w.alloc (.cells #[.slice a1 P.es.length c1,.slice a2 P.js.length c2,.slice a3 P.ss.length c3,.slice a4 P.ls.length c4,.int .i64 P.top,.int .i64 P.brake,.int .i64 P.margin,.int .i64 P.throw,.bool P.hard] 27)).alloc (.cells #[.slice none 0 0,.slice none 0 0,.slice none 0 0,.slice none 0 0,.int .i64 0,.int .i64 0,.int .i64 0,.int .i64 0,.bool false,.slice none 0 0] 32))).heap[w.heap.size+1]? =some (.cells #[.slice none 0 0,.slice none 0 0,.slice none 0 0,.slice none 0 0,.int .i64 0,.int .i64 0,.int .i64 0,.int .i64 0,.bool false,.slice none 0 0] 32):=by
  have e2:=heap_alloc_new (w.alloc (.cells #[.slice a1 P.es.length c1,.slice a2 P.js.length c2,.slice a3 P.ss.length c3,.slice a4 P.ls.length c4,.int .i64 P.top,.int .i64 P.brake,.int .i64 P.margin,.int .i64 P.throw,.bool P.hard] 27)) (.cells #[.slice none 0 0,.slice none 0 0,.slice none 0 0,.slice none 0 0,.int .i64 0,.int .i64 0,.int .i64 0,.int .i64 0,.bool false,.slice none 0 0] 32);have e3:(w.alloc (.cells #[.slice a1 P.es.length c1,.slice a2 P.js.length c2,.slice a3 P.ss.length c3,.slice a4 P.ls.length c4,.int .i64 P.top,.int .i64 P.brake,.int .i64 P.margin,.int .i64 P.throw,.bool P.hard] 27)).heap.size=w.heap.size+1:=by simp
  rw[e3] at e2;exact e2
 have HXF:Hid (∀w',Gr ((w.alloc (.cells #[.slice a1 P.es.length c1,.slice a2 P.js.length c2,.slice a3 P.ss.length c3,.slice a4 P.ls.length c4,.int .i64 P.top,.int .i64 P.brake,.int .i64 P.margin,.int .i64 P.throw,.bool P.hard] 27)).alloc (.cells #[.slice none 0 0,.slice none 0 0,.slice none 0 0,.slice none 0 0,.int .i64 0,.int .i64 0,.int .i64 0,.int .i64 0,.bool false,.slice none 0 0] 32)) w'→w.heap.size+1<w'.heap.size∧(w'.cell? ⟨w.heap.size+1,0,none⟩=some (.slice none 0 0)∧w'.cell? ⟨w.heap.size+1,1,none⟩=some (.slice none 0 0)∧w'.cell? ⟨w.heap.size+1,2,none⟩=some (.slice none 0 0)∧w'.cell? ⟨w.heap.size+1,3,none⟩=some (.slice none 0 0)∧w'.cell? ⟨w.heap.size+1,4,none⟩=some (.int .i64 0)∧w'.cell? ⟨w.heap.size+1,5,none⟩=some (.int .i64 0)∧w'.cell? ⟨w.heap.size+1,6,none⟩=some (.int .i64 0)∧w'.cell? ⟨w.heap.size+1,7,none⟩=some (.int .i64 0)∧w'.cell? ⟨w.heap.size+1,8,none⟩=some (.bool false)∧w'.cell? ⟨w.heap.size+1,9,none⟩=some (.slice none 0 0))∧(w'.frozen? ⟨w.heap.size+1,0,none⟩=false∧w'.frozen? ⟨w.heap.size+1,1,none⟩=false∧w'.frozen? ⟨w.heap.size+1,2,none⟩=false∧w'.frozen? ⟨w.heap.size+1,3,none⟩=false∧w'.frozen? ⟨w.heap.size+1,4,none⟩=false∧w'.frozen? ⟨w.heap.size+1,5,none⟩=false∧w'.frozen? ⟨w.heap.size+1,6,none⟩=false∧w'.frozen? ⟨w.heap.size+1,7,none⟩=false∧w'.frozen? ⟨w.heap.size+1,8,none⟩=false∧w'.frozen? ⟨w.heap.size+1,9,none⟩=false)):=aA fun w' g=>by
  have hb:=(g.block _ (aB hzb)).trans hzb;have c:=fun o=>cell_of_row w' (w.heap.size+1) o _ _ _ hb;have f:=fun o=>frozen_of_row w' (w.heap.size+1) o _ _ hb;exact⟨aB hb,⟨c 0,c 1,c 2,c 3,c 4,c 5,c 6,c 7,c 8,c 9⟩,f 0,f 1,f 2,f 3,f 4,f 5,f 6,f 7,f 8,f 9⟩
 have hpb:(((w.alloc (.cells #[.slice a1 P.es.length c1,.slice a2 P.js.length c2,.slice a3 P.ss.length c3,.slice a4 P.ls.length c4,.int .i64 P.top,.int .i64 P.brake,.int .i64 P.margin,.int .i64 P.throw,.bool P.hard] 27)).alloc (.cells #[.slice none 0 0,.slice none 0 0,.slice none 0 0,.slice none 0 0,.int .i64 0,.int .i64 0,.int .i64 0,.int .i64 0,.bool false,.slice none 0 0] 32))).heap[w.heap.size]? =some (.cells #[.slice a1 P.es.length c1,.slice a2 P.js.length c2,.slice a3 P.ss.length c3,.slice a4 P.ls.length c4,.int .i64 P.top,.int .i64 P.brake,.int .i64 P.margin,.int .i64 P.throw,.bool P.hard] 27):=by
  have e1:Gr (w.alloc (.cells #[.slice a1 P.es.length c1,.slice a2 P.js.length c2,.slice a3 P.ss.length c3,.slice a4 P.ls.length c4,.int .i64 P.top,.int .i64 P.brake,.int .i64 P.margin,.int .i64 P.throw,.bool P.hard] 27)) ((w.alloc (.cells #[.slice a1 P.es.length c1,.slice a2 P.js.length c2,.slice a3 P.ss.length c3,.slice a4 P.ls.length c4,.int .i64 P.top,.int .i64 P.brake,.int .i64 P.margin,.int .i64 P.throw,.bool P.hard] 27)).alloc (.cells #[.slice none 0 0,.slice none 0 0,.slice none 0 0,.slice none 0 0,.int .i64 0,.int .i64 0,.int .i64 0,.int .i64 0,.bool false,.slice none 0 0] 32)):=(Gr.refl _).alloc _;exact(e1.block _ (by simp)).trans (heap_alloc_new w _)
 have pc:=fun o=>cell_of_row _ _ o _ _ _ hpb;have p0:=pc 0;have p1:=pc 1;have p2:=pc 2;have p3:=pc 3;have p4:=pc 4;have p5:=pc 5;have p6:=pc 6;have p7:=pc 7;have p8:=pc 8;have zp:=aB hpb;clear pc hpb;have HNW:=aA (Mx _ P ((w.alloc (.cells #[.slice a1 P.es.length c1,.slice a2 P.js.length c2,.slice a3 P.ss.length c3,.slice a4 P.ls.length c4,.int .i64 P.top,.int .i64 P.brake,.int .i64 P.margin,.int .i64 P.throw,.bool P.hard] 27)).alloc (.cells #[.slice none 0 0,.slice none 0 0,.slice none 0 0,.slice none 0 0,.int .i64 0,.int .i64 0,.int .i64 0,.int .i64 0,.bool false,.slice none 0 0] 32)) (hP.gr G2) hok hf);have HG2:=aA G2;have HZB:=aA hzb;unfold aX at HNW ⊢;clear hP G2 hzb;have hres:w.heap.size≤w.heap.size+1:=by omega
 by_cases hk:chk P=0;rotate_left
 ·have HC:Hid (chk P≠0):=hk;have tk:(chk P !=0)=true:=jW hk;clear hk hFL;go_enter Tryz.func7,Tryz.ntmps7
  go_upto_region 3 with (first|(go_at_call 21;(with_reducible refine(HNW.out).mono ?_);rintro e1 w1 hR;obtain⟨g1,⟨h0,-⟩|⟨-,rfl⟩⟩:=hR;(exact absurd h0 HC.out)))
  obtain⟨cp,hcp⟩:∃u,u=chk P:=⟨_,rfl⟩;have HCP:=aA hcp;rw[←hcp] at tk ⊢;clear hcp
  (obtain⟨zrz,⟨r0,r1,r2,r3,r4,r5,r6,r7,r8,r9⟩,q0,q1,q2,q3,q4,q5,q6,q7,q8,q9⟩:=HXF.out w1 g1)
  go_wp2_with fail
  refine bodyPost_ret (v:=.tuple #[wU,.int .i64 cp]) (by simp[wU,results,Tryz.results7,go_sem,zrz,q0,q1,q2,q3,q4,q5,q6,q7,q8,q9,r0,r1,r2,r3,r4,r5,r6,r7,r8,r9]) rfl ⟨?_,.inl ⟨HC.out,by rw[HCP.out]⟩⟩
  iterate 10 refine Gr.setCell ?_ hres _
  exact HG2.out.trans g1
 have hkz:Hid (chk P=0):=hk;have tk:(chk P !=0)=false:=iJ hk;have HFL:=aA (hFL hk);have HOK:=aA hok;have hzz:=eT hk;clear hFL hok;go_enter Tryz.func7,Tryz.ntmps7
 go_upto_region 2 with (first|(go_at_call 21;(with_reducible refine(HNW.out).mono ?_);rintro e1 w1 hR;obtain⟨g1,⟨h0,bn,rfl,hN⟩|⟨h0,-⟩⟩:=hR;rotate_left;exact absurd hkz.out h0))
 have hnl:∀l∈P.ls,l.es.length≤1000:=fun l hl=>by have:=((zM hf).2.2.2.2.1 l hl).1;omega
 have hnn:P.es.length≤1000∧P.js.length≤1000∧P.ss.length≤1000∧P.ls.length≤1000:=by
  have h:=hzz.1;have:=zM hf;refine⟨?_,?_,?_,?_⟩<;>omega
 have HPL:=aA (fun(w':World) (g:Gr w1 w')=>rM bn P w' (hN.gr g) hnn hnl);have HAL:=aA (As bn P w1 hN hkz.out HOK.out);have HN:=aA hN;have HG1:=aA g1;clear hnl hnn hzz hN hk HNW tk;by_cases h64:64<(bU P).length
 ·have H64:Hid (64<(bU P).length):=h64;clear h64;go_upto_region 6 with (first|(go_at_call 22;(with_reducible refine(HAL.out).mono ?_);rintro e2 w2 hR2;obtain⟨g2,⟨-,rfl⟩|⟨h0,-⟩⟩:=hR2;rotate_left;exact absurd H64.out h0))
  (obtain⟨zrz,⟨r0,r1,r2,r3,r4,r5,r6,r7,r8,r9⟩,q0,q1,q2,q3,q4,q5,q6,q7,q8,q9⟩:=HXF.out w2 (HG1.out.trans g2))
  go_wp2_with fail
  refine bodyPost_ret (v:=.tuple #[wU,.int .i64 3]) (by simp[wU,results,Tryz.results7,go_sem,zrz,q0,q1,q2,q3,q4,q5,q6,q7,q8,q9,r0,r1,r2,r3,r4,r5,r6,r7,r8,r9]) rfl ⟨?_,.inr (.inl ⟨hkz.out,H64.out,rfl⟩)⟩
  iterate 10 refine Gr.setCell ?_ hres _
  exact HG2.out.trans (HG1.out.trans g2)
 have H64:Hid (¬64<(bU P).length):=h64;have hn64:(bU P).length≤64:=by omega
 clear h64;go_upto_region 7 with (first|(go_at_call 22;(with_reducible refine(HAL.out).mono ?_);rintro e2 w2 hR2;obtain⟨g2,⟨h0,-⟩|⟨-,v2,O,rfl,ho,hn,hm⟩⟩:=hR2;exact absurd h0 H64.out))
 obtain⟨oa,oc,rfl⟩:=aC ho;have hol:O.length=(bU P).length:=by rw[←hm,List.length_map]
 rw[hol] at ho;have HV0:=aA (BdV.init hol ho hn hm g2);rw[hol];have HWH:Hid (∀q∈bU P,lC P q):=aA (kY hkz.out _);clear ho hn hm hol HAL;generalize hnr:(bU P).length=nr at *;go_wp2_with fail
 go_loopw [28] (fun i wr=>∃k:Nat,i= .int .i64 k∧k≤nr∧BdV P w1 oa oc k wr) (fun i _=>nr-(intOf i).toNat)
 case atStart=>exact⟨0,rfl,Nat.zero_le _,HV0.out⟩
 case round=>
  clear HV0;obtain⟨k,rfl,hk',hV⟩:=hrel;by_cases hlt:k<nr
  ·have hlt1:(k:Int)<(nr:Int):=by omega
   obtain⟨g,Q,rfl,hgb,hgl,gr1,hql,hoQ,hmQ,hfQ,hR⟩:=BdV.read (by rw[hnr];exact hlt) (by rw[hnr];exact hn64) hV;rw[hnr] at hR hoQ hql;have hll:(((bU P).take k).map (bC P)++(bU P).drop k).length=nr:=by rw[List.length_append,List.length_map,List.length_take,List.length_drop];omega
   obtain⟨rb,ro,⟨V1,V2,V3,V4,V5⟩,hs1,zr,⟨y0,y1,y2,y3,y4,y5,y6,y7,y8⟩,hS⟩:=bE.at hR k (by rw[hll];exact hlt);injection hs1 with hs1;injection hs1 with hs1 hs2 hs3;subst hs1 hs2;have hget:(((bU P).take k).map (bC P)++(bU P).drop k)[k]'(by rw[hll];exact hlt)=(bU P)[k]'(by rw[hnr];exact hlt):=by
    rw[List.getElem_append_right (by rw[List.length_map,List.length_take];omega)];simp only[List.length_map,List.length_take,List.getElem_drop]
    congr 1
    omega
   rw[hget] at y0 y1 y2 y8 hS;have hWr:=HWH.out _ (List.getElem_mem (by rw[hnr];exact hlt));generalize hrd:(bU P)[k]'(by rw[hnr];exact hlt)=r at *;obtain⟨hsS,hsN,hsG,hsZ,hsH⟩:=hS;obtain⟨b1,k1,rfl,-⟩:=id hsS;obtain⟨b2,k2,rfl,-⟩:=id hsN;obtain⟨b3,k3,rfl,-⟩:=id hsG;obtain⟨b4,k4,rfl,-⟩:=id hsZ;obtain⟨b5,k5,rfl,-⟩:=id hsH;simp only[List.length_map] at y6 y7;have HOQ2:Hid (bG w1.heap.size wr (.slice (some ⟨g,0,none⟩) Q.length oc) Q):=aA (by rw[hql];exact hoQ);have HFO:=aA (HFL.out bn r b1 b2 b3 b4 b5 k1 k2 k3 k4 k5 wr (HN.out.gr gr1) hWr hsS hsN);have HOQ:=aA hoQ;have HQL:=aA hql;have HMQ:=aA hmQ;have HFQ:=aA hfQ;have HGR:=aA gr1;have HWR:=aA hWr;have HRD:=aA hrd;have HNR:=aA hnr;have HYY:Hid (∀w',Gr wr w'→g<w'.heap.size∧(w'.cell? ⟨g,0+k*9,none⟩=some (.int .i64 r.fr)∧w'.cell? ⟨g,0+k*9+1,none⟩=some (.int .i64 r.dst)∧w'.cell? ⟨g,0+k*9+2,none⟩=some (.int .i64 r.en)∧w'.cell? ⟨g,0+k*9+3,none⟩=some (.slice b1 r.st.length k1)∧w'.cell? ⟨g,0+k*9+4,none⟩=some (.slice b2 r.nd.length k2)∧w'.cell? ⟨g,0+k*9+5,none⟩=some (.slice b3 r.gd.length k3)∧w'.cell? ⟨g,0+k*9+6,none⟩=some (.slice b4 r.zn.length k4)∧w'.cell? ⟨g,0+k*9+7,none⟩=some (.slice b5 r.hd.length k5)∧w'.cell? ⟨g,0+k*9+8,none⟩=some (.bool r.ba))∧
     ∀o,w'.frozen? ⟨g,o,none⟩=false):=aA fun w' gw=>⟨Nat.lt_of_lt_of_le zr gw.size,⟨(gw.cell _ _ zr).trans y0,(gw.cell _ _ zr).trans y1,(gw.cell _ _ zr).trans y2,(gw.cell _ _ zr).trans y3,(gw.cell _ _ zr).trans y4,(gw.cell _ _ zr).trans y5,(gw.cell _ _ zr).trans y6,(gw.cell _ _ zr).trans y7,(gw.cell _ _ zr).trans y8⟩,fun o=>World.ownsRow.frozenAt (aE (show World.ownsRow wr w1.heap.size _ 9 _ Q.length _ from HOQ2.out) gw) o⟩
   clear hsS hsN hsG hsZ hsH hR hget hll hrd hWr hmQ hfQ hoQ hql gr1 hV y0 y1 y2 y3 y4 y5 y6 y7 y8 zr;obtain⟨zr,⟨y0,y1,y2,y3,y4,y5,y6,y7,y8⟩,-⟩:=HYY.out wr (Gr.refl _);simp only[Nat.zero_add] at y0 y1 y2 y3 y4 y5 y6 y7 y8;go_wp2_with (first|(go_at_call 23;(with_reducible refine(HFO.out).mono ?_);rintro e3 w3 ⟨⟨V1,V2,V3,V4,V5⟩,rfl,hrn,g3⟩;obtain⟨v1a,v1c,hv1⟩:=aC hrn.st;obtain⟨v2a,v2c,hv2⟩:=aC hrn.nd;obtain⟨v3a,v3c,hv3⟩:=aC hrn.gd;obtain⟨v4a,v4c,hv4⟩:=aC hrn.zn;obtain⟨v5a,v5c,hv5⟩:=aC hrn.hd;dsimp only at hv1 hv2 hv3 hv4 hv5;subst hv1 hv2 hv3 hv4 hv5;unfold eL;have HRN:=aA hrn;have HG3:=aA g3;obtain⟨zr3,⟨u0,u1,u2,u3,u4,u5,u6,u7,u8⟩,ff⟩:=HYY.out w3 g3;simp only[Nat.zero_add] at u0 u1 u2 u3 u4 u5 u6 u7 u8;(have f0:=ff (k*9));(have f1:=ff (k*9+1));(have f2:=ff (k*9+2));(have f3:=ff (k*9+3));(have f4:=ff (k*9+4));(have f5:=ff (k*9+5));(have f6:=ff (k*9+6));(have f7:=ff (k*9+7));(have f8:=ff (k*9+8));clear hrn g3 ff))
   have HST:=aA (BdS.step hkz.out (by rw[HNR.out];exact hlt) HGR.out (by rw[HQL.out,HNR.out]) (by rw[HNR.out];exact HOQ.out) HMQ.out HFQ.out hgb (by rw[HRD.out];exact HWR.out) HG3.out (by rw[HRD.out];exact HRN.out));go_roundw
   case rel=>exact⟨k+1,by go_num,hlt,by rw[BdV.iff];have h:=HST.out;rw[HRD.out] at h;exact h⟩
   case measure=>simp[intOf];omega
  ·have hlt1:¬(k:Int)<(nr:Int):=by omega
   have hke:k=nr:=by omega
   subst hke;have hb0:w.heap.size+1<w1.heap.size:=(HXF.out w1 HG1.out).1;obtain⟨gr1,hFin⟩:=BdV.fin (b:=w.heap.size+1) (by rw[hnr];exact hn64) (by rw[hnr];exact hV) hb0;rw[hnr] at hFin;have HFI:=aA hFin;have HGR:=aA gr1;have HPW:=aA (HPL.out wr gr1);have HZS:Hid (w.heap.size+1<wr.heap.size):=aA (Nat.lt_of_lt_of_le hb0 gr1.size);clear gr1 hFin hV hb0;go_wp2_with (first|(go_at_call 24;(with_reducible refine(HPW.out).mono ?_);rintro e3 w3 ⟨x1,x2,x3,x4,rfl,g3,hfz⟩;obtain⟨d1,m1,d2,m2,d3,m3,d4,m4,he,-⟩:=hfz.now;unfold aX at he;simp at he;obtain⟨rfl,rfl,rfl,rfl⟩:=he;have HFZ:=aA hfz;have HG3:=aA g3;obtain⟨zrz,⟨r0,r1,r2,r3,r4,r5,r6,r7,r8,r9⟩,q0,q1,q2,q3,q4,q5,q6,q7,q8,q9⟩:=HXF.out w3 ((HG1.out.trans HGR.out).trans g3);unfold aX;clear hfz g3))
   refine bodyPost_ret (v:=.tuple #[chV P (.slice d1 P.es.length m1) (.slice d2 P.js.length m2) (.slice d3 P.ss.length m3) (.slice d4 P.ls.length m4) (.slice oa k oc),.int .i64 0]) (by simp[chV,results,Tryz.results7,go_sem,zrz,q0,q1,q2,q3,q4,q5,q6,q7,q8,q9,r0,r1,r2,r3,r4,r5,r6,r7,r8,r9]) rfl ⟨?_,.inr (.inr ⟨hkz.out,(by rw[hnr];exact H64.out),_,_,_,_,_,rfl,?_,?_⟩)⟩
   ·iterate 10 refine Gr.setCell ?_ hres _
    exact HG2.out.trans ((HG1.out.trans HGR.out).trans HG3.out)
   ·refine HFZ.out _ ?_
    iterate 10 refine Kp.trans ?_ (Kp.set HZS.out)
    exact Kp.refl _ _
   ·refine HFI.out w3 HG3.out _ ?_
    iterate 10 refine Kp.trans ?_ (Kp.set rfl)
    exact Kp.refl _ _
end Go.Proofs.YthkbcablnpbmgaaGreatDoor
