/- Helps of the proof of ChartBuilds. -/
import Derived.Test.YthkbcablnpbmgaaGreatDoorRows
import Derived.Test.YthkbcablnpbmgaaGreatDoorB21
import Derived.Test.YthkbcablnpbmgaaGreatDoorB14
set_option linter.unusedVariables false
set_option linter.unusedSimpArgs false
namespace Go.Proofs.YthkbcablnpbmgaaGreatDoor
open Go.ChangeShapes Go.WideShapes Go.ChangeAt Go.RowKit Go.Maps
def Kp(X:Nat→Prop)(w w':World):Prop:=w.heap.size≤w'.heap.size∧∀k,k<w.heap.size→¬X k→w'.heap[k]? =w.heap[k]?
theorem Kp.refl(X:Nat→Prop)(w:World):Kp X w w:=⟨Nat.le_refl _,fun _ _ _=>rfl⟩
theorem Kp.trans{X:Nat→Prop}{u v w:World}(h:Kp X u v)(k:Kp X v w):Kp X u w:=
 ⟨Nat.le_trans h.1 k.1,fun i hi hx=>(k.2 i (Nat.lt_of_lt_of_le hi h.1) hx).trans (h.2 i hi hx)⟩
theorem Kp.trans'{X Y:Nat→Prop}{u v w:World}(h:Kp X u v)(k:Kp Y v w)(hY:∀i,Y i→X i∨u.heap.size≤i):Kp X u w:=
 ⟨Nat.le_trans h.1 k.1,fun i hi hx=>(k.2 i (Nat.lt_of_lt_of_le hi h.1) (fun hy=>by rcases hY i hy with h|h;exact hx h;omega)).trans (h.2 i hi hx)⟩
theorem Kp.gr{X:Nat→Prop}{w w':World}(g:Gr w w'):Kp X w w':=⟨g.size,fun k hk _=>g.block k hk⟩
theorem Kp.set{X:Nat→Prop}{b o:Nat}{w:World}{u:Value}(hX:X b):Kp X w (w.setCell ⟨b,o,none⟩ u):=⟨by simp,fun k _ hk=>heap_setCell_other w ⟨b,o,none⟩ k u (fun e=>hk (by rw[e];exact hX))⟩
theorem Kp.grown{X:Nat→Prop}{w w':World}{row:Option Nat}(g:w.grownBy w' row)(hX:∀k,row=some k→X k):Kp X w w':=⟨g.size,fun k hk hx=>g.block k hk (fun e=>hx (hX k e.symm))⟩
theorem Kp.mono{X Y:Nat→Prop}{w w':World}(h:Kp X w w')(hX:∀k,k<w.heap.size→X k→Y k):Kp Y w w':=⟨h.1,fun k hk hy=>h.2 k hk (fun hx=>hy (hX k hk hx))⟩
def Frz(X:Nat→Prop)(w:World)(F:World→Prop):Prop:=∀w',Kp X w w'→F w'
theorem Frz.now{X:Nat→Prop}{w:World}{F:World→Prop}(h:Frz X w F):F w:=h w (Kp.refl _ _)
theorem Frz.sub{X Y:Nat→Prop}{w w':World}{F:World→Prop}(h:Frz X w F)(k:Kp X w w')(hY:∀i,Y i→X i∨w.heap.size≤i):Frz Y w' F:=fun w2 k2=>h w2 (k.trans' k2 hY)
theorem Frz.kp{X:Nat→Prop}{w w':World}{F:World→Prop}(h:Frz X w F)(k:Kp X w w'):Frz X w' F:=h.sub k fun i hi=>.inl hi
theorem Frz.gr{X:Nat→Prop}{w w':World}{F:World→Prop}(h:Frz X w F)(g:Gr w w'):Frz X w' F:=h.kp (Kp.gr g)
theorem mF{X:Nat→Prop}{w:World}{B:Nat}{e:TypeId}{sz n:Nat}{v:Value}{xs:List Value}(h:w.ownsRow B e sz v n xs)(hX:∀k,v.ownBlock=some k→¬X k):Frz X w fun w'=>w'.ownsRow B e sz v n xs:=
 fun w' k=>bQ h fun i hi=>k.2 i (bP h i hi) (hX i hi)
theorem lA{X:Nat→Prop}{w:World}{B:Nat}{e:TypeId}{sz n:Nat}{v:Value}{xs:List Value}(h:w.ownsRow B e sz v n xs)(hX:∀k,X k→k<B):Frz X w fun w'=>w'.ownsRow B e sz v n xs:=
 mF h fun k hk hx=>by have:=cN h k hk;have:=hX k hx;omega
theorem pU{w:World}{B:Nat}{e:TypeId}{sz n c:Nat}{a:Option Addr}{xs:List Value}(h:w.ownsRow B e sz (.slice a n c) n xs)(k:Nat)(hk:k≤n):w.ownsRow B e sz (.slice a k c) k (xs.take (k*sz)):=by
 have hl:k*sz≤n*sz:=Nat.mul_le_mul_right sz hk;refine⟨by rw[List.length_take,h.1];exact Nat.min_eq_left hl,?_⟩;rcases h.2 with⟨hv,h0⟩|⟨g,cap,cur,hv,hb,hh,hn,hc,hs,ht⟩
 ·cases hv
  obtain rfl:k=0:=by omega
  exact .inl ⟨rfl,rfl⟩
 ·cases hv
  exact .inr ⟨g,c,cur,rfl,hb,hh,by omega,hc,hs,by rw[←ht,List.take_take,Nat.min_eq_left hl]⟩
theorem tG{w:World}{B:Nat}{e:TypeId}{sz n c:Nat}{a:Option Addr}{xs:List Value}(h:w.ownsRow B e sz (.slice a n c) n xs):n≤c:=by
 rcases h.2 with⟨hv,h0⟩|⟨g,cap,cur,hv,hb,hh,hn,-⟩
 ·omega
 ·cases hv;exact hn
theorem jY{w:World}{B:Nat}{e:TypeId}{sz n:Nat}{v:Value}{xs:List Value}(h:w.ownsRow B e sz v n xs)(hn:0<n):∃g c,v= .slice (some ⟨g,0,none⟩) n c∧B≤g∧g<w.heap.size:=by
 have h1:=cN h;have h2:=bP h;rcases h.2 with⟨hv,h0⟩|⟨g,cap,cur,hv,-⟩
 ·omega
 ·exact⟨g,cap,hv,h1 g (by rw[hv];rfl),h2 g (by rw[hv];rfl)⟩
theorem kI{w:World}{B B':Nat}{e e':TypeId}{sz sz' n n':Nat}{v v':Value}{xs xs':List Value}(h:w.ownsRow B e sz v n xs)(h':w.ownsRow B' e' sz' v' n' xs')(hne:e'≠e){k k':Nat}(hk:v.ownBlock=some k)(hk':v'.ownBlock=some k'):k≠k':=fun he=>oB h h' hne k hk (by rw[hk',he])
theorem lJ{w:World}{B B':Nat}{e e':TypeId}{sz sz' n n' g c o:Nat}{v u:Value}{xs xs':List Value}(h:w.ownsRow B e sz v n xs)(h':w.ownsRow B' e' sz' (.slice (some ⟨g,0,none⟩) n' c) n' xs')(hne:e'≠e):(w.setCell ⟨g,o,none⟩ u).ownsRow B e sz v n xs:=
 bQ h fun k hk=>heap_setCell_other w ⟨g,o,none⟩ k u (fun e2=>kI h h' hne hk rfl (by rw[e2]))
theorem bC{w:World}{B b:Nat}{e T:TypeId}{sz n o:Nat}{v u:Value}{xs:List Value}{cs:Array Value}(h:w.ownsRow B e sz v n xs)(hb:w.heap[b]? =some (.cells cs T))(hne:T≠e):(w.setCell ⟨b,o,none⟩ u).ownsRow B e sz v n xs:=
 bQ h fun k hk=>heap_setCell_other w ⟨b,o,none⟩ k u (fun e2=>aK h hb hne (by rw[hk,e2]))
structure cM (B:Nat) (w:World) (S:S5) (r:Rod):Prop where
 st:dL B w S.st r.st
 nd:bT B w S.nd r.nd
 gd:bT B w S.gd r.gd
 zn:cC B w S.zn r.zn
 hd:cC B w S.hd r.hd
theorem cM.gr{B:Nat}{w w':World}{S:S5}{r:Rod}(h:cM B w S r)(g:Gr w w'):cM B w' S r:=⟨aE h.st g,aE h.nd g,aE h.gd g,aE h.zn g,aE h.hd g⟩
theorem cM.base{B B':Nat}{w:World}{S:S5}{r:Rod}(h:cM B w S r)(hb:B'≤B):cM B' w S r:=⟨aP h.st hb,aP h.nd hb,aP h.gd hb,aP h.zn hb,aP h.hd hb⟩
theorem cM.at_{B:Nat}{w w':World}{S:S5}{r:Rod}(h:cM B w S r)(hk:∀(e:TypeId) (sz n:Nat) (v:Value) (xs:List Value) (C:Nat),(e=81∨e=112∨e=3)→w.ownsRow C e sz v n xs→∀k,v.ownBlock=some k→w'.heap[k]? =w.heap[k]?):cM B w' S r:=
 ⟨bQ h.st (hk _ _ _ _ _ _ (.inl rfl) h.st),bQ h.nd (hk _ _ _ _ _ _ (.inr (.inl rfl)) h.nd),bQ h.gd (hk _ _ _ _ _ _ (.inr (.inl rfl)) h.gd),bQ h.zn (hk _ _ _ _ _ _ (.inr (.inr rfl)) h.zn),bQ h.hd (hk _ _ _ _ _ _ (.inr (.inr rfl)) h.hd)⟩
theorem cM.frzB{X:Nat→Prop}{B:Nat}{w:World}{S:S5}{r:Rod}(h:cM B w S r)(hX:∀k,X k→k<B):Frz X w fun w'=>cM B w' S r:=
 fun w' k=>⟨lA h.st hX w' k,lA h.nd hX w' k,lA h.gd hX w' k,lA h.zn hX w' k,lA h.hd hX w' k⟩
theorem cM.frzT{B g n c C sz:Nat}{w:World}{S:S5}{r:Rod}{xs:List Value}(h:cM B w S r)(ho:w.ownsRow C 47 sz (.slice (some ⟨g,0,none⟩) n c) n xs):Frz (fun k=>k=g) w fun w'=>cM B w' S r:=
 fun w' k=>h.at_ fun e sz m v ys D he hw i hi=>k.2 i (bP hw i hi) (fun e'=>kI hw ho (by rcases he with rfl|rfl|rfl<;>decide) hi rfl e')
theorem cM.rods{B:Nat}{w:World}{S:S5}{r:Rod}(h:cM B w S r)(hl:fU r):uO w S r:=
 ⟨h.st.stps hl.1,h.nd.nds hl.2.1,h.gd.nds hl.2.2.1,cC.vals h.zn hl.2.2.2.1,cC.vals h.hd hl.2.2.2.2⟩
def bI(B:Nat)(w:World)(Q:List (Rod×S5)):Prop:=∀p∈Q,cM B w p.2 p.1∧fU p.1
theorem bI.nil(B:Nat)(w:World):bI B w []:=fun p hp=>by cases hp
theorem bI.gr{B:Nat}{w w':World}{Q:List (Rod×S5)}(h:bI B w Q)(g:Gr w w'):bI B w' Q:=fun p hp=>⟨(h p hp).1.gr g,(h p hp).2⟩
theorem bI.base{B B':Nat}{w:World}{Q:List (Rod×S5)}(h:bI B w Q)(hb:B'≤B):bI B' w Q:=fun p hp=>⟨(h p hp).1.base hb,(h p hp).2⟩
theorem bI.app{B:Nat}{w:World}{Q Q':List (Rod×S5)}(h:bI B w Q)(h':bI B w Q'):bI B w (Q++Q'):=fun p hp=>by
 rcases List.mem_append.1 hp with hp|hp
 ·exact h p hp
 ·exact h' p hp
theorem bI.snoc{B:Nat}{w:World}{Q:List (Rod×S5)}{r:Rod}{S:S5}(h:bI B w Q)(h1:cM B w S r)(h2:fU r):bI B w (Q++[(r,S)]):=h.app fun p hp=>by
 obtain rfl:=List.mem_singleton.1 hp;exact⟨h1,h2⟩
theorem bI.grown{B C n:Nat}{w w':World}{Q:List (Rod×S5)}{v:Value}{xs:List Value}(h:bI B w Q)(hg:w.grownBy w' v.ownBlock)(ho:w.ownsRow C 47 9 v n xs):bI B w' Q:=fun p hp=>by
 obtain⟨h1,h2⟩:=h p hp;exact⟨h1.at_ fun e sz m u ys D he hw k hk=>hg.block k (bP hw k hk) (oB hw ho (by rcases he with rfl|rfl|rfl<;>decide) k hk),h2⟩
theorem bI.kp{X:Nat→Prop}{B:Nat}{w w':World}{Q:List (Rod×S5)}(h:Frz X w fun w'=>bI B w' Q)(k:Kp X w w'):bI B w' Q:=h w' k
theorem Jw{B:Nat}{w:World}{v:Value}{Q:List (Rod×S5)}(h:bF B w v Q)(hq:∀p∈Q,uO w p.2 p.1)(hl:Q.length≤maxLen):bD w v (Q.map Prod.fst):=by
 refine⟨⟨fun i=>(Q.getD i default).2,?_,fun i hi=>?_⟩,nA h⟩
 ·have:=iC (C:=fun i j=>(cL ((Q.map Prod.fst).getD i default) (Q.getD i default).2).getD j default) h hl fun i j hi hj=>by
   rw[dM (fun p:Rod×S5=>cL p.1 p.2) 9 (fun _=>rfl) Q i j hi hj];rw[aO Q i hi,aO (Q.map Prod.fst) i (by simpa using hi),List.getElem_map]
   match j,hj with
   | 0,_=>rfl
   | 1,_=>rfl
   | 2,_=>rfl
   | 3,_=>rfl
   | 4,_=>rfl
   | 5,_=>rfl
   | 6,_=>rfl
   | 7,_=>rfl
   | 8,_=>rfl
  rw[List.length_map];exact this
 ·have hi':i<Q.length:=by simpa using hi
  rw[aO (Q.map Prod.fst) i hi,List.getElem_map];show uO w (Q.getD i default).2 Q[i].1;rw[aO Q i hi'];exact hq _ (List.getElem_mem hi')
def stF(f:Fr):Stp:=⟨f.x.e,f.x.x,f.o⟩
instance:Inhabited Fr:=⟨⟨⟨0,0⟩,0,0,[]⟩⟩
def dN(Q:List (Fr×Value)):List Stp:=Q.map fun q=>stF q.1
def lR(Q:List (Fr×Value)):List Value:=Q.map fun q=>.int .i64 q.1.p
structure PaS (B:Nat) (w:World) (b:Nat) (be:Int) (Q:List (Fr×Value)) (v1 v2 v3:Value):Prop where
 box:w.heap[b]? =some (.cells #[.int .i64 be,v1,v2,v3] 166)
 st:w.ownsRow B 81 3 v1 Q.length ((dN Q).flatMap Stp.cs)
 po:w.ownsRow B 3 1 v2 Q.length (lR Q)
 le:w.ownsRow B 170 1 v3 Q.length (Q.map Prod.snd)
theorem PaS.gr{B:Nat}{w w':World}{b:Nat}{be:Int}{Q:List (Fr×Value)}{v1 v2 v3:Value}(h:PaS B w b be Q v1 v2 v3)(g:Gr w w'):PaS B w' b be Q v1 v2 v3:=
 ⟨(g.block b (aB h.box)).trans h.box,aE h.st g,aE h.po g,aE h.le g⟩
def PaX(b:Nat)(v1 v2 v3:Value)(k:Nat):Prop:=k=b∨v1.ownBlock=some k∨v2.ownBlock=some k∨v3.ownBlock=some k
def Bx(X:Nat→Prop)(w:World)(Q:List (Fr×Value)):Prop:=∀q∈Q,Frz X w (fun w'=>fP w' q.2 q.1.l)∧iZ q.2
theorem Bx.sub{X Y:Nat→Prop}{w w':World}{Q:List (Fr×Value)}(h:Bx X w Q)(k:Kp X w w')(hY:∀i,Y i→X i∨w.heap.size≤i):Bx Y w' Q:=fun q hq=>⟨(h q hq).1.sub k hY,(h q hq).2⟩
theorem PaS.cells{B:Nat}{w:World}{b:Nat}{be:Int}{Q:List (Fr×Value)}{v1 v2 v3:Value}(h:PaS B w b be Q v1 v2 v3):b<w.heap.size∧(w.cell? ⟨b,0,none⟩=some (.int .i64 be)∧w.cell? ⟨b,1,none⟩=some v1∧w.cell? ⟨b,2,none⟩=some v2∧w.cell? ⟨b,3,none⟩=some v3)∧∀o,w.frozen? ⟨b,o,none⟩=false:=
 ⟨aB h.box,⟨cell_of_row w b 0 _ _ _ h.box,cell_of_row w b 1 _ _ _ h.box,cell_of_row w b 2 _ _ _ h.box,cell_of_row w b 3 _ _ _ h.box⟩,fun o=>frozen_of_row w b o _ _ h.box⟩
theorem PaS.pop{B:Nat}{w:World}{b:Nat}{be:Int}{Q:List (Fr×Value)}{q:Fr×Value}{a1 a2 a3:Option Addr}{c1 c2 c3:Nat}(h:PaS B w b be (Q++[q]) (.slice a1 (Q.length+1) c1) (.slice a2 (Q.length+1) c2) (.slice a3 (Q.length+1) c3)):
  PaS B (((w.drew.setCell ⟨b,1,none⟩ (.slice a1 Q.length c1)).setCell ⟨b,2,none⟩ (.slice a2 Q.length c2)).setCell ⟨b,3,none⟩ (.slice a3 Q.length c3)) b be Q (.slice a1 Q.length c1) (.slice a2 Q.length c2) (.slice a3 Q.length c3)∧
  Kp (fun k=>k=b) w (((w.drew.setCell ⟨b,1,none⟩ (.slice a1 Q.length c1)).setCell ⟨b,2,none⟩ (.slice a2 Q.length c2)).setCell ⟨b,3,none⟩ (.slice a3 Q.length c3)):=by
 obtain⟨hb,h1,h2,h3⟩:=h;rw[List.length_append,List.length_singleton] at h1 h2 h3;have hd:w.drew.heap[b]? =some (.cells #[.int .i64 be,.slice a1 (Q.length+1) c1,.slice a2 (Q.length+1) c2,.slice a3 (Q.length+1) c3] 166):=hb;have k1:=heap_setCell_same w.drew b 1 _ _ (.slice a1 Q.length c1) hd;have k2:=heap_setCell_same (w.drew.setCell ⟨b,1,none⟩ (.slice a1 Q.length c1)) b 2 _ _ (.slice a2 Q.length c2) k1;have k3:=heap_setCell_same ((w.drew.setCell ⟨b,1,none⟩ (.slice a1 Q.length c1)).setCell ⟨b,2,none⟩ (.slice a2 Q.length c2)) b 3 _ _ (.slice a3 Q.length c3) k2;have o1:w.drew.ownsRow B 81 3 (.slice a1 Q.length c1) Q.length ((dN Q).flatMap Stp.cs):=by
  have:=pU h1 Q.length (by omega);have e:((dN (Q++[q])).flatMap Stp.cs).take (Q.length*3)=(dN Q).flatMap Stp.cs:=by
   unfold dN;rw[List.map_append,List.flatMap_append];refine List.take_left' ?_;have:∀L:List Stp,(L.flatMap Stp.cs).length=L.length*3:=fun L=>by
    induction L with
    | nil=>rfl
    | cons s t ih=>rw[List.flatMap_cons,List.length_append,ih,List.length_cons];show 3+_=_;omega
   rw[this,List.length_map]
  rw[e] at this;exact this
 have o2:w.drew.ownsRow B 3 1 (.slice a2 Q.length c2) Q.length (lR Q):=by
  have:=pU h2 Q.length (by omega);have e:(lR (Q++[q])).take (Q.length*1)=lR Q:=by
   unfold lR;rw[List.map_append];exact List.take_left' (by rw[List.length_map];omega)
  rw[e] at this;exact this
 have o3:w.drew.ownsRow B 170 1 (.slice a3 Q.length c3) Q.length (Q.map Prod.snd):=by
  have:=pU h3 Q.length (by omega);have e:((Q++[q]).map Prod.snd).take (Q.length*1)=Q.map Prod.snd:=by
   rw[List.map_append];exact List.take_left' (by rw[List.length_map];omega)
  rw[e] at this;exact this
 refine⟨⟨k3,?_,?_,?_⟩,?_⟩
 ·exact bC (bC (bC o1 hd (by decide)) k1 (by decide)) k2 (by decide)
 ·exact bC (bC (bC o2 hd (by decide)) k1 (by decide)) k2 (by decide)
 ·exact bC (bC (bC o3 hd (by decide)) k1 (by decide)) k2 (by decide)
 ·have:Kp (fun k=>k=b) w w.drew:=⟨Nat.le_refl _,fun _ _ _=>rfl⟩;exact((this.trans (Kp.set rfl)).trans (Kp.set rfl)).trans (Kp.set rfl)
theorem nR(L:List Stp):(L.flatMap Stp.cs).length=L.length*3:=by
 induction L with
 | nil=>rfl
 | cons s t ih=>rw[List.flatMap_cons,List.length_append,ih,List.length_cons];show 3+_=_;omega
theorem PaS.len{B:Nat}{w:World}{b:Nat}{be:Int}{Q:List (Fr×Value)}{v1 v2 v3:Value}(h:PaS B w b be Q v1 v2 v3):∃a1 a2 a3 c1 c2 c3,v1= .slice a1 Q.length c1∧v2= .slice a2 Q.length c2∧v3= .slice a3 Q.length c3:=by
 obtain⟨a1,c1,e1⟩:=aC h.st;obtain⟨a2,c2,e2⟩:=aC h.po;obtain⟨a3,c3,e3⟩:=aC h.le;exact⟨a1,a2,a3,c1,c2,c3,e1,e2,e3⟩
def tqQ(Q:List (Fr×Value)):List Fr:=(Q.map Prod.fst).reverse
theorem eW(Q:List (Fr×Value))(q:Fr×Value):tqQ (Q++[q])=q.1::tqQ Q:=by unfold tqQ;simp
theorem sY(Q:List (Fr×Value)):(tqQ Q).length=Q.length:=by unfold tqQ;simp
def lM(Q:List (Fr×Value)):List Nd:=Q.flatMap fun q=>if q.1.p=0 then [] else [⟨q.1.x.e,q.1.p⟩]
def gR(s d en:Int)(Q:List (Fr×Value)):Rod:=⟨s,d,en,dN Q,lM Q,[],[],[],false⟩
theorem oT{α:Type}{p:List α→Prop}(h0:p [])(h1:∀l x,p l→p (l++[x]))(l:List α):p l:=by
 have:∀m:List α,p m.reverse:=fun m=>by
  induction m with
  | nil=>exact h0
  | cons a t ih=>rw[List.reverse_cons];exact h1 _ _ ih
 have:=this l.reverse
 rwa [List.reverse_reverse] at this
theorem kV(Q:List (Fr×Value))(q:Fr×Value):dN (Q++[q])=dN Q++[stF q.1]:=by unfold dN;simp
theorem eX(Q:List (Fr×Value)):(dN Q).length=Q.length:=by unfold dN;simp
theorem rQ(Q:List (Fr×Value))(q:Fr×Value):lM (Q++[q])=jZ (lM Q) q.1.x.e q.1.p:=by
 unfold lM jZ;rw[List.flatMap_append];by_cases h:q.1.p=0<;>simp[h]
theorem Fa(s:Int)(Q:List (Fr×Value)):(gN s (tqQ Q)).st=dN Q∧(gN s (tqQ Q)).nd=lM Q∧(gN s (tqQ Q)).fr=s:=by
 induction Q using oT with
 | h0=>exact⟨rfl,rfl,rfl⟩
 | h1 Q q ih=>
  rw[eW,kV,rQ];show((gN s (tqQ Q)).st++[_]=_)∧(jZ (gN s (tqQ Q)).nd q.1.x.e q.1.p=_)∧(gN s (tqQ Q)).fr=s;rw[ih.1,ih.2.1,ih.2.2];exact⟨rfl,rfl,rfl⟩
theorem pD(s d en:Int)(Q:List (Fr×Value))(q:Fr×Value):bW (gN s (tqQ Q)) ⟨q.1.x.e,q.1.x.x,q.1.o⟩ q.1.p en d=gR s d en (Q++[q]):=by
 obtain⟨h1,h2,h3⟩:=Fa s Q;unfold bW gR;rw[h1,h2,h3,kV,rQ];rfl
theorem Bz(be:Int)(s:Int)(Q:List (Fr×Value))(x:Prt):zG be (dN Q) x.e=(decide (Q.length<12)&& !sT be (gN s (tqQ Q)) x):=by
 unfold zG sT;rw[(Fa s Q).1,eX,vD,Bool.not_or,Bool.and_assoc]
def qJ(P:Pln)(be s:Int)(Q:List (Fr×Value))(x:Prt):List Rod:=onR P be (12-Q.length) (gN s (tqQ Q)) x++tT P be s (tqQ Q)
def sS(P:Pln)(be s:Int)(Q:List (Fr×Value))(x:Prt):Nat:=lG P be (12-Q.length) (gN s (tqQ Q)) x+mI P be s (tqQ Q)
def jG(P:Pln)(be s:Int)(Q:List (Fr×Value)):List Rod:=tT P be s (tqQ Q)
def iJ(P:Pln)(be s:Int)(Q:List (Fr×Value)):Nat:=mI P be s (tqQ Q)
theorem xM{P:Pln}{be s:Int}{Q:List (Fr×Value)}{x:Prt}(h:zG be (dN Q) x.e=false):qJ P be s Q x=jG P be s Q∧iJ P be s Q+1=sS P be s Q x:=by
 rw[Bz be s] at h;unfold qJ jG sS iJ;cases hn:12-Q.length with
 | zero=>
  refine⟨by simp[onR],?_⟩;show _=1+_;omega
 | succ n=>
  have h1:Q.length<12:=by omega
  have h2:sT be (gN s (tqQ Q)) x=true:=by simpa[h1] using h
  rw[onR,lG,if_pos h2,if_pos h2];exact⟨rfl,by omega⟩
def iQ(P:Pln)(x:Prt):Fr:=⟨x,-1,0,aV (aG P x.e) x.x⟩
theorem vG{P:Pln}{be s:Int}{Q:List (Fr×Value)}{x:Prt}{v:Value}(h:zG be (dN Q) x.e=true):
  Q.length<12∧qJ P be s Q x=(if aG P x.e=4 then [gR s (-1) 2 (Q++[(iQ P x,v)])] else [])++jG P be s (Q++[(iQ P x,v)])∧iJ P be s (Q++[(iQ P x,v)])+2=sS P be s Q x:=by
 rw[Bz be s] at h;simp only[Bool.and_eq_true,decide_eq_true_eq,Bool.not_eq_true'] at h;obtain⟨h1,h2⟩:=h;refine⟨h1,?_,?_⟩
 ·unfold qJ jG;rw[eW];show _=_++((aV (aG P x.e) x.x).flatMap (jD P (onR P be (11-(tqQ Q).length)) (gN s (tqQ Q)) x)++tT P be s (tqQ Q));have e:12-Q.length=(11-(tqQ Q).length)+1:=by rw[sY];omega
  rw[e,onR,if_neg (by rw[h2];decide)];by_cases hk:aG P x.e=4
  ·rw[if_pos hk,if_pos hk,hk];have ho:aV 4 x.x=[]:=by
    unfold aV;split
    ·rfl
    ·simp
   rw[ho,List.flatMap_nil,List.nil_append,←pD s (-1) 2 Q (iQ P x,v)];rfl
  ·rw[if_neg hk,if_neg hk,List.nil_append]
 ·unfold sS iJ;rw[eW];show 1+((aV (aG P x.e) x.x).map (sN P (lG P be (11-(tqQ Q).length)) (gN s (tqQ Q)) x)).sum+mI P be s (tqQ Q)+2=_;have e:12-Q.length=(11-(tqQ Q).length)+1:=by rw[sY];omega
  rw[e,lG,if_neg (by rw[h2];decide)];omega
theorem J3{P:Pln}{be s:Int}{Q:List (Fr×Value)}{q:Fr×Value}(h:q.1.l=[]):jG P be s (Q++[q])=jG P be s Q∧iJ P be s Q+1=iJ P be s (Q++[q]):=by
 unfold jG iJ;rw[eW];show(q.1.l.flatMap _++_=_)∧_=1+(q.1.l.map _).sum+_;rw[h];exact⟨rfl,by simp;omega⟩
def dK(f:Fr)(a:Int×Int)(l:List (Int×Int)):Fr:=⟨f.x,a.1,a.2,l⟩
theorem Lc{P:Pln}{be s:Int}{Q:List (Fr×Value)}{q:Fr×Value}{a:Int×Int}{l:List (Int×Int)}{v:Value}(h:q.1.l=a::l):
  jG P be s (Q++[q])=(match bE P.ss ⟨q.1.x.e,a.1⟩ with
   | some k=>[gR s k 1 (Q++[(dK q.1 a l,v)])]++jG P be s (Q++[(dK q.1 a l,v)])
   | none=>match aN P.js ⟨q.1.x.e,a.1⟩ with
    | none=>[gR s (-1) 3 (Q++[(dK q.1 a l,v)])]++jG P be s (Q++[(dK q.1 a l,v)])
    | some y=>qJ P be s (Q++[(dK q.1 a l,v)]) y)∧
  (match bE P.ss ⟨q.1.x.e,a.1⟩ with
   | some k=>iJ P be s (Q++[(dK q.1 a l,v)])+1
   | none=>match aN P.js ⟨q.1.x.e,a.1⟩ with
    | none=>iJ P be s (Q++[(dK q.1 a l,v)])+1
    | some y=>sS P be s (Q++[(dK q.1 a l,v)]) y+1)=iJ P be s (Q++[q]):=by
 have e1:jG P be s (Q++[q])=jD P (onR P be (11-(tqQ Q).length)) (gN s (tqQ Q)) q.1.x a++(l.flatMap (jD P (onR P be (11-(tqQ Q).length)) (gN s (tqQ Q)) q.1.x)++tT P be s (tqQ Q)):=by
  unfold jG;rw[eW];show q.1.l.flatMap _++_=_;rw[h,List.flatMap_cons,List.append_assoc]
 have e2:jG P be s (Q++[(dK q.1 a l,v)])=l.flatMap (jD P (onR P be (11-(tqQ Q).length)) (gN s (tqQ Q)) q.1.x)++tT P be s (tqQ Q):=by
  unfold jG;rw[eW];rfl
 have e3:iJ P be s (Q++[q])=1+(sN P (lG P be (11-(tqQ Q).length)) (gN s (tqQ Q)) q.1.x a+(l.map (sN P (lG P be (11-(tqQ Q).length)) (gN s (tqQ Q)) q.1.x)).sum)+mI P be s (tqQ Q):=by
  unfold iJ;rw[eW];show 1+(q.1.l.map _).sum+_=_;rw[h,List.map_cons,List.sum_cons]
 have e4:iJ P be s (Q++[(dK q.1 a l,v)])=1+(l.map (sN P (lG P be (11-(tqQ Q).length)) (gN s (tqQ Q)) q.1.x)).sum+mI P be s (tqQ Q):=by
  unfold iJ;rw[eW];rfl
 have e5:∀y,qJ P be s (Q++[(dK q.1 a l,v)]) y=onR P be (11-(tqQ Q).length) (bW (gN s (tqQ Q)) ⟨q.1.x.e,q.1.x.x,a.1⟩ a.2 0 (-1)) y++jG P be s (Q++[(dK q.1 a l,v)]):=fun y=>by
  unfold qJ jG;rw[eW,List.length_append,List.length_singleton,sY];have:12-(Q.length+1)=11-Q.length:=by omega
  rw[this];rfl
 have e6:∀y,sS P be s (Q++[(dK q.1 a l,v)]) y=lG P be (11-(tqQ Q).length) (bW (gN s (tqQ Q)) ⟨q.1.x.e,q.1.x.x,a.1⟩ a.2 0 (-1)) y+iJ P be s (Q++[(dK q.1 a l,v)]):=fun y=>by
  unfold sS iJ;rw[eW,List.length_append,List.length_singleton,sY];have:12-(Q.length+1)=11-Q.length:=by omega
  rw[this];rfl
 have r1:=fun k=>pD s k 1 Q (dK q.1 a l,v);have r2:=pD s (-1) 3 Q (dK q.1 a l,v);generalize (l.map (sN P (lG P be (11-(tqQ Q).length)) (gN s (tqQ Q)) q.1.x)).sum=SM at e3 e4;generalize l.flatMap (jD P (onR P be (11-(tqQ Q).length)) (gN s (tqQ Q)) q.1.x)++tT P be s (tqQ Q)=FM at e1 e2;rw[e1,e3];unfold jD sN;cases hr:bE P.ss ⟨q.1.x.e,a.1⟩ with
 | some k=>
  dsimp only
  rw[e2,e4];refine⟨?_,?_⟩;rotate_left
  ·show 1+SM+mI P be s (tqQ Q)+1=1+(1+SM)+mI P be s (tqQ Q);omega
  rw[←r1 k];rfl
 | none=>
  dsimp only
  cases hn:aN P.js ⟨q.1.x.e,a.1⟩ with
  | none=>
   dsimp only
   rw[e2,e4];refine⟨?_,?_⟩;rotate_left
   ·show 1+SM+mI P be s (tqQ Q)+1=1+(1+SM)+mI P be s (tqQ Q);omega
   rw[←r2];rfl
  | some y=>
   dsimp only
   rw[e5,e6,e2,e4];refine⟨rfl,?_⟩;show lG P be (11-(tqQ Q).length) (bW (gN s (tqQ Q)) ⟨q.1.x.e,q.1.x.x,a.1⟩ a.2 0 (-1)) y+(1+SM+mI P be s (tqQ Q))+1=1+(1+lG P be (11-(tqQ Q).length) (bW (gN s (tqQ Q)) ⟨q.1.x.e,q.1.x.x,a.1⟩ a.2 0 (-1)) y+SM)+mI P be s (tqQ Q);omega
theorem Jh(P:Pln)(be s:Int):jG P be s []=[]:=rfl
structure PaR (B:Nat) (w:World) (b:Nat) (be:Int) (L1:List Stp) (L2 L3:List Value) (v1 v2 v3:Value):Prop where
 box:w.heap[b]? =some (.cells #[.int .i64 be,v1,v2,v3] 166)
 st:w.ownsRow B 81 3 v1 L1.length (L1.flatMap Stp.cs)
 po:w.ownsRow B 3 1 v2 L2.length L2
 le:w.ownsRow B 170 1 v3 L3.length L3
section
variable {B b:Nat} {w w' wq w9:World} {be:Int} {L1:List Stp} {L2 L3:List Value} {v1 v2 v3 v':Value} {Q:List (Fr×Value)}
theorem PaS.toR(h:PaS B w b be Q v1 v2 v3):PaR B w b be (dN Q) (lR Q) (Q.map Prod.snd) v1 v2 v3:=
 ⟨h.box,by rw[eX];exact h.st,by unfold lR;rw[List.length_map];exact h.po,by rw[List.length_map];exact h.le⟩
theorem PaR.toS(h:PaR B w b be L1 L2 L3 v1 v2 v3)(e1:L1=dN Q)(e2:L2=lR Q)(e3:L3=Q.map Prod.snd):PaS B w b be Q v1 v2 v3:=by
 subst e1 e2 e3;exact⟨h.box,by have:=h.st;rwa [eX] at this,by have:=h.po;unfold lR at this ⊢;rwa [List.length_map] at this,by have:=h.le;rwa [List.length_map] at this⟩
theorem PaR.gr(h:PaR B w b be L1 L2 L3 v1 v2 v3)(g:Gr w w'):PaR B w' b be L1 L2 L3 v1 v2 v3:=
 ⟨(g.block b (aB h.box)).trans h.box,aE h.st g,aE h.po g,aE h.le g⟩
theorem PaR.cells(h:PaR B w b be L1 L2 L3 v1 v2 v3):b<w.heap.size∧(w.cell? ⟨b,0,none⟩=some (.int .i64 be)∧w.cell? ⟨b,1,none⟩=some v1∧w.cell? ⟨b,2,none⟩=some v2∧w.cell? ⟨b,3,none⟩=some v3)∧∀o,w.frozen? ⟨b,o,none⟩=false:=
 ⟨aB h.box,⟨cell_of_row w b 0 _ _ _ h.box,cell_of_row w b 1 _ _ _ h.box,cell_of_row w b 2 _ _ _ h.box,cell_of_row w b 3 _ _ _ h.box⟩,fun o=>frozen_of_row w b o _ _ h.box⟩
theorem PaR.lt(h:PaR B w b be L1 L2 L3 v1 v2 v3):∀k,PaX b v1 v2 v3 k→k<w.heap.size:=fun k hk=>by
 rcases hk with rfl|hk|hk|hk
 ·exact aB h.box
 ·exact bP h.st k hk
 ·exact bP h.po k hk
 ·exact bP h.le k hk
theorem PaR.form(h:PaR B w b be L1 L2 L3 v1 v2 v3):∃a1 a2 a3 c1 c2 c3,v1= .slice a1 L1.length c1∧v2= .slice a2 L2.length c2∧v3= .slice a3 L3.length c3:=by
 obtain⟨a1,c1,e1⟩:=aC h.st;obtain⟨a2,c2,e2⟩:=aC h.po;obtain⟨a3,c3,e3⟩:=aC h.le;exact⟨a1,a2,a3,c1,c2,c3,e1,e2,e3⟩
theorem PaR.far(h:PaR B w b be L1 L2 L3 v1 v2 v3):some b≠v1.ownBlock∧some b≠v2.ownBlock∧some b≠v3.ownBlock:=⟨aK h.st h.box (by decide),aK h.po h.box (by decide),aK h.le h.box (by decide)⟩
theorem PaR.putSt{x:Stp}(h:PaR B w b be L1 L2 L3 v1 v2 v3)(gq:Gr w wq)(hgrow:wq.grownBy w9 v1.ownBlock)(hown:w9.ownsRow B 81 3 v' (L1.length+1) (L1.flatMap Stp.cs++x.cs)):
  PaR B (w9.setCell ⟨b,1,none⟩ v') b be (L1++[x]) L2 L3 v' v2 v3∧Kp (PaX b v1 v2 v3) w (w9.setCell ⟨b,1,none⟩ v'):=by
 have hq:=h.gr gq;have hb9:w9.heap[b]? =some (.cells #[.int .i64 be,v1,v2,v3] 166):=(hgrow.block b (aB hq.box) (aK hq.st hq.box (by decide))).trans hq.box;have hpo:=aM hq.po hgrow hq.st (by decide);have hle:=aM hq.le hgrow hq.st (by decide);have hself:=hown;refine⟨⟨?_,?_,?_,?_⟩,?_⟩
 ·rw[heap_setCell_same w9 b 1 _ _ v' hb9];rfl
 ·have:=bC (o:=1) (u:=v') hself hb9 (by decide);simpa using this
 ·exact bC (o:=1) (u:=v') hpo hb9 (by decide)
 ·exact bC (o:=1) (u:=v') hle hb9 (by decide)
 ·exact((Kp.gr gq).trans (Kp.grown hgrow fun k hk=>.inr (.inl hk))).trans (Kp.set (.inl rfl))
theorem PaR.putPo{x:Value}(h:PaR B w b be L1 L2 L3 v1 v2 v3)(gq:Gr w wq)(hgrow:wq.grownBy w9 v2.ownBlock)(hown:w9.ownsRow B 3 1 v' (L2.length+1) (L2++[x])):
  PaR B (w9.setCell ⟨b,2,none⟩ v') b be L1 (L2++[x]) L3 v1 v' v3∧Kp (PaX b v1 v2 v3) w (w9.setCell ⟨b,2,none⟩ v'):=by
 have hq:=h.gr gq;have hb9:w9.heap[b]? =some (.cells #[.int .i64 be,v1,v2,v3] 166):=(hgrow.block b (aB hq.box) (aK hq.po hq.box (by decide))).trans hq.box;have hst:=aM hq.st hgrow hq.po (by decide);have hle:=aM hq.le hgrow hq.po (by decide);have hself:=hown;refine⟨⟨?_,?_,?_,?_⟩,?_⟩
 ·rw[heap_setCell_same w9 b 2 _ _ v' hb9];rfl
 ·exact bC (o:=2) (u:=v') hst hb9 (by decide)
 ·have:=bC (o:=2) (u:=v') hself hb9 (by decide);simpa using this
 ·exact bC (o:=2) (u:=v') hle hb9 (by decide)
 ·exact((Kp.gr gq).trans (Kp.grown hgrow fun k hk=>.inr (.inr (.inl hk)))).trans (Kp.set (.inl rfl))
theorem PaR.putLe{x:Value}(h:PaR B w b be L1 L2 L3 v1 v2 v3)(gq:Gr w wq)(hgrow:wq.grownBy w9 v3.ownBlock)(hown:w9.ownsRow B 170 1 v' (L3.length+1) (L3++[x])):
  PaR B (w9.setCell ⟨b,3,none⟩ v') b be L1 L2 (L3++[x]) v1 v2 v'∧Kp (PaX b v1 v2 v3) w (w9.setCell ⟨b,3,none⟩ v'):=by
 have hq:=h.gr gq;have hb9:w9.heap[b]? =some (.cells #[.int .i64 be,v1,v2,v3] 166):=(hgrow.block b (aB hq.box) (aK hq.le hq.box (by decide))).trans hq.box;have hst:=aM hq.st hgrow hq.le (by decide);have hpo:=aM hq.po hgrow hq.le (by decide);have hself:=hown;refine⟨⟨?_,?_,?_,?_⟩,?_⟩
 ·rw[heap_setCell_same w9 b 3 _ _ v' hb9];rfl
 ·exact bC (o:=3) (u:=v') hst hb9 (by decide)
 ·exact bC (o:=3) (u:=v') hpo hb9 (by decide)
 ·have:=bC (o:=3) (u:=v') hself hb9 (by decide);simpa using this
 ·exact((Kp.gr gq).trans (Kp.grown hgrow fun k hk=>.inr (.inr (.inr hk)))).trans (Kp.set (.inl rfl))
theorem PaX.st{w:World}{k g:Nat}{u:Value}(hu:∀i,u.ownBlock=some i→v1.ownBlock=some i∨w.heap.size≤i)(h:PaX b u v2 v3 k):PaX b v1 v2 v3 k∨w.heap.size≤k:=by
 rcases h with h|h|h|h
 ·exact .inl (.inl h)
 ·rcases hu k h with h|h
  ·exact .inl (.inr (.inl h))
  ·exact .inr h
 ·exact .inl (.inr (.inr (.inl h)))
 ·exact .inl (.inr (.inr (.inr h)))
theorem PaX.po{w:World}{k g:Nat}{u:Value}(hu:∀i,u.ownBlock=some i→v2.ownBlock=some i∨w.heap.size≤i)(h:PaX b v1 u v3 k):PaX b v1 v2 v3 k∨w.heap.size≤k:=by
 rcases h with h|h|h|h
 ·exact .inl (.inl h)
 ·exact .inl (.inr (.inl h))
 ·rcases hu k h with h|h
  ·exact .inl (.inr (.inr (.inl h)))
  ·exact .inr h
 ·exact .inl (.inr (.inr (.inr h)))
theorem PaX.le{w:World}{k g:Nat}{u:Value}(hu:∀i,u.ownBlock=some i→v3.ownBlock=some i∨w.heap.size≤i)(h:PaX b v1 v2 u k):PaX b v1 v2 v3 k∨w.heap.size≤k:=by
 rcases h with h|h|h|h
 ·exact .inl (.inl h)
 ·exact .inl (.inr (.inl h))
 ·exact .inl (.inr (.inr (.inl h)))
 ·rcases hu k h with h|h
  ·exact .inl (.inr (.inr (.inr h)))
  ·exact .inr h
theorem iK{W:World}{v:Value}{gg n c H:Nat}(hat:v.ownBlock=some gg∨gg=H)(hH:W.heap.size≤H):∀i,(Value.slice (some ⟨gg,0,none⟩) n c).ownBlock=some i→v.ownBlock=some i∨W.heap.size≤i:=fun i hi=>by
 have e:gg=i:=by simpa[Value.ownBlock] using hi
 rcases hat with h|h
 ·rw[←e];exact .inl h
 ·right;omega
theorem Jz{X:Nat→Prop}{v:Value}{l:List (Int×Int)}{M:Nat}(h:fP w v l)(hf:∀k,v.ownBlock=some k→M≤k)(hX:∀k,X k→k<M):Frz X w fun w'=>fP w' v l:=by
 intro w' k;obtain⟨a,c,rfl,hm,hx⟩:=h;refine⟨a,c,rfl,hm,?_⟩;rcases hx with hx|⟨g,o,rfl,hb,hc⟩
 ·exact .inl hx
 ·have hg:=hf g rfl;have hb':w'.heap[g]? =w.heap[g]?:=k.2 g hb (fun hx=>by have:=hX g hx;omega);exact .inr ⟨g,o,rfl,Nat.lt_of_lt_of_le hb k.1,fun i j hi hj=>(World.cell?_of_block (a:=⟨g,_,none⟩) hb').trans (hc i j hi hj)⟩
theorem F3{a:Int×Int}{l:List (Int×Int)}{g o n c:Nat}(h:fP w (.slice (some ⟨g,o,none⟩) n c) (a::l)){A:Option Addr}(hA:1<n→A=some ⟨g,o+2,none⟩):fP w (.slice A (n-1) (c-1)) l:=by
 obtain⟨a',c',e,hm,hx⟩:=h;cases e
 simp only[List.length_cons] at hm hx hA ⊢;refine⟨A,c-1,by simp,by omega,?_⟩;by_cases ht:l=[]
 ·exact .inl (by rw[ht];rfl)
 ·have hl:=List.length_pos_iff.2 ht;rcases hx with hx|⟨g',o',e,hb,hc⟩
  ·omega
  ·cases e
   refine .inr ⟨g,o+2,hA (by omega),hb,fun i j hi hj=>?_⟩;have:=hc (i+1) j (by simp;omega) hj;have e:o+(i+1)*2+j=o+2+i*2+j:=by omega
   rw[e] at this;rw[this];unfold oH;simp
theorem Ak(b o n c:Nat)(hn:1≤n)(hc:n≤c):∃A,(∀w',(Instr.slice 170 (.slice (some ⟨b,o,none⟩) n c) (some (.int .i64 1)) none none).run Tryz.prog w'= .ok (.slice A (n-1) (c-1)) w')∧(1<n→A=some ⟨b,o+2,none⟩):=by
 refine⟨if c=1 then some ⟨b,o,none⟩ else some ⟨b,o+2,none⟩,fun w'=>?_,fun h=>by rw[if_neg (by omega)]⟩;rw[run_slice_l (w:=w') (P:=Tryz.prog) 170 _ n c (by kernel_rfl) .i64 1 (by omega) (by omega)];have hs:(sizeOf (Tryz.prog.elem 170)).run Tryz.prog w'= .ok 2 w':=by kernel_rfl
 rw[hs];simp only[Result.andThen,sliced];rw[show Int.toNat 1=1 from rfl];by_cases h1:c=1
 ·rw[if_pos h1,if_pos h1]
 ·rw[if_neg h1,if_neg h1];rfl
theorem Hj{v:Value}{a:Int×Int}{l:List (Int×Int)}(h:fP w v (a::l)):∃g o c,v= .slice (some ⟨g,o,none⟩) (l.length+1) c∧g<w.heap.size∧w.cell? ⟨g,o,none⟩=some (.int .i64 a.1)∧w.cell? ⟨g,o+1,none⟩=some (.int .i64 a.2):=by
 obtain⟨a',c',rfl,hm,hx⟩:=h;rcases hx with hx|⟨g,o,rfl,hb,hc⟩
 ·simp at hx
 ·refine⟨g,o,c',by simp,hb,?_,?_⟩
  ·have:=hc 0 0 (by simp) (by omega);simpa[oH] using this
  ·have:=hc 0 1 (by simp) (by omega);simpa[oH] using this
end
end Go.Proofs.YthkbcablnpbmgaaGreatDoor
